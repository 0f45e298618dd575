/-
  Programs on typed data, and the proofs that the code does what they say; written by a program (dx.py).
-/
import Derived.Test.YtfpgidpffhmadaaGreatDoorProg
import Derived.Test.YtfpgidpffhmadaaGreatDoorDc
import Derived.KernelRfl
import Derived.Test.YtfpgidpffhmadaaGreatDoorDxP
import Derived.Test.YtfpgidpffhmadaaGreatDoorDxF1
namespace Go.Proofs.YtfpgidpffhmadaaGreatDoor
open Go Go.Dw Go.Proofs
set_option maxRecDepth 100000
open Go.Dw renaming ZZ → mV,XI → bN,Rq → lO,VK → bD,XM → cK,XO → nI,XQ → xS,Aab → rG,Aad → sQ,RD → aO,XH → aS,XP → oF,XJ → bL,QF → cV,Pd → cG,Sf → cR,Rr → sV,SK → iS,Vk → iO,SM → lS,Vl → lW,VL → fA,Abx → fF,Abo → eX,AcP → nC,Uj → lF,Uk → sP,Qf → pT,Pw → pF,Aaa → uN,XN → nW,XL → bX,RC → aN,Zk → aL,KH → eB,XR → cD,VN → bK,Aac → rT,XV → sK,XS → eT,Zn → xC,VM → xL,RE → xR,XX → zR,WT → lR,TU → hE,Qg → lE,QG → bH,Px → bM,Tg → bR,QH → xE,ZX → cP,XT → lP,UF → sC,KL → mF,rf → r
def AhL : Mm:=(.seq (.reg [P 2 (.box (T 0) 5 54),⟨(some 4),(.asg (.c .nils) (some ⟨1,3⟩)),none,[]⟩] false) (.seq (.seq (.reg [P 8 (.ld 5 true (T 2)),P 9 (.call (.c (.clo 56 [])) [(T 8)]),M 7 9,P 10 (.ext (T 7) 0),P 11 (.ext (T 7) 1),P 5 (.asg (T 10) none),P 6 (.asg (T 11) none)] false) (.seq (.reg [M 12 6] false) (.cond (T 12) (.reg [M 13 1,M 14 5,P 15 (.call (.c (.clo 77 [])) [(T 13),(T 14)]),⟨(some 1),(.asg (T 15) (some ⟨1,3⟩)),none,[]⟩] false) .skip))) (.seq (.reg [M 16 1,P 17 (.ld 5 true (T 2)),P 18 (.call (.c (.clo 79 [])) [(T 17)]),P 19 (.call (.c (.clo 78 [])) [(T 18)]),P 20 (.call (.c (.clo 54 [])) [(T 16),(T 19)]),⟨(some 4),(.asg (T 20) (some ⟨1,3⟩)),none,[]⟩] false) .ret)))
theorem Alf : (Tryz.f66.body.bind (Mo Tryz.prog Tryz.f66.ntmps)) = some AhL:=by kernel_rfl
theorem Alg : Tryz.f66.results.toList.mapM (My Tryz.prog) = some [(.t 4)]:=by kernel_rfl
def Yq (a : LU × (List Int)) : List D:=[LW a.1,.sl (a.2.map LS)]
def Yp (ds : List D) : LU × (List Int):=(SS (ds.getD 0 .top),(uL uI) (ds.getD 1 .top))
theorem Acq (a : LU × (List Int)) : Yp (Yq a) = a:=by simp [Yp,Yq,Nt (u:=uI) (en:=LS) (fun _=>rfl)]
def Adm (b : (List Int)) : D:=.sl (b.map LS)
def Adl (_b : (List Int)) : List D:=[]
noncomputable def AaK : Dw.Spec:=Ml [] .val Yq Yp (fun a=>VV a.1 a.2) Adm Adl
set_option maxHeartbeats 4000000 in
theorem Afd : Mk Tryz.prog 66 AaK:=by
 refine Mv (Mp (l:=[(56,Ow),(77,Wd),(79,Yr),(78,AaG),(54,RO)]) (by simp [UQ,Adx,Aec,AeU,Aam])) Tryz.func66 (by decide) Alf Alg (np:=2) (by decide) Acq (fun _=>r) (fun _=>r) (by decide)<|?_
 rintro ⟨x1,out2⟩
 show TrE (specs [(56,Ow),(77,Wd),(79,Yr),(78,AaG),(54,RO)]) AhL (Mz [] .val [(.t 4)] Adm Adl) ⟨[(0,.agg [.int .i64 x1.Op,.int .i64 x1.A,.int .i64 x1.B,.int .i64 x1.C,.int .u64 x1.Imm]),(1,.sl (out2.map LS))],[],262144⟩ (VV x1 out2)
 refine Mq<|?_
 unfold AhL VV
 refine sQ<|rG<|bX r r r r r<|aN (α:=Int) r LS r<|nI<|xS<|sQ<|sQ<|rG<|lO (v:=.agg [.int .i64 x1.Op,.int .i64 x1.A,.int .i64 x1.B,.int .i64 x1.C,.int .u64 x1.Imm]) (z:=.agg [.int .i64 x1.Op,.int .i64 x1.A,.int .i64 x1.B,.int .i64 x1.C,.int .u64 x1.Imm]) r r r r r r<|bD fun r3 hr3=>cG x1 r r r RL r r (by simp) r hr3 r<|mV r r<|eX (v:=.int .i64 r3.1) r r r<|eX (v:=.bool r3.2) r r r<|aS r r<|aS r r<|nI<|xS<|sQ<|rG<|mV r r<|nI<|xS<|cD (c:=r3.2) r ?_ ?_
 ·refine rG<|mV r r<|mV r r<|bD fun r4 hr4=>cV (out2,r3.1) r r r Zt r r (by simp) r hr4<|aL r r<|nI<|xS<|sQ<|rG<|mV r r<|lO (v:=.agg [.int .i64 x1.Op,.int .i64 x1.A,.int .i64 x1.B,.int .i64 x1.C,.int .u64 x1.Imm]) (z:=.agg [.int .i64 x1.Op,.int .i64 x1.A,.int .i64 x1.B,.int .i64 x1.C,.int .u64 x1.Imm]) r r r r r r<|bD fun r5 hr5=>cR (l:=r5) (en:=LS) x1 r r r Xl r r (by simp) r hr5 r<|bD fun r6 hr6=>cR (l:=r6) (en:=LS) r5 r r r Zs r r (by simp) (by first | rfl | (simp only [Mw,MB]; rfl) | simp [SP]) hr6 r<|bD fun r7 hr7=>cV (r4,r6) r r r TD r r (by simp) (by first | rfl | (simp only [Mw,MB]; rfl) | simp [QC]) hr7<|aL r r<|nI<|xS<|rT<|Nl (b:=r7) r ?_ r r ?_ r
  all_goals first|(simp;done)|(simp;omega)|rfl|(simp [Me,Mc];done)
 ·refine sK<|xS<|sQ<|rG<|mV r r<|lO (v:=.agg [.int .i64 x1.Op,.int .i64 x1.A,.int .i64 x1.B,.int .i64 x1.C,.int .u64 x1.Imm]) (z:=.agg [.int .i64 x1.Op,.int .i64 x1.A,.int .i64 x1.B,.int .i64 x1.C,.int .u64 x1.Imm]) r r r r r r<|bD fun r8 hr8=>cR (l:=r8) (en:=LS) x1 r r r Xl r r (by simp) r hr8 r<|bD fun r9 hr9=>cR (l:=r9) (en:=LS) r8 r r r Zs r r (by simp) (by first | rfl | (simp only [Mw,MB]; rfl) | simp [SP]) hr9 r<|bD fun r10 hr10=>cV (out2,r9) r r r TD r r (by simp) (by first | rfl | (simp only [Mw,MB]; rfl) | simp [QC]) hr10<|aL r r<|nI<|xS<|rT<|Nl (b:=r10) r ?_ r r ?_ r
  all_goals first|(simp;done)|(simp;omega)|rfl|(simp [Me,Mc];done)

def AhQ : Mm:=(.seq (.reg [P 4 (.asg (.c (.int .u64 0)) none)] false) (.seq (.reg [M 5 0,M 6 1,P 7 (.bin .andNot (T 5) (T 6)),P 4 (.asg (T 7) none)] false) .ret))
theorem Alq : (Tryz.f72.body.bind (Mo Tryz.prog Tryz.f72.ntmps)) = some AhQ:=by kernel_rfl
theorem Alr : Tryz.f72.results.toList.mapM (My Tryz.prog) = some [(.t 4)]:=by kernel_rfl
def TH (a : Int × Int) : List D:=[.int .u64 a.1,.int .u64 a.2]
def TG (ds : List D) : Int × Int:=(uI (ds.getD 0 .top),uI (ds.getD 1 .top))
theorem YK (a : Int × Int) : TG (TH a) = a:=by simp [TG,TH,uI]
def Zr (b : Int) : D:=.int .u64 b
def Zq (_b : Int) : List D:=[]
noncomputable def Vv : Dw.Spec:=Ml [] .ground TH TG (fun a=>Qt a.1 a.2) Zr Zq
set_option maxHeartbeats 4000000 in
theorem Ada : Mk Tryz.prog 72 Vv:=by
 refine Mv (Nb) Tryz.func72 (by decide) Alq Alr (np:=2) (by decide) YK (fun _=>r) (fun _=>r) (by decide)<|?_
 rintro ⟨x1,y2⟩
 show TrE (specs []) AhQ (Mz [] .ground [(.t 4)] Zr Zq) ⟨[(0,.int .u64 x1),(1,.int .u64 y2)],[],262144⟩ (Qt x1 y2)
 refine Mq<|?_
 unfold AhQ Qt
 refine sQ<|rG<|aS r r<|nI<|xS<|sQ<|rG<|mV r r<|mV r r<|bN (v:=.int .u64 (IntKind.u64.wrap ((BitVec.ofInt IntKind.u64.bits x1 &&& ~~~ BitVec.ofInt IntKind.u64.bits y2).toNat))) r r r r r<|aS r r<|nI<|xS<|rT<|Mg (b:=IntKind.u64.wrap ((BitVec.ofInt IntKind.u64.bits x1 &&& ~~~ BitVec.ofInt IntKind.u64.bits y2).toNat)) r ?_ r r ?_ r
 all_goals first|(simp;done)|(simp;omega)|rfl|(simp [Me,Mc];done)

def ON (a : LX × LX) : List D:=[MG a.1,MG a.2,.clo 72 []]
def OM (ds : List D) : LX × LX:=(Oa (ds.getD 0 .top),Oa (ds.getD 1 .top))
theorem Rh (a : LX × LX) : OM (ON a) = a:=by simp [OM,ON]
def RH (b : LX × LX × LX) : D:=MG b.1
def RG (b : LX × LX × LX) : List D:=[MG b.2.1,MG b.2.2]
noncomputable def NU : Dw.Spec:=Ml [(0,(8,107)),(1,(8,107))] (.ptr 8 107) ON OM (fun a=>Nh a.1 a.2) RH RG
set_option maxHeartbeats 4000000 in
theorem Wg : Mk Tryz.prog 69 NU:=by
 refine Mv (Mp (l:=[(72,Vv)]) (by simp [Ada])) Tryz.func69 (by decide) Agi Agj (np:=3) (by decide) Rh (fun _=>r) (fun _=>r) (by decide)<|?_
 rintro ⟨s1,t2⟩
 show TrE (specs [(72,Vv)]) Afb (Mz [(0,(8,107)),(1,(8,107))] (.ptr 8 107) [(.t 6)] RH RG) ⟨[(0,.optr 8192 0 0 0),(1,.optr 8193 1 0 0),(2,.clo 72 [])],[(8192,some (0,⟨false,true,8,107,[.agg [.int .u64 s1.a0,.int .u64 s1.a1,.int .u64 s1.a2,.int .u64 s1.a3,.int .u64 s1.a4,.int .u64 s1.a5,.int .u64 s1.a6,.int .u64 s1.a7]]⟩)),(8193,some (1,⟨false,true,8,107,[.agg [.int .u64 t2.a0,.int .u64 t2.a1,.int .u64 t2.a2,.int .u64 t2.a3,.int .u64 t2.a4,.int .u64 t2.a5,.int .u64 t2.a6,.int .u64 t2.a7]]⟩))],262144⟩ (Nh s1 t2)
 refine Mq<|?_
 unfold Afb Nh
 refine sQ<|rG<|aS r r<|nI<|xS<|sQ<|rG<|bL (cs:=[.int .u64 0,.int .u64 0,.int .u64 0,.int .u64 0,.int .u64 0,.int .u64 0,.int .u64 0,.int .u64 0]) (ps:=[]) r r r r<|bX r r r r r<|aS r r<|nI<|xS<|sQ<|sQ<|rG<|mV r r<|nI<|xS<|bK<|lP (E:=fun (s : LX × Int) (g : Nat)=>[(0,.optr 8192 0 0 0),(1,.optr 8193 1 0 0),(2,.clo 72 []),(7,.optr 10 g 0 0),(11,.int .i64 s.2)]) (O:=fun s g=>[(10,some (g,⟨false,true,8,107,[.agg [.int .u64 s.1.a0,.int .u64 s.1.a1,.int .u64 s.1.a2,.int .u64 s.1.a3,.int .u64 s.1.a4,.int .u64 s.1.a5,.int .u64 s.1.a6,.int .u64 s.1.a7]]⟩)),(8192,some (0,⟨false,true,8,107,[.agg [.int .u64 s1.a0,.int .u64 s1.a1,.int .u64 s1.a2,.int .u64 s1.a3,.int .u64 s1.a4,.int .u64 s1.a5,.int .u64 s1.a6,.int .u64 s1.a7]]⟩)),(8193,some (1,⟨false,true,8,107,[.agg [.int .u64 t2.a0,.int .u64 t2.a1,.int .u64 t2.a2,.int .u64 t2.a3,.int .u64 t2.a4,.int .u64 t2.a5,.int .u64 t2.a6,.int .u64 t2.a7]]⟩))]) (body:=fun s=>Np s1 t2 s.1 s.2) (s:=((LX.mk 0 0 0 0 0 0 0 0),0)) _ ((hE ⟨rfl,r,r,r,r,trivial⟩ ⟨rfl,r,r,trivial⟩))<|?_
 rintro ⟨x3,x4⟩ v10x1 nn
 try dsimp only
 unfold Np
 refine sQ<|rG<|bN (v:=.bool (decide (x4 < 8))) r r r r r<|nI<|xS<|sQ<|cD (c:=(decide (x4 < 8))) r ?_ ?_
 ·exact sK<|xS<|sQ<|bK<|sQ<|rG<|mV r r<|aS r r<|nI<|xS<|rG<|mV r r<|mV r r<|mV r r<|mV r r<|mV r r<|nC r r r<|cK fun hq=>Qz r r r hq<|bD fun s_e5 hs_e5=>SL (q:=s_e5) (l:=s1.toList) (en:=VB) (j:=x4.toNat) (by simp) r r r hs_e5 r (fun _=>r)<|mV r r<|mV r r<|nC r r r<|cK fun hq=>Qz r r r hq<|bD fun t_e6 ht_e6=>SL (q:=t_e6) (l:=t2.toList) (en:=VB) (j:=x4.toNat) (by simp) r r r ht_e6 r (fun _=>r)<|bD fun r7 hr7=>cG (s_e5,t_e6) r r r YK r r (by simp) r hr7 r<|nC r r r<|cK fun hq=>Qz r r r hq<|bD fun x_o8 hx_o8=>AdT (q:=x_o8) (q':=r7) (l:=x3.toList) (en:=VB) (j:=x4.toNat) (z':=.agg [.int .u64 ((x3.set x4.toNat r7).a0),.int .u64 ((x3.set x4.toNat r7).a1),.int .u64 ((x3.set x4.toNat r7).a2),.int .u64 ((x3.set x4.toNat r7).a3),.int .u64 ((x3.set x4.toNat r7).a4),.int .u64 ((x3.set x4.toNat r7).a5),.int .u64 ((x3.set x4.toNat r7).a6),.int .u64 ((x3.set x4.toNat r7).a7)]) (by simp) r r r r r hx_o8 r r (congrArg (fun l=>D.agg (l.map VB)) (Oe x3 x4.toNat r7).symm)<|Mj (by kernel_rfl)<|bM<|xS<|rG<|bN (v:=.int .i64 (IntKind.i64.wrap (x4 + 1))) r r r r r<|mV r r<|nI<|xL (s:=((x3.set x4.toNat r7),IntKind.i64.wrap (x4 + 1))) _ ((hE ⟨rfl,r,r,r,r,trivial⟩ ⟨rfl,r,r,trivial⟩))
 ·refine eT<|xE<|lE<|bH<|xS<|sQ<|rG<|mV r r<|aS r r<|nI<|xS<|rT<|AcY (b:=(x3,s1,t2)) r ?_ r ?_ r r ?_ r
  all_goals first|(simp;done)|(simp;omega)|rfl|(simp [Me,Mc];done)

def AhA : Mm:=(.seq (.reg [⟨(some 4),(.asg (.c .nils) (some ⟨1,3⟩)),none,[]⟩] false) (.seq (.reg [M 5 0,P 6 (.call (.c (.clo 68 [])) [(T 5)]),M 7 1,P 8 (.call (.c (.clo 68 [])) [(T 7)]),P 9 (.call (.c (.clo 69 [])) [(T 6),(T 8),(.c (.clo 72 []))]),P 10 (.call (.c (.clo 71 [])) [(T 9)]),⟨(some 4),(.asg (T 10) (some ⟨1,3⟩)),none,[]⟩] false) .ret))
theorem AkJ : (Tryz.f55.body.bind (Mo Tryz.prog Tryz.f55.ntmps)) = some AhA:=by kernel_rfl
theorem AkK : Tryz.f55.results.toList.mapM (My Tryz.prog) = some [(.t 4)]:=by kernel_rfl
def Vx (a : (List Int) × (List Int)) : List D:=[.sl (a.1.map LS),.sl (a.2.map LS)]
def Vw (ds : List D) : (List Int) × (List Int):=((uL uI) (ds.getD 0 .top),(uL uI) (ds.getD 1 .top))
theorem Aak (a : (List Int) × (List Int)) : Vw (Vx a) = a:=by simp [Vw,Vx,Nt (u:=uI) (en:=LS) (fun _=>rfl)]
def Xg (b : (List Int)) : D:=.sl (b.map LS)
def AaW (_b : (List Int)) : List D:=[]
noncomputable def Xh : Dw.Spec:=Ml [] .val Vx Vw (fun a=>QB a.1 a.2) Xg AaW
set_option maxHeartbeats 4000000 in
theorem AdI : Mk Tryz.prog 55 Xh:=by
 refine Mv (Mp (l:=[(68,NJ),(299077,NU),(71,MV)]) (by simp [Sn,Wg,PA])) Tryz.func55 (by decide) AkJ AkK (np:=2) (by decide) Aak (fun _=>r) (fun _=>r) (by decide)<|?_
 rintro ⟨a1,b2⟩
 show TrE (specs [(68,NJ),(299077,NU),(71,MV)]) AhA (Mz [] .val [(.t 4)] Xg AaW) ⟨[(0,.sl (a1.map LS)),(1,.sl (b2.map LS))],[],262144⟩ (QB a1 b2)
 refine Mq<|?_
 unfold AhA QB
 refine sQ<|rG<|aN (α:=Int) r LS r<|nI<|xS<|sQ<|rG<|mV r r<|bD fun r3 hr3=>cP a1 r r r Ov r r (by simp) r hr3<|mV r r<|bD fun r4 hr4=>cP b2 r r r Ov r r (by simp) rfl hr4<|bD fun r5 hr5=>cP (r3,r4) rfl rfl (show _ = some NU from by kernel_rfl) Rh rfl rfl (by simp) r hr5<|bD fun r6 hr6=>cR (l:=r6.1) (en:=LS) r5.1 r r r Ok r r (by simp) r hr6 r<|aO (l:=r6.1) (en:=LS) r r r r<|nI<|xS<|rT<|Nl (b:=r6.1) r ?_ r r ?_ (by first | rfl | (simp only [Mw,MB]; rfl) | simp [Xg])
 all_goals first|(simp;done)|(simp;omega)|rfl|(simp [Me,Mc];done)

def Ahy : Mm:=(.seq (.reg [P 5 (.asg (.c (.bool false)) none)] false) (.seq (.reg [P 6 (.ld 1 false (T 1)),M 7 0,P 8 (.fldA 0 (T 2)),⟨(some 9),(.ld 1 false (T 8)),none,[2]⟩,P 10 (.ld 1 false (T 3)),⟨(some 11),(.ixA 1 (T 9) (T 10)),none,[3,4]⟩,⟨(some 12),(.ld 1 false (T 11)),none,[5]⟩,⟨(some 13),(.call (.c (.clo 55 [])) [(T 7),(T 12)]),none,[1,6]⟩,⟨(some 14),(.call (.c (.clo 54 [])) [(T 6),(T 13)]),none,[0,7,7]⟩,⟨none,(.st 1 (T 1) (T 14)),none,[8,8,0,1,2,3,4,5,6,7,8]⟩] true) (.seq (.reg [P 5 (.asg (.c (.bool true)) none)] false) .ret)))
theorem AkF : (Tryz.f53.body.bind (Mo Tryz.prog Tryz.f53.ntmps)) = some Ahy:=by kernel_rfl
theorem AkG : Tryz.f53.results.toList.mapM (My Tryz.prog) = some [(.t 5)]:=by kernel_rfl
def Pk (a : (List Int) × (List Int) × Mf × Int) : List D:=[.sl (a.1.map LS),.sl (a.2.1.map LS),.fptr (Nf a.2.2.1) 0,.fptr (.int .i64 a.2.2.2) 0]
def Pj (ds : List D) : (List Int) × (List Int) × Mf × Int:=((uL uI) (ds.getD 0 .top),(uL uI) (ds.getD 1 .top),OL (fpD (ds.getD 2 .top)),uI (fpD (ds.getD 3 .top)))
theorem RU (a : (List Int) × (List Int) × Mf × Int) : Pj (Pk a) = a:=by simp [Pj,Pk,uI,fpD,Nt (u:=uI) (en:=LS) (fun _=>rfl)]
def Sk (b : Bool × (List Int)) : D:=.bool b.1
def Sj (b : Bool × (List Int)) : List D:=[.sl (b.2.map LS)]
noncomputable def PG : Dw.Spec:=Ml [(1,(1,42))] .val Pk Pj (fun a=>NK a.1 a.2.1 a.2.2.1 a.2.2.2) Sk Sj
set_option maxHeartbeats 4000000 in
theorem Xn : Mk Tryz.prog 53 PG:=by
 refine Mv (Mp (l:=[(55,Xh),(54,RO)]) (by simp [AdI,Aam])) Tryz.func53 (by decide) AkF AkG (np:=4) (by decide) RU (fun _=>r) (fun _=>r) (by decide)<|?_
 rintro ⟨need1,cap2,cap3,cap4⟩
 show TrE (specs [(55,Xh),(54,RO)]) Ahy (Mz [(1,(1,42))] .val [(.t 5)] Sk Sj) ⟨[(0,.sl (need1.map LS)),(1,.optr 8193 1 0 0),(2,.fptr (.agg [.sl (cap3.Out.map (eL LS))]) 0),(3,.fptr (.int .i64 cap4) 0)],[(8193,some (1,⟨false,true,1,42,[.sl (cap2.map LS)]⟩))],262144⟩ (NK need1 cap2 cap3 cap4)
 refine Mq<|?_
 unfold Ahy NK
 refine sQ<|rG<|aS r r<|nI<|xS<|sQ<|rG<|lO (v:=.sl (cap2.map LS)) (z:=.sl (cap2.map LS)) r r r r r r<|mV r r<|fF r r<|lF (v:=.sl (cap3.Out.map (eL LS))) r r r r<|lF (v:=.int .i64 cap4) r r r r<|bD fun x_x5 hx_x5=>iS (en:=(eL LS)) r r r hx_x5 r<|lF (v:=.sl (x_x5.map LS)) r r r r<|bD fun r6 hr6=>cV (need1,x_x5) r r r Aak r r (by simp) r hr6<|bD fun r7 hr7=>cV (cap2,r6) r r r TD r r (by simp) r hr7<|Vm (i:=0) (es':=[.sl (r7.map LS)]) r r r r r r r (by first | trivial | (simp; done) | (simp; omega)) r r r r r r<|Mj (by kernel_rfl)<|xS<|sQ<|rG<|aS r r<|nI<|xS<|rT<|Nl (b:=(true,r7)) r ?_ r r ?_ r
 all_goals first|(simp;done)|(simp;omega)|rfl|(simp [Me,Mc];done)

def Ahw : Mm:=(.seq (.reg [P 4 (.box (T 0) 3 33),P 8 (.asg (.c (.bool false)) none)] false) (.seq (.seq (.reg [P 11 (.ld 3 true (T 4)),M 12 1,P 13 (.call (.c (.clo 65 [])) [(T 11),(T 12)]),P 14 (.len false (T 13)),P 15 (.mv (C 0))] false) (.block 0 (.loop (.seq (.reg [P 16 (.bin .lss (T 15) (T 14))] false) (.seq (.cond (T 16) .skip (.exit 0)) (.seq (.block 1 (.seq (.reg [P 17 (.ixA 1 (T 13) (T 15)),P 18 (.ld 1 false (T 17)),P 10 (.asg (T 18) none)] false) (.seq (.reg [M 19 3,P 20 (.fldA 2 (T 4)),⟨(some 21),(.ld 1 false (T 20)),none,[1]⟩,M 22 10,⟨(some 23),(.ixA 5 (T 21) (T 22)),none,[2,3]⟩,⟨(some 24),(.ld 5 true (T 23)),none,[4]⟩,M 25 2,M 26 10,⟨(some 27),(.call (T 25) [(T 26)]),none,[6,7]⟩,⟨(some 28),(.call (.c (.clo 66 [])) [(T 24),(T 27)]),none,[5,8,8]⟩,⟨(some 29),(.call (T 19) [(T 28)]),none,[0,9,9]⟩,⟨(some 30),(.un .not (T 29)),none,[10]⟩] true) (.cond (T 30) (.seq (.reg [P 8 (.asg (.c (.bool false)) none)] false) .ret) .skip)))) (.reg [P 31 (.bin .add (T 15) (C 1)),M 15 31] false))))))) (.seq (.reg [P 8 (.asg (.c (.bool true)) none)] false) .ret)))
theorem AkB : (Tryz.f51.body.bind (Mo Tryz.prog Tryz.f51.ntmps)) = some Ahw:=by kernel_rfl
theorem AkC : Tryz.f51.results.toList.mapM (My Tryz.prog) = some [(.t 8)]:=by kernel_rfl
def Nm (a : LY × Int × Mf × (List Int) × Mf × Int) : List D:=[ME a.1,.int .i64 a.2.1,.clo 67 [.fptr (Nf a.2.2.1) 0],.clo 53 [.sl (a.2.2.2.1.map LS),.fptr (Nf a.2.2.2.2.1) 0,.fptr (.int .i64 a.2.2.2.2.2) 0]]
def NQ (ds : List D) : LY × Int × Mf × (List Int) × Mf × Int:=(Ny (ds.getD 0 .top),uI (ds.getD 1 .top),OL (fpD (KP (ds.getD 2 .top) 0)),(uL uI) (KP (ds.getD 3 .top) 0),OL (fpD (KP (ds.getD 3 .top) 1)),uI (fpD (KP (ds.getD 3 .top) 2)))
theorem PH (a : LY × Int × Mf × (List Int) × Mf × Int) : NQ (Nm a) = a:=by simp [NQ,Nm,uI,fpD,KP,Nt (u:=uI) (en:=LS) (fun _=>rfl)]
def PV (b : Bool × (List Int)) : D:=.bool b.1
def PU (b : Bool × (List Int)) : List D:=[.sl (b.2.map LS)]
noncomputable def Nu : Dw.Spec:=Ml [(256,(1,42))] .val Nm NQ (fun a=>MR a.1 a.2.1 a.2.2.1 a.2.2.2.1 a.2.2.2.2.1 a.2.2.2.2.2) PV PU
set_option maxHeartbeats 4000000 in
theorem TY : Mk Tryz.prog 51 Nu:=by
 refine Mv (Mp (l:=[(65,AaL),(67,RW),(66,AaK),(53,PG)]) (by simp [Afe,AaM,Afd,Xn])) Tryz.func51 (by decide) AkB AkC (np:=4) (by decide) PH (fun _=>r) (fun _=>r) (by decide)<|?_
 rintro ⟨f1,k2,set3,visit4,visit5,visit6⟩
 show TrE (specs [(65,AaL),(67,RW),(66,AaK),(53,PG)]) Ahw (Mz [(256,(1,42))] .val [(.t 8)] PV PU) ⟨[(0,.agg [.int .i64 f1.Params,.sl (f1.Slots.map LZ),.sl (f1.Code.map LW)]),(1,.int .i64 k2),(2,.clo 67 [.fptr (.agg [.sl (set3.Out.map (eL LS))]) 0]),(3,.clo 53 [.optr 8448 256 0 0,.fptr (.agg [.sl (visit5.Out.map (eL LS))]) 0,.fptr (.int .i64 visit6) 0])],[(8448,some (256,⟨false,true,1,42,[.sl (visit4.map LS)]⟩))],262144⟩ (MR f1 k2 set3 visit4 visit5 visit6)
 refine Mq<|?_
 unfold Ahw MR
 refine sQ<|rG<|bX r r r r r<|aS r r<|nI<|xS<|sQ<|sQ<|rG<|lO (v:=.agg [.int .i64 f1.Params,.sl (f1.Slots.map LZ),.sl (f1.Code.map LW)]) (z:=.agg [.int .i64 f1.Params,.sl (f1.Slots.map LZ),.sl (f1.Code.map LW)]) r r r r r r<|mV r r<|bD fun r7 hr7=>cR (l:=r7) (en:=LS) (f1,k2) r r r Acr r r (by simp) r hr7 r<|lW r r<|mV r r<|nI<|xS<|bK<|lP (E:=fun (s : (List Int) × Int) (g : Nat × Nat)=>[(2,.clo 67 [.fptr (.agg [.sl (set3.Out.map (eL LS))]) 0]),(3,.clo 53 [.optr 8448 256 0 0,.fptr (.agg [.sl (visit5.Out.map (eL LS))]) 0,.fptr (.int .i64 visit6) 0]),(4,.optr 4 g.1 0 0),(13,.osl 13 g.2 0 r7.length),(14,.int .i64 (r7.length : Int)),(15,.int .i64 s.2)]) (O:=fun s g=>[(4,some (g.1,⟨false,true,3,33,[.agg [.int .i64 f1.Params,.sl (f1.Slots.map LZ),.sl (f1.Code.map LW)]]⟩)),(13,some (g.2,⟨false,false,1,3,r7.map LS⟩)),(8448,some (256,⟨false,true,1,42,[.sl (s.1.map LS)]⟩))]) (body:=fun s=>MM r7 f1 set3 visit5 visit6 s.1 s.2) (s:=(visit4,0)) (_,_) ((hE ⟨rfl,r,r,r,r,r,trivial⟩ ⟨rfl,r,r,trivial⟩))<|?_
 rintro ⟨x8,x9⟩ ⟨v4x1,v13x1⟩ nn
 try dsimp only
 unfold MM
 refine sQ<|rG<|bN (v:=.bool (decide (x9 < (r7.length : Int)))) r r r r r<|nI<|xS<|sQ<|cD (c:=(decide (x9 < (r7.length : Int)))) r ?_ ?_
 ·refine sK<|xS<|sQ<|bK<|sQ<|rG<|cK fun hq=>iO (l:=r7) (en:=LS) r r r r r hq<|bD fun x_e10 hx_e10=>lO (v:=.int .i64 x_e10) (z:=LS x_e10) r r r (Nn hx_e10) r r<|aS r r<|nI<|xS<|sQ<|rG<|mV r r<|fA r r<|lO (v:=.sl (f1.Code.map LW)) (z:=.agg [.int .i64 f1.Params,.sl (f1.Slots.map LZ),.sl (f1.Code.map LW)]) r r r r r r<|mV r r<|bD fun x_x11 hx_x11=>iS (en:=LW) r r r hx_x11 r<|lF (v:=.agg [.int .i64 x_x11.Op,.int .i64 x_x11.A,.int .i64 x_x11.B,.int .i64 x_x11.C,.int .u64 x_x11.Imm]) r r r r<|mV r r<|mV r r<|bD fun r12 hr12=>cV (x_e10,set3) r r r Vh r r (by simp) r hr12<|bD fun r13 hr13=>cV (x_x11,r12) r r r Acq r r (by simp) r hr13<|bD fun r14 hr14=>cV (r13,x8,visit5,visit6) r r r RU r r (by simp) r hr14<|uN (w:=.bool (!r14.1)) r r r r trivial<|Mj (by kernel_rfl)<|xS<|cD (c:=(!r14.1)) r ?_ ?_
  ·refine sQ<|rG<|aS r r<|nI<|xS<|rT<|bR<|xR<|lR<|bR<|xR<|Nl (b:=(false,r14.2)) r ?_ r r ?_ r
   all_goals first|(simp;done)|(simp;omega)|rfl|(simp [Me,Mc];done)
  ·exact sK<|bM<|xS<|rG<|bN (v:=.int .i64 (IntKind.i64.wrap (x9 + 1))) r r r r r<|mV r r<|nI<|xL (s:=(r14.2,IntKind.i64.wrap (x9 + 1))) (_,_) ((hE ⟨rfl,r,r,r,r,r,trivial⟩ ⟨rfl,r,r,trivial⟩))
 ·refine eT<|xE<|lE<|bH<|xS<|sQ<|rG<|aS r r<|nI<|xS<|rT<|Nl (b:=(true,x8)) r ?_ r r ?_ r
  all_goals first|(simp;done)|(simp;omega)|rfl|(simp [Me,Mc];done)

def Ahg : Mm:=(.seq (.reg [P 2 (.box (T 0) 3 33),P 3 (.box (T 1) 1 37),P 4 (.asg (C 0) none),P 5 (.asg (C 0) none),P 6 (.asg (.c (.bool false)) none)] false) (.seq (.seq (.reg [P 9 (.ld 3 true (T 2)),P 10 (.ld 1 true (T 3)),P 11 (.call (.c (.clo 34 [])) [(T 9),(T 10)]),P 12 (.un .not (T 11))] false) (.cond (T 12) (.seq (.reg [P 4 (.asg (C 0) none),P 5 (.asg (C 0) none),P 6 (.asg (.c (.bool false)) none)] false) .ret) .skip)) (.seq (.seq (.reg [P 13 (.fldA 2 (T 2)),P 14 (.ld 1 false (T 13)),P 15 (.len false (T 14)),P 16 (.mv (C 0))] false) (.block 0 (.loop (.seq (.reg [P 17 (.bin .lss (T 16) (T 15))] false) (.seq (.cond (T 17) .skip (.exit 0)) (.seq (.block 1 (.seq (.reg [M 18 16,P 7 (.new (.int .i64 0) 1 3),⟨none,(.st 1 (T 7) (T 18)),none,[]⟩] false) (.seq (.reg [P 8 (.new .nils 1 42)] false) (.seq (.reg [P 19 (.ld 3 true (T 2)),P 20 (.ld 1 false (T 7)),P 21 (.ld 1 true (T 3)),⟨(some 22),(.call (.c (.clo 52 [])) [(T 21)]),none,[2]⟩,P 23 (.mkf 53 [(T 8),(T 3),(T 7)]),⟨(some 24),(.call (.c (.clo 51 [])) [(T 19),(T 20),(T 22),(T 23)]),none,[0,1,3,4,3]⟩] true) (.seq (.reg [P 25 (.ld 1 false (T 8)),P 26 (.len false (T 25)),P 27 (.bin .gtr (T 26) (C 0))] false) (.cond (T 27) (.seq (.reg [P 28 (.ld 1 false (T 7)),P 29 (.ld 1 false (T 8)),⟨(some 30),(.ixA 1 (T 29) (C 0)),none,[1]⟩,⟨(some 31),(.ld 1 false (T 30)),none,[2]⟩,⟨(some 4),(.asg (T 28) none),none,[0,0]⟩,⟨(some 5),(.asg (T 31) none),none,[3,4,0,1,2,3,4]⟩,⟨(some 6),(.asg (.c (.bool true)) none),none,[5,0,1,2,3,4,5]⟩] true) .ret) .skip)))))) (.reg [P 32 (.bin .add (T 16) (C 1)),M 16 32] false))))))) (.seq (.reg [P 4 (.asg (C 0) none),P 5 (.asg (C 0) none),P 6 (.asg (.c (.bool false)) none)] false) .ret))))
theorem AjV : (Tryz.f35.body.bind (Mo Tryz.prog Tryz.f35.ntmps)) = some Ahg:=by kernel_rfl
theorem AjW : Tryz.f35.results.toList.mapM (My Tryz.prog) = some [(.t 4),(.t 5),(.t 6)]:=by kernel_rfl
def Ty (a : LY × Mf) : List D:=[ME a.1,Nf a.2]
def Tx (ds : List D) : LY × Mf:=(Ny (ds.getD 0 .top),OL (ds.getD 1 .top))
theorem Yj (a : LY × Mf) : Tx (Ty a) = a:=by simp [Tx,Ty]
def Zc (b : Int × Int × Bool) : D:=.tup [.int .i64 b.1,.int .i64 b.2.1,.bool b.2.2]
def Zb (_b : Int × Int × Bool) : List D:=[]
noncomputable def UR : Dw.Spec:=Ml [] .ground Ty Tx (fun a=>PT a.1 a.2) Zc Zb
set_option maxHeartbeats 4000000 in
theorem Acv : Mk Tryz.prog 35 UR:=by
 refine Mv (Mp (l:=[(34,PI),(52,VC),(906248243,Nu)]) (by simp [Xb,Ade,TY])) Tryz.func35 (by decide) AjV AjW (np:=2) (by decide) Yj (fun _=>r) (fun _=>r) (by decide)<|?_
 rintro ⟨f1,l2⟩
 show TrE (specs [(34,PI),(52,VC),(906248243,Nu)]) Ahg (Mz [] .ground [(.t 4),(.t 5),(.t 6)] Zc Zb) ⟨[(0,.agg [.int .i64 f1.Params,.sl (f1.Slots.map LZ),.sl (f1.Code.map LW)]),(1,.agg [.sl (l2.Out.map (eL LS))])],[],262144⟩ (PT f1 l2)
 refine Mq<|?_
 unfold Ahg PT
 refine sQ<|rG<|bX r r r r r<|bX r r r r r<|aS r r<|aS r r<|aS r r<|nI<|Qs (E:=[(2,.optr 2 _ 0 0),(3,.fptr (.agg [.sl (l2.Out.map (eL LS))]) 0)]) (O:=[(2,some (_,⟨false,true,3,33,[.agg [.int .i64 f1.Params,.sl (f1.Slots.map LZ),.sl (f1.Code.map LW)]]⟩))]) ((Kx (g:=3) r (by first | rfl | (simp [cells,frp,Fh,Me]; done)) (hE ⟨(by first | rfl | (simp [BM,lkO,frp,Fh,frO]; done) | (simp [BM,lkO,frp,Fh,frO]; rfl) | (simp [BM,lkO,frp,Fh,frO,nbq]; done)),(by first | rfl | (simp [BM,lkO,frp,Fh,frO]; done) | (simp [BM,lkO,frp,Fh,frO]; rfl) | (simp [BM,lkO,frp,Fh,frO,nbq]; done)),trivial⟩ ⟨(by first | rfl | (simp [BM,lkO,frp,Fh,frO]; done) | (simp [BM,lkO,frp,Fh,frO]; rfl) | (simp [BM,lkO,frp,Fh,frO,nbq]; done)),trivial⟩))) fun nn=>sQ<|sQ<|rG<|lO (v:=.agg [.int .i64 f1.Params,.sl (f1.Slots.map LZ),.sl (f1.Code.map LW)]) (z:=.agg [.int .i64 f1.Params,.sl (f1.Slots.map LZ),.sl (f1.Code.map LW)]) r r r r r r<|lF (v:=.agg [.sl (l2.Out.map (eL LS))]) r r r r<|bD fun r3 hr3=>cG (f1,l2) r r r Tz r r (by simp) r hr3 r<|uN (w:=.bool (!r3)) r r r r trivial<|nI<|xS<|cD (c:=(!r3)) r ?_ ?_
 ·refine sQ<|rG<|aS r r<|aS r r<|aS r r<|nI<|xS<|rT<|xR<|MF (b:=(0,0,false)) r ?_ r r ?_ r (by decide)
  all_goals first|(simp;done)|(simp;omega)|rfl|(simp [Me,Mc];done)
 ·refine sK<|xS<|sQ<|sQ<|rG<|fA r r<|lO (v:=.sl (f1.Code.map LW)) (z:=.agg [.int .i64 f1.Params,.sl (f1.Slots.map LZ),.sl (f1.Code.map LW)]) r r r r r r<|lS r r<|mV r r<|nI<|xS<|bK<|lP (E:=fun (s : Int) (g : Nat)=>[(2,.optr 2 g 0 0),(3,.fptr (.agg [.sl (l2.Out.map (eL LS))]) 0),(15,.int .i64 (f1.Code.length : Int)),(16,.int .i64 s)]) (O:=fun s g=>[(2,some (g,⟨false,true,3,33,[.agg [.int .i64 f1.Params,.sl (f1.Slots.map LZ),.sl (f1.Code.map LW)]]⟩))]) (body:=fun s=>Ro f1 l2 s) (s:=0) _ ((hE ⟨rfl,r,r,r,trivial⟩ ⟨rfl,trivial⟩))<|?_
  rintro x4 v2x1 nn
  try dsimp only
  unfold Ro
  refine sQ<|rG<|bN (v:=.bool (decide (x4 < (f1.Code.length : Int)))) r r r r r<|nI<|xS<|sQ<|cD (c:=(decide (x4 < (f1.Code.length : Int)))) r ?_ ?_
  ·refine sK<|xS<|sQ<|bK<|sQ<|rG<|mV r r<|nW r<|sV (z':=.int .i64 x4) r r r r r r r r r<|nI<|Qs (E:=[(2,.optr 2 _ 0 0),(3,.fptr (.agg [.sl (l2.Out.map (eL LS))]) 0),(7,.fptr (.int .i64 x4) 0),(15,.int .i64 (f1.Code.length : Int)),(16,.int .i64 x4)]) (O:=[(2,some (_,⟨false,true,3,33,[.agg [.int .i64 f1.Params,.sl (f1.Slots.map LZ),.sl (f1.Code.map LW)]]⟩))]) ((Kx (g:=7) r (by first | rfl | (simp [cells,frp,Fh,Me]; done)) (hE ⟨(by first | rfl | (simp [BM,lkO,frp,Fh,frO]; done) | (simp [BM,lkO,frp,Fh,frO]; rfl) | (simp [BM,lkO,frp,Fh,frO,nbq]; done)),(by first | rfl | (simp [BM,lkO,frp,Fh,frO]; done) | (simp [BM,lkO,frp,Fh,frO]; rfl) | (simp [BM,lkO,frp,Fh,frO,nbq]; done)),(by first | rfl | (simp [BM,lkO,frp,Fh,frO]; done) | (simp [BM,lkO,frp,Fh,frO]; rfl) | (simp [BM,lkO,frp,Fh,frO,nbq]; done)),(by first | rfl | (simp [BM,lkO,frp,Fh,frO]; done) | (simp [BM,lkO,frp,Fh,frO]; rfl) | (simp [BM,lkO,frp,Fh,frO,nbq]; done)),(by first | rfl | (simp [BM,lkO,frp,Fh,frO]; done) | (simp [BM,lkO,frp,Fh,frO]; rfl) | (simp [BM,lkO,frp,Fh,frO,nbq]; done)),trivial⟩ ⟨(by first | rfl | (simp [BM,lkO,frp,Fh,frO]; done) | (simp [BM,lkO,frp,Fh,frO]; rfl) | (simp [BM,lkO,frp,Fh,frO,nbq]; done)),trivial⟩))) fun nn=>sQ<|rG<|nW r<|nI<|xS<|sQ<|rG<|lO (v:=.agg [.int .i64 f1.Params,.sl (f1.Slots.map LZ),.sl (f1.Code.map LW)]) (z:=.agg [.int .i64 f1.Params,.sl (f1.Slots.map LZ),.sl (f1.Code.map LW)]) r r r r r r<|lF (v:=.int .i64 x4) r r r r<|lF (v:=.agg [.sl (l2.Out.map (eL LS))]) r r r r<|bD fun r5 hr5=>cV l2 r r r Zd r r (by simp) r hr5<|mF (caps:=[.optr 8 _ 0 0,.fptr (.agg [.sl (l2.Out.map (eL LS))]) 0,.fptr (.int .i64 x4) 0]) r r (by simp [FW])<|bD fun r6 hr6=>cV (f1,x4,r5,[],l2,x4) rfl rfl (show _ = some Nu from by kernel_rfl) PH rfl rfl (by simp) (by first | rfl | (simp only [Mw,MB]; rfl) | simp [Nm,ME,Nf,Nf]) hr6<|Mj (by kernel_rfl)<|xS<|sQ<|rG<|lO (v:=.sl (r6.2.map LS)) (z:=.sl (r6.2.map LS)) r r r r r r<|lS r r<|bN (v:=.bool (decide ((r6.2.length : Int) > 0))) r r r r r<|nI<|xS<|cD (c:=(decide ((r6.2.length : Int) > 0))) r ?_ ?_
   ·refine sQ<|rG<|lF (v:=.int .i64 x4) r r r r<|lO (v:=.sl (r6.2.map LS)) (z:=.sl (r6.2.map LS)) r r r r r r<|bD fun x_x7 hx_x7=>iS (en:=LS) r r r hx_x7 r<|lF (v:=.int .i64 x_x7) r r r r<|aS r r<|aS r r<|aS r r<|Mj (by kernel_rfl)<|xS<|rT<|bR<|xR<|lR<|bR<|xR<|MF (b:=(x4,x_x7,true)) r ?_ r r ?_ r (by decide)
    all_goals first|(simp;done)|(simp;omega)|rfl|(simp [Me,Mc];done)
   ·exact sK<|bM<|xS<|rG<|bN (v:=.int .i64 (IntKind.i64.wrap (x4 + 1))) r r r r r<|mV r r<|nI<|xL (s:=IntKind.i64.wrap (x4 + 1)) _ ((hE ⟨rfl,r,r,r,trivial⟩ ⟨rfl,trivial⟩))
  ·refine eT<|xE<|lE<|bH<|xS<|sQ<|rG<|aS r r<|aS r r<|aS r r<|nI<|xS<|rT<|MF (b:=(0,0,false)) r ?_ r r ?_ r (by decide)
   all_goals first|(simp;done)|(simp;omega)|rfl|(simp [Me,Mc];done)

def AgR : Mm:=(.seq (.reg [P 2 (.box (T 0) 3 33),P 3 (.box (T 1) 1 37),P 4 (.asg (C 0) none)] false) (.seq (.seq (.reg [P 8 (.ld 3 true (T 2)),P 9 (.ld 1 true (T 3)),P 10 (.call (.c (.clo 34 [])) [(T 8),(T 9)]),P 11 (.un .not (T 10))] false) (.cond (T 11) (.seq (.reg [P 4 (.asg (C 11) none)] false) .ret) .skip)) (.seq (.seq (.reg [P 13 (.ld 3 true (T 2)),P 14 (.ld 1 true (T 3)),P 15 (.call (.c (.clo 35 [])) [(T 13),(T 14)]),M 12 15,P 16 (.ext (T 12) 0),P 17 (.ext (T 12) 1),P 18 (.ext (T 12) 2),P 5 (.asg (T 16) none),P 6 (.asg (T 17) none),P 7 (.asg (T 18) none)] false) (.seq (.reg [M 19 7] false) (.cond (T 19) (.seq (.reg [P 4 (.asg (C 11) none)] false) .ret) .skip))) (.seq (.reg [P 4 (.asg (C 0) none)] false) .ret))))
theorem Ajr : (Tryz.f20.body.bind (Mo Tryz.prog Tryz.f20.ntmps)) = some AgR:=by kernel_rfl
theorem Ajs : Tryz.f20.results.toList.mapM (My Tryz.prog) = some [(.t 4)]:=by kernel_rfl
def Tw (a : LY × Mf) : List D:=[ME a.1,Nf a.2]
def Tv (ds : List D) : LY × Mf:=(Ny (ds.getD 0 .top),OL (ds.getD 1 .top))
theorem TX (a : LY × Mf) : Tv (Tw a) = a:=by simp [Tv,Tw]
def Za (b : Int) : D:=.int .i64 b
def YZ (_b : Int) : List D:=[]
noncomputable def Qi : Dw.Spec:=Ml [] .ground Tw Tv (fun a=>OW a.1 a.2) Za YZ
set_option maxHeartbeats 4000000 in
theorem Yi : Mk Tryz.prog 20 Qi:=by
 refine Mv (Mp (l:=[(34,PI),(35,UR)]) (by simp [Xb,Acv])) Tryz.func20 (by decide) Ajr Ajs (np:=2) (by decide) TX (fun _=>r) (fun _=>r) (by decide)<|?_
 rintro ⟨f1,l2⟩
 show TrE (specs [(34,PI),(35,UR)]) AgR (Mz [] .ground [(.t 4)] Za YZ) ⟨[(0,.agg [.int .i64 f1.Params,.sl (f1.Slots.map LZ),.sl (f1.Code.map LW)]),(1,.agg [.sl (l2.Out.map (eL LS))])],[],262144⟩ (OW f1 l2)
 refine Mq<|?_
 unfold AgR OW
 refine sQ<|rG<|bX r r r r r<|bX r r r r r<|aS r r<|nI<|xS<|sQ<|sQ<|rG<|lO (v:=.agg [.int .i64 f1.Params,.sl (f1.Slots.map LZ),.sl (f1.Code.map LW)]) (z:=.agg [.int .i64 f1.Params,.sl (f1.Slots.map LZ),.sl (f1.Code.map LW)]) r r r r r r<|lO (v:=.agg [.sl (l2.Out.map (eL LS))]) (z:=.agg [.sl (l2.Out.map (eL LS))]) r r r r r r<|bD fun r3 hr3=>cG (f1,l2) r r r Tz r r (by simp) r hr3 r<|uN (w:=.bool (!r3)) r r r r trivial<|nI<|xS<|cD (c:=(!r3)) r ?_ ?_
 ·refine sQ<|rG<|aS r r<|nI<|xS<|rT<|xR<|Mg (b:=11) r ?_ r r ?_ r
  all_goals first|(simp;done)|(simp;omega)|rfl|(simp [Me,Mc];done)
 ·refine sK<|xS<|sQ<|sQ<|rG<|lO (v:=.agg [.int .i64 f1.Params,.sl (f1.Slots.map LZ),.sl (f1.Code.map LW)]) (z:=.agg [.int .i64 f1.Params,.sl (f1.Slots.map LZ),.sl (f1.Code.map LW)]) r r r r r r<|lO (v:=.agg [.sl (l2.Out.map (eL LS))]) (z:=.agg [.sl (l2.Out.map (eL LS))]) r r r r r r<|bD fun r4 hr4=>cG (f1,l2) r r r Yj r r (by simp) r hr4 r<|mV r r<|eX (v:=.int .i64 r4.1) r r r<|eX (v:=.int .i64 r4.2.1) r r r<|eX (v:=.bool r4.2.2) r r r<|aS r r<|aS r r<|aS r r<|nI<|xS<|sQ<|rG<|mV r r<|nI<|xS<|cD (c:=r4.2.2) r ?_ ?_
  ·refine sQ<|rG<|aS r r<|nI<|xS<|rT<|xR<|Mg (b:=11) r ?_ r r ?_ r
   all_goals first|(simp;done)|(simp;omega)|rfl|(simp [Me,Mc];done)
  ·refine sK<|xS<|sQ<|rG<|aS r r<|nI<|xS<|rT<|Mg (b:=0) r ?_ r r ?_ r
   all_goals first|(simp;done)|(simp;omega)|rfl|(simp [Me,Mc];done)

def Ahh : Mm:=(.seq (.reg [P 2 (.box (T 0) 3 33),P 4 (.asg (.c (.bool false)) none)] false) (.seq (.seq (.reg [M 7 1,P 8 (.len false (T 7)),P 9 (.fldA 1 (T 2)),P 10 (.ld 1 false (T 9)),P 11 (.len false (T 10)),P 12 (.bin .neq (T 8) (T 11))] false) (.cond (T 12) (.seq (.reg [P 4 (.asg (.c (.bool false)) none)] false) .ret) .skip)) (.seq (.seq (.reg [M 13 1,P 14 (.len false (T 13)),P 15 (.mv (C 0))] false) (.block 0 (.loop (.seq (.reg [P 16 (.bin .lss (T 15) (T 14))] false) (.seq (.cond (T 16) .skip (.exit 0)) (.seq (.block 1 (.seq (.reg [M 17 15,P 18 (.ixA 1 (T 13) (T 15)),P 19 (.ld 1 false (T 18)),P 5 (.asg (T 17) none),P 6 (.asg (T 19) none)] false) (.seq (.reg [M 20 6,⟨(some 21),(.bin .lss (T 20) (C 0)),none,[0]⟩,⟨(some 22),(.mv (T 21)),none,[1]⟩,⟨(some 23),(.mv (T 6)),(some ⟨22,false⟩),[2]⟩,⟨(some 24),(.mv (T 1)),(some ⟨22,false⟩),[2]⟩,⟨(some 25),(.len false (T 24)),(some ⟨22,false⟩),[4,2]⟩,⟨(some 26),(.bin .geq (T 23) (T 25)),(some ⟨22,false⟩),[3,5,2]⟩,⟨(some 27),(.pick (T 22) (.c (.bool true)) (T 26)),none,[2,6]⟩,⟨(some 28),(.mv (T 27)),none,[7,2]⟩,⟨(some 29),(.fldA 1 (T 2)),(some ⟨28,false⟩),[8]⟩,⟨(some 30),(.ld 1 false (T 29)),(some ⟨28,false⟩),[9,8]⟩,⟨(some 31),(.mv (T 6)),(some ⟨28,false⟩),[8]⟩,⟨(some 32),(.ixA 2 (T 30) (T 31)),(some ⟨28,false⟩),[10,11,8]⟩,⟨(some 33),(.fldA 0 (T 32)),(some ⟨28,false⟩),[12,8]⟩,⟨(some 34),(.ld 1 false (T 33)),(some ⟨28,false⟩),[13,8]⟩,⟨(some 35),(.fldA 1 (T 2)),(some ⟨28,false⟩),[8]⟩,⟨(some 36),(.ld 1 false (T 35)),(some ⟨28,false⟩),[15,8]⟩,⟨(some 37),(.mv (T 5)),(some ⟨28,false⟩),[8]⟩,⟨(some 38),(.ixA 2 (T 36) (T 37)),(some ⟨28,false⟩),[16,17,8]⟩,⟨(some 39),(.fldA 0 (T 38)),(some ⟨28,false⟩),[18,8]⟩,⟨(some 40),(.ld 1 false (T 39)),(some ⟨28,false⟩),[19,8]⟩,⟨(some 41),(.bin .neq (T 34) (T 40)),(some ⟨28,false⟩),[14,20,8]⟩,⟨(some 42),(.pick (T 28) (.c (.bool true)) (T 41)),none,[8,21]⟩,⟨(some 43),(.mv (T 42)),none,[22,8]⟩,⟨(some 44),(.mv (T 1)),(some ⟨43,false⟩),[23]⟩,⟨(some 45),(.mv (T 6)),(some ⟨43,false⟩),[23]⟩,⟨(some 46),(.ixA 1 (T 44) (T 45)),(some ⟨43,false⟩),[24,25,23]⟩,⟨(some 47),(.ld 1 false (T 46)),(some ⟨43,false⟩),[26,23]⟩,⟨(some 48),(.mv (T 6)),(some ⟨43,false⟩),[23]⟩,⟨(some 49),(.bin .neq (T 47) (T 48)),(some ⟨43,false⟩),[27,28,23]⟩,⟨(some 50),(.pick (T 43) (.c (.bool true)) (T 49)),none,[23,29]⟩] true) (.cond (T 50) (.seq (.reg [P 4 (.asg (.c (.bool false)) none)] false) .ret) .skip)))) (.reg [P 51 (.bin .add (T 15) (C 1)),M 15 51] false))))))) (.seq (.reg [P 4 (.asg (.c (.bool true)) none)] false) .ret))))
theorem AjX : (Tryz.f36.body.bind (Mo Tryz.prog Tryz.f36.ntmps)) = some Ahh:=by kernel_rfl
theorem AjY : Tryz.f36.results.toList.mapM (My Tryz.prog) = some [(.t 4)]:=by kernel_rfl
def TL (a : LY × (List Int)) : List D:=[ME a.1,.sl (a.2.map LS)]
def TK (ds : List D) : LY × (List Int):=(Ny (ds.getD 0 .top),(uL uI) (ds.getD 1 .top))
theorem YM (a : LY × (List Int)) : TK (TL a) = a:=by simp [TK,TL,Nt (u:=uI) (en:=LS) (fun _=>rfl)]
def Zx (b : Bool) : D:=.bool b
def Zw (_b : Bool) : List D:=[]
noncomputable def VA : Dw.Spec:=Ml [] .ground TL TK (fun a=>Qv a.1 a.2) Zx Zw
set_option maxHeartbeats 4000000 in
theorem Adc : Mk Tryz.prog 36 VA:=by
 refine Mv (Nb) Tryz.func36 (by decide) AjX AjY (np:=2) (by decide) YM (fun _=>r) (fun _=>r) (by decide)<|?_
 rintro ⟨f1,to2⟩
 show TrE (specs []) Ahh (Mz [] .ground [(.t 4)] Zx Zw) ⟨[(0,.agg [.int .i64 f1.Params,.sl (f1.Slots.map LZ),.sl (f1.Code.map LW)]),(1,.sl (to2.map LS))],[],262144⟩ (Qv f1 to2)
 refine Mq<|?_
 unfold Ahh Qv
 refine sQ<|rG<|bX r r r r r<|aS r r<|nI<|xS<|sQ<|sQ<|rG<|mV r r<|lS r r<|fA r r<|lO (v:=.sl (f1.Slots.map LZ)) (z:=.agg [.int .i64 f1.Params,.sl (f1.Slots.map LZ),.sl (f1.Code.map LW)]) r r r r r r<|lS r r<|bN (v:=.bool ((to2.length : Int) != (f1.Slots.length : Int))) r r r r r<|nI<|xS<|cD (c:=((to2.length : Int) != (f1.Slots.length : Int))) r ?_ ?_
 ·refine sQ<|rG<|aS r r<|nI<|xS<|rT<|xR<|Mg (b:=false) r ?_ r r ?_ r
  all_goals first|(simp;done)|(simp;omega)|rfl|(simp [Me,Mc];done)
 ·refine sK<|xS<|sQ<|sQ<|rG<|mV r r<|lS r r<|mV r r<|nI<|xS<|bK<|lP (E:=fun (s : Int) (g : Nat)=>[(1,.sl (to2.map LS)),(2,.optr 2 g 0 0),(13,.sl (to2.map LS)),(14,.int .i64 (to2.length : Int)),(15,.int .i64 s)]) (O:=fun s g=>[(2,some (g,⟨false,true,3,33,[.agg [.int .i64 f1.Params,.sl (f1.Slots.map LZ),.sl (f1.Code.map LW)]]⟩))]) (body:=fun s=>RK to2 f1 s) (s:=0) _ ((hE ⟨rfl,r,r,r,r,trivial⟩ ⟨rfl,trivial⟩))<|?_
  rintro x3 v2x1 nn
  try dsimp only
  unfold RK
  refine sQ<|rG<|bN (v:=.bool (decide (x3 < (to2.length : Int)))) r r r r r<|nI<|xS<|sQ<|cD (c:=(decide (x3 < (to2.length : Int)))) r ?_ ?_
  ·refine sK<|xS<|sQ<|bK<|sQ<|rG<|mV r r<|bD fun x_x4 hx_x4=>iS (en:=LS) r r r hx_x4 r<|lF (v:=.int .i64 x_x4) r r r r<|aS r r<|aS r r<|nI<|xS<|sQ<|rG<|mV r r<|bN (v:=.bool (decide (x_x4 < 0))) r r r r r<|mV r r<|sP 22 (b:=(decide (x_x4 < 0))) r ?_ ?_
   ·refine oF r<|oF r<|oF r<|oF r<|pT r r r r<|mV r r<|oF r<|oF r<|oF r<|oF r<|oF r<|oF r<|oF r<|oF r<|oF r<|oF r<|oF r<|oF r<|oF r<|pT r r r r<|mV r r<|oF r<|oF r<|oF r<|oF r<|oF r<|oF r<|pT r r r r<|Mj (by kernel_rfl)<|xS<|MW r<|sQ<|rG<|aS r r<|nI<|xS<|rT<|bR<|xR<|lR<|bR<|xR<|Mg (b:=false) r ?_ r r ?_ r
    all_goals first|(simp;done)|(simp;omega)|rfl|(simp [Me,Mc];done)
   ·refine mV r r<|mV r r<|lS r r<|bN (v:=.bool (decide (x_x4 ≥ (to2.length : Int)))) r r r r r<|pF r r r r<|mV r r<|sP 28 (b:=(decide (x_x4 ≥ (to2.length : Int)))) r ?_ ?_
    ·refine oF r<|oF r<|oF r<|oF r<|oF r<|oF r<|oF r<|oF r<|oF r<|oF r<|oF r<|oF r<|oF r<|pT r r r r<|mV r r<|oF r<|oF r<|oF r<|oF r<|oF r<|oF r<|pT r r r r<|Mj (by kernel_rfl)<|xS<|MW r<|sQ<|rG<|aS r r<|nI<|xS<|rT<|bR<|xR<|lR<|bR<|xR<|Mg (b:=false) r ?_ r r ?_ r
     all_goals first|(simp;done)|(simp;omega)|rfl|(simp [Me,Mc];done)
    ·refine fA r r<|lO (v:=.sl (f1.Slots.map LZ)) (z:=.agg [.int .i64 f1.Params,.sl (f1.Slots.map LZ),.sl (f1.Code.map LW)]) r r r r r r<|mV r r<|bD fun x_x5 hx_x5=>iS (en:=LZ) r r r hx_x5 r<|fF r r<|lF (v:=.int .i64 x_x5.Size) r r r r<|fA r r<|lO (v:=.sl (f1.Slots.map LZ)) (z:=.agg [.int .i64 f1.Params,.sl (f1.Slots.map LZ),.sl (f1.Code.map LW)]) r r r r r r<|mV r r<|bD fun x_x6 hx_x6=>iS (en:=LZ) r r r hx_x6 r<|fF r r<|lF (v:=.int .i64 x_x6.Size) r r r r<|bN (v:=.bool (x_x5.Size != x_x6.Size)) r r r r r<|pF r r r r<|mV r r<|sP 43 (b:=(x_x5.Size != x_x6.Size)) r ?_ ?_
     ·refine oF r<|oF r<|oF r<|oF r<|oF r<|oF r<|pT r r r r<|Mj (by kernel_rfl)<|xS<|MW r<|sQ<|rG<|aS r r<|nI<|xS<|rT<|bR<|xR<|lR<|bR<|xR<|Mg (b:=false) r ?_ r r ?_ r
      all_goals first|(simp;done)|(simp;omega)|rfl|(simp [Me,Mc];done)
     ·refine mV r r<|mV r r<|bD fun x_x7 hx_x7=>iS (en:=LS) r r r hx_x7 r<|lF (v:=.int .i64 x_x7) r r r r<|mV r r<|bN (v:=.bool (x_x7 != x_x4)) r r r r r<|pF r r r r<|Mj (by kernel_rfl)<|xS<|cD (c:=(x_x7 != x_x4)) r ?_ ?_
      ·refine sQ<|rG<|aS r r<|nI<|xS<|rT<|bR<|xR<|lR<|bR<|xR<|Mg (b:=false) r ?_ r r ?_ r
       all_goals first|(simp;done)|(simp;omega)|rfl|(simp [Me,Mc];done)
      ·exact sK<|bM<|xS<|rG<|bN (v:=.int .i64 (IntKind.i64.wrap (x3 + 1))) r r r r r<|mV r r<|nI<|xL (s:=IntKind.i64.wrap (x3 + 1)) _ ((hE ⟨rfl,r,r,r,r,trivial⟩ ⟨rfl,trivial⟩))
  ·refine eT<|xE<|lE<|bH<|xS<|sQ<|rG<|aS r r<|nI<|xS<|rT<|Mg (b:=true) r ?_ r r ?_ r
   all_goals first|(simp;done)|(simp;omega)|rfl|(simp [Me,Mc];done)

def Ahi : Mm:=(.seq (.reg [P 1 (.box (T 0) 5 54),P 2 (.asg (.c (.bool false)) none)] false) (.seq (.reg [P 6 (.ld 5 true (T 1)),P 7 (.call (.c (.clo 56 [])) [(T 6)]),M 5 7,P 8 (.ext (T 5) 0),P 9 (.ext (T 5) 1),P 3 (.asg (T 8) none),P 4 (.asg (T 9) none)] false) (.seq (.reg [M 10 4,P 2 (.asg (T 10) none)] false) .ret)))
theorem AjZ : (Tryz.f37.body.bind (Mo Tryz.prog Tryz.f37.ntmps)) = some Ahi:=by kernel_rfl
theorem Aka : Tryz.f37.results.toList.mapM (My Tryz.prog) = some [(.t 2)]:=by kernel_rfl
def Sw (a : LU) : List D:=[LW a]
def Sv (ds : List D) : LU:=SS (ds.getD 0 .top)
theorem Xa (a : LU) : Sv (Sw a) = a:=by simp [Sv,Sw]
def Yh (b : Bool) : D:=.bool b
def Yg (_b : Bool) : List D:=[]
noncomputable def TS : Dw.Spec:=Ml [] .ground Sw Sv (fun a=>QD a) Yh Yg
set_option maxHeartbeats 4000000 in
theorem Ack : Mk Tryz.prog 37 TS:=by
 refine Mv (Mp (l:=[(56,Ow)]) (by simp [UQ])) Tryz.func37 (by decide) AjZ Aka (np:=1) (by decide) Xa (fun _=>r) (fun _=>r) (by decide)<|?_
 intro x1
 show TrE (specs [(56,Ow)]) Ahi (Mz [] .ground [(.t 2)] Yh Yg) ⟨[(0,.agg [.int .i64 x1.Op,.int .i64 x1.A,.int .i64 x1.B,.int .i64 x1.C,.int .u64 x1.Imm])],[],262144⟩ (QD x1)
 refine Mq<|?_
 unfold Ahi QD
 refine sQ<|rG<|bX r r r r r<|aS r r<|nI<|xS<|sQ<|rG<|lO (v:=.agg [.int .i64 x1.Op,.int .i64 x1.A,.int .i64 x1.B,.int .i64 x1.C,.int .u64 x1.Imm]) (z:=.agg [.int .i64 x1.Op,.int .i64 x1.A,.int .i64 x1.B,.int .i64 x1.C,.int .u64 x1.Imm]) r r r r r r<|bD fun r2 hr2=>cG x1 r r r RL r r (by simp) r hr2 r<|mV r r<|eX (v:=.int .i64 r2.1) r r r<|eX (v:=.bool r2.2) r r r<|aS r r<|aS r r<|nI<|xS<|sQ<|rG<|mV r r<|aS r r<|nI<|xS<|rT<|Mg (b:=r2.2) r ?_ r r ?_ r
 all_goals first|(simp;done)|(simp;omega)|rfl|(simp [Me,Mc];done)

def AgS : Mm:=(.seq (.reg [P 2 (.box (T 0) 3 33),P 3 (.box (T 1) 2 48),P 4 (.asg (C 0) none)] false) (.seq (.seq (.reg [P 7 (.ld 3 true (T 2)),P 8 (.fldA 0 (T 3)),P 9 (.ld 1 false (T 8)),P 10 (.call (.c (.clo 36 [])) [(T 7),(T 9)]),P 11 (.un .not (T 10)),M 12 11,⟨(some 13),(.fldA 1 (T 3)),(some ⟨12,false⟩),[]⟩,⟨(some 14),(.ld 1 false (T 13)),(some ⟨12,false⟩),[]⟩,⟨(some 15),(.len false (T 14)),(some ⟨12,false⟩),[]⟩,⟨(some 16),(.fldA 2 (T 2)),(some ⟨12,false⟩),[]⟩,⟨(some 17),(.ld 1 false (T 16)),(some ⟨12,false⟩),[]⟩,⟨(some 18),(.len false (T 17)),(some ⟨12,false⟩),[]⟩,⟨(some 19),(.bin .neq (T 15) (T 18)),(some ⟨12,false⟩),[]⟩,P 20 (.pick (T 12) (.c (.bool true)) (T 19))] false) (.cond (T 20) (.seq (.reg [P 4 (.asg (C 12) none)] false) .ret) .skip)) (.seq (.seq (.reg [P 21 (.fldA 2 (T 2)),P 22 (.ld 1 false (T 21)),P 23 (.len false (T 22)),P 24 (.mv (C 0))] false) (.block 0 (.loop (.seq (.reg [P 25 (.bin .lss (T 24) (T 23))] false) (.seq (.cond (T 25) .skip (.exit 0)) (.seq (.block 1 (.seq (.reg [M 26 24,P 27 (.ixA 5 (T 22) (T 24)),P 28 (.ld 5 true (T 27)),P 6 (.new (.agg [(.int .i64 0),(.int .i64 0),(.int .i64 0),(.int .i64 0),(.int .u64 0)]) 5 54),P 5 (.asg (T 26) none),⟨none,(.st 5 (T 6) (T 28)),none,[]⟩] false) (.seq (.reg [P 29 (.fldA 1 (T 3)),P 30 (.ld 1 false (T 29)),M 31 5,P 32 (.ixA 1 (T 30) (T 31)),P 33 (.ld 1 false (T 32)),P 34 (.un .not (T 33)),M 35 34,⟨(some 36),(.ld 5 true (T 6)),(some ⟨35,true⟩),[]⟩,⟨(some 37),(.call (.c (.clo 37 [])) [(T 36)]),(some ⟨35,true⟩),[]⟩,⟨(some 38),(.un .not (T 37)),(some ⟨35,true⟩),[]⟩,P 39 (.pick (T 35) (T 38) (.c (.bool false)))] false) (.cond (T 39) (.seq (.reg [P 4 (.asg (C 12) none)] false) .ret) .skip)))) (.reg [P 40 (.bin .add (T 24) (C 1)),M 24 40] false))))))) (.seq (.reg [P 4 (.asg (C 0) none)] false) .ret))))
theorem Ajt : (Tryz.f21.body.bind (Mo Tryz.prog Tryz.f21.ntmps)) = some AgS:=by kernel_rfl
theorem Aju : Tryz.f21.results.toList.mapM (My Tryz.prog) = some [(.t 4)]:=by kernel_rfl
def Vf (a : LY × ML) : List D:=[ME a.1,Um a.2]
def Ve (ds : List D) : LY × ML:=(Ny (ds.getD 0 .top),Zo (ds.getD 1 .top))
theorem VI (a : LY × ML) : Ve (Vf a) = a:=by simp [Ve,Vf]
def AaE (b : Int) : D:=.int .i64 b
def AaD (_b : Int) : List D:=[]
noncomputable def Rp : Dw.Spec:=Ml [] .ground Vf Ve (fun a=>Qe a.1 a.2) AaE AaD
set_option maxHeartbeats 4000000 in
theorem ZU : Mk Tryz.prog 21 Rp:=by
 refine Mv (Mp (l:=[(36,VA),(37,TS)]) (by simp [Adc,Ack])) Tryz.func21 (by decide) Ajt Aju (np:=2) (by decide) VI (fun _=>r) (fun _=>r) (by decide)<|?_
 rintro ⟨f1,r2⟩
 show TrE (specs [(36,VA),(37,TS)]) AgS (Mz [] .ground [(.t 4)] AaE AaD) ⟨[(0,.agg [.int .i64 f1.Params,.sl (f1.Slots.map LZ),.sl (f1.Code.map LW)]),(1,.agg [.sl (r2.To.map LS),.sl (r2.Keep.map D.bool)])],[],262144⟩ (Qe f1 r2)
 refine Mq<|?_
 unfold AgS Qe
 refine sQ<|rG<|bX r r r r r<|bX r r r r r<|aS r r<|nI<|xS<|sC (E:=fun (s : Unit) (g : Nat × Nat)=>[(2,.optr 2 g.1 0 0),(3,.optr 3 g.2 0 0)]) (O:=fun s g=>[(2,some (g.1,⟨false,true,3,33,[.agg [.int .i64 f1.Params,.sl (f1.Slots.map LZ),.sl (f1.Code.map LW)]]⟩)),(3,some (g.2,⟨false,true,2,48,[.agg [.sl (r2.To.map LS),.sl (r2.Keep.map D.bool)]]⟩))]) (j:=fun s=>SI f1 r2) ?_ ?_
 ·refine sQ<|rG<|lO (v:=.agg [.int .i64 f1.Params,.sl (f1.Slots.map LZ),.sl (f1.Code.map LW)]) (z:=.agg [.int .i64 f1.Params,.sl (f1.Slots.map LZ),.sl (f1.Code.map LW)]) r r r r r r<|fA r r<|lO (v:=.sl (r2.To.map LS)) (z:=.agg [.sl (r2.To.map LS),.sl (r2.Keep.map D.bool)]) r r r r r r<|bD fun r3 hr3=>cG (f1,r2.To) r r r YM r r (by simp) r hr3 r<|uN (w:=.bool (!r3)) r r r r trivial<|mV r r<|sP 12 (b:=(!r3)) r ?_ ?_
  ·refine oF r<|oF r<|oF r<|oF r<|oF r<|oF r<|oF r<|pT r r r r<|nI<|xS<|MW r<|sQ<|rG<|aS r r<|nI<|xS<|rT<|zR<|Mg (b:=12) r ?_ r r ?_ r
   all_goals first|(simp;done)|(simp;omega)|rfl|(simp [Me,Mc];done)
  ·refine fA r r<|lO (v:=.sl (r2.Keep.map D.bool)) (z:=.agg [.sl (r2.To.map LS),.sl (r2.Keep.map D.bool)]) r r r r r r<|lS r r<|fA r r<|lO (v:=.sl (f1.Code.map LW)) (z:=.agg [.int .i64 f1.Params,.sl (f1.Slots.map LZ),.sl (f1.Code.map LW)]) r r r r r r<|lS r r<|bN (v:=.bool ((r2.Keep.length : Int) != (f1.Code.length : Int))) r r r r r<|pF r r r r<|nI<|xS<|cD (c:=((r2.Keep.length : Int) != (f1.Code.length : Int))) r ?_ ?_
   ·refine sQ<|rG<|aS r r<|nI<|xS<|rT<|zR<|Mg (b:=12) r ?_ r r ?_ r
    all_goals first|(simp;done)|(simp;omega)|rfl|(simp [Me,Mc];done)
   ·exact sK<|xC (s:=()) (_,_) ((hE ⟨rfl,r,trivial⟩ ⟨rfl,r,trivial⟩))
 ·rintro ⟨⟩ ⟨v2x1,v3x1⟩ nn
  try dsimp only
  unfold SI
  refine sQ<|sQ<|rG<|fA r r<|lO (v:=.sl (f1.Code.map LW)) (z:=.agg [.int .i64 f1.Params,.sl (f1.Slots.map LZ),.sl (f1.Code.map LW)]) r r r r r r<|lS r r<|mV r r<|nI<|xS<|bK<|lP (E:=fun (s : Int) (g : Nat)=>[(3,.optr 3 g 0 0),(22,.sl (f1.Code.map LW)),(23,.int .i64 (f1.Code.length : Int)),(24,.int .i64 s)]) (O:=fun s g=>[(3,some (g,⟨false,true,2,48,[.agg [.sl (r2.To.map LS),.sl (r2.Keep.map D.bool)]]⟩))]) (body:=fun s=>SH f1 r2 s) (s:=0) _ ((hE ⟨rfl,r,r,r,trivial⟩ ⟨rfl,trivial⟩))<|?_
  rintro x4 v3x2 nn
  try dsimp only
  unfold SH
  refine sQ<|rG<|bN (v:=.bool (decide (x4 < (f1.Code.length : Int)))) r r r r r<|nI<|xS<|sQ<|cD (c:=(decide (x4 < (f1.Code.length : Int)))) r ?_ ?_
  ·refine sK<|xS<|sQ<|bK<|sQ<|rG<|mV r r<|bD fun x_x5 hx_x5=>iS (en:=LW) r r r hx_x5 r<|lF (v:=.agg [.int .i64 x_x5.Op,.int .i64 x_x5.A,.int .i64 x_x5.B,.int .i64 x_x5.C,.int .u64 x_x5.Imm]) r r r r<|nW r<|aS r r<|sV (z':=.agg [.int .i64 x_x5.Op,.int .i64 x_x5.A,.int .i64 x_x5.B,.int .i64 x_x5.C,.int .u64 x_x5.Imm]) r r r r r r r r r<|nI<|xS<|sQ<|rG<|fA r r<|lO (v:=.sl (r2.Keep.map D.bool)) (z:=.agg [.sl (r2.To.map LS),.sl (r2.Keep.map D.bool)]) r r r r r r<|mV r r<|bD fun x_x6 hx_x6=>iS (en:=D.bool) r r r hx_x6 r<|lF (v:=.bool x_x6) r r r r<|uN (w:=.bool (!x_x6)) r r r r trivial<|mV r r<|sP 35 (b:=(!x_x6)) r ?_ ?_
   ·refine lO (v:=.agg [.int .i64 x_x5.Op,.int .i64 x_x5.A,.int .i64 x_x5.B,.int .i64 x_x5.C,.int .u64 x_x5.Imm]) (z:=.agg [.int .i64 x_x5.Op,.int .i64 x_x5.A,.int .i64 x_x5.B,.int .i64 x_x5.C,.int .u64 x_x5.Imm]) r r r r r r<|bD fun r7 hr7=>cG x_x5 r r r Xa r r (by simp) r hr7 r<|uN (w:=.bool (!r7)) r r r r trivial<|pT r r r r<|nI<|xS<|cD (c:=(!r7)) r ?_ ?_
    ·refine sQ<|rG<|aS r r<|nI<|xS<|rT<|bR<|xR<|lR<|bR<|xR<|Mg (b:=12) r ?_ r r ?_ r
     all_goals first|(simp;done)|(simp;omega)|rfl|(simp [Me,Mc];done)
    ·exact sK<|bM<|xS<|rG<|bN (v:=.int .i64 (IntKind.i64.wrap (x4 + 1))) r r r r r<|mV r r<|nI<|xL (s:=IntKind.i64.wrap (x4 + 1)) _ ((hE ⟨rfl,r,r,r,trivial⟩ ⟨rfl,trivial⟩))
   ·exact oF r<|oF r<|oF r<|pF r r r r<|nI<|xS<|Nz r<|sK<|bM<|xS<|rG<|bN (v:=.int .i64 (IntKind.i64.wrap (x4 + 1))) r r r r r<|mV r r<|nI<|xL (s:=IntKind.i64.wrap (x4 + 1)) _ ((hE ⟨rfl,r,r,r,trivial⟩ ⟨rfl,trivial⟩))
  ·refine eT<|xE<|lE<|bH<|xS<|sQ<|rG<|aS r r<|nI<|xS<|rT<|Mg (b:=0) r ?_ r r ?_ r
   all_goals first|(simp;done)|(simp;omega)|rfl|(simp [Me,Mc];done)

def AhC : Mm:=(.seq (.reg [P 5 (.asg (C 0) none),P 6 (.asg (.c (.bool false)) none)] false) (.seq (.reg [P 12 (.fldA 2 (T 1)),P 13 (.ld 1 false (T 12)),M 14 0,P 15 (.ixA 5 (T 13) (T 14)),P 16 (.ld 5 true (T 15)),P 7 (.new (.agg [(.int .i64 0),(.int .i64 0),(.int .i64 0),(.int .i64 0),(.int .u64 0)]) 5 54),⟨none,(.st 5 (T 7) (T 16)),none,[]⟩] false) (.seq (.reg [P 18 (.ld 5 true (T 7)),P 19 (.call (.c (.clo 56 [])) [(T 18)]),M 17 19,P 20 (.ext (T 17) 0),P 21 (.ext (T 17) 1),P 8 (.asg (T 20) none),P 9 (.asg (T 21) none)] false) (.seq (.seq (.reg [M 22 9,⟨(some 23),(.un .not (T 22)),none,[0]⟩,⟨(some 24),(.mv (T 23)),none,[1]⟩,⟨(some 25),(.fldA 0 (T 7)),(some ⟨24,false⟩),[2]⟩,⟨(some 26),(.ld 1 false (T 25)),(some ⟨24,false⟩),[3,2]⟩,⟨(some 27),(.bin .eql (T 26) (C 17)),(some ⟨24,false⟩),[4,2]⟩,⟨(some 28),(.mv (T 27)),(some ⟨24,false⟩),[5,2,2]⟩,⟨(some 29),(.fldA 0 (T 2)),(some ⟨28,true⟩),[6]⟩,⟨(some 30),(.ld 1 false (T 29)),(some ⟨28,true⟩),[7,6]⟩,⟨(some 31),(.fldA 1 (T 7)),(some ⟨28,true⟩),[6]⟩,⟨(some 32),(.ld 1 false (T 31)),(some ⟨28,true⟩),[9,6]⟩,⟨(some 33),(.ixA 1 (T 30) (T 32)),(some ⟨28,true⟩),[8,10,6]⟩,⟨(some 34),(.ld 1 false (T 33)),(some ⟨28,true⟩),[11,6]⟩,⟨(some 35),(.fldA 0 (T 2)),(some ⟨28,true⟩),[6]⟩,⟨(some 36),(.ld 1 false (T 35)),(some ⟨28,true⟩),[13,6]⟩,⟨(some 37),(.fldA 2 (T 7)),(some ⟨28,true⟩),[6]⟩,⟨(some 38),(.ld 1 false (T 37)),(some ⟨28,true⟩),[15,6]⟩,⟨(some 39),(.ixA 1 (T 36) (T 38)),(some ⟨28,true⟩),[14,16,6]⟩,⟨(some 40),(.ld 1 false (T 39)),(some ⟨28,true⟩),[17,6]⟩,⟨(some 41),(.bin .eql (T 34) (T 40)),(some ⟨28,true⟩),[12,18,6]⟩,⟨(some 42),(.pick (T 28) (T 41) (.c (.bool false))),(some ⟨24,false⟩),[6,19,2]⟩,⟨(some 43),(.pick (T 24) (.c (.bool true)) (T 42)),none,[2,20]⟩] true) (.cond (T 43) (.seq (.reg [P 5 (.asg (C 0) none),P 6 (.asg (.c (.bool false)) none)] false) .ret) .skip)) (.seq (.seq (.reg [P 44 (.fldA 0 (T 3)),P 45 (.ld 1 false (T 44)),M 46 0,P 47 (.ixA 1 (T 45) (T 46)),P 48 (.ld 1 false (T 47)),P 49 (.len false (T 48)),P 50 (.mv (C 0))] false) (.block 0 (.loop (.seq (.reg [P 51 (.bin .lss (T 50) (T 49))] false) (.seq (.cond (T 51) .skip (.exit 0)) (.seq (.block 1 (.seq (.reg [P 52 (.ixA 1 (T 48) (T 50)),P 53 (.ld 1 false (T 52)),P 11 (.asg (T 53) none)] false) (.seq (.reg [P 54 (.fldA 1 (T 2)),⟨(some 55),(.ld 1 false (T 54)),none,[0]⟩,M 56 0,⟨(some 57),(.ixA 1 (T 55) (T 56)),none,[1,2]⟩,⟨(some 58),(.ld 1 false (T 57)),none,[3]⟩,M 59 11,M 60 8,⟨(some 61),(.bin .neq (T 59) (T 60)),none,[5,6]⟩,⟨(some 62),(.eqB false (T 58) (T 61)),none,[4,7]⟩,⟨(some 63),(.mv (T 62)),none,[8]⟩,⟨(some 64),(.fldA 0 (T 2)),(some ⟨63,true⟩),[9]⟩,⟨(some 65),(.ld 1 false (T 64)),(some ⟨63,true⟩),[10,9]⟩,⟨(some 66),(.mv (T 11)),(some ⟨63,true⟩),[9]⟩,⟨(some 67),(.ixA 1 (T 65) (T 66)),(some ⟨63,true⟩),[11,12,9]⟩,⟨(some 68),(.ld 1 false (T 67)),(some ⟨63,true⟩),[13,9]⟩,⟨(some 69),(.fldA 0 (T 2)),(some ⟨63,true⟩),[9]⟩,⟨(some 70),(.ld 1 false (T 69)),(some ⟨63,true⟩),[15,9]⟩,⟨(some 71),(.mv (T 8)),(some ⟨63,true⟩),[9]⟩,⟨(some 72),(.ixA 1 (T 70) (T 71)),(some ⟨63,true⟩),[16,17,9]⟩,⟨(some 73),(.ld 1 false (T 72)),(some ⟨63,true⟩),[18,9]⟩,⟨(some 74),(.bin .eql (T 68) (T 73)),(some ⟨63,true⟩),[14,19,9]⟩,⟨(some 75),(.pick (T 63) (T 74) (.c (.bool false))),none,[9,20]⟩] true) (.cond (T 75) (.seq (.reg [M 76 11,P 5 (.asg (T 76) none),P 6 (.asg (.c (.bool true)) none)] false) .ret) .skip)))) (.reg [P 77 (.bin .add (T 50) (C 1)),M 50 77] false))))))) (.seq (.reg [P 5 (.asg (C 0) none),P 6 (.asg (.c (.bool false)) none)] false) .ret))))))
theorem AkN : (Tryz.f57.body.bind (Mo Tryz.prog Tryz.f57.ntmps)) = some AhC:=by kernel_rfl
theorem AkO : Tryz.f57.results.toList.mapM (My Tryz.prog) = some [(.t 5),(.t 6)]:=by kernel_rfl
def Oq (a : Int × LY × ML × Mf) : List D:=[.int .i64 a.1,.fptr (ME a.2.1) 0,.fptr (Um a.2.2.1) 0,.fptr (Nf a.2.2.2) 0]
def Oo (ds : List D) : Int × LY × ML × Mf:=(uI (ds.getD 0 .top),Ny (fpD (ds.getD 1 .top)),Zo (fpD (ds.getD 2 .top)),OL (fpD (ds.getD 3 .top)))
theorem QJ (a : Int × LY × ML × Mf) : Oo (Oq a) = a:=by simp [Oo,Oq,uI,fpD]
def QS (b : Int × Bool) : D:=.tup [.int .i64 b.1,.bool b.2]
def QQ (_b : Int × Bool) : List D:=[]
noncomputable def OQ : Dw.Spec:=Ml [] .ground Oq Oo (fun a=>MX a.1 a.2.1 a.2.2.1 a.2.2.2) QS QQ
set_option maxHeartbeats 4000000 in
theorem VO : Mk Tryz.prog 57 OQ:=by
 refine Mv (Mp (l:=[(56,Ow)]) (by simp [UQ])) Tryz.func57 (by decide) AkN AkO (np:=4) (by decide) QJ (fun _=>r) (fun _=>r) (by decide)<|?_
 rintro ⟨k1,cap2,cap3,cap4⟩
 show TrE (specs [(56,Ow)]) AhC (Mz [] .ground [(.t 5),(.t 6)] QS QQ) ⟨[(0,.int .i64 k1),(1,.fptr (.agg [.int .i64 cap2.Params,.sl (cap2.Slots.map LZ),.sl (cap2.Code.map LW)]) 0),(2,.fptr (.agg [.sl (cap3.To.map LS),.sl (cap3.Keep.map D.bool)]) 0),(3,.fptr (.agg [.sl (cap4.Out.map (eL LS))]) 0)],[],262144⟩ (MX k1 cap2 cap3 cap4)
 refine Mq<|?_
 unfold AhC MX
 refine sQ<|rG<|aS r r<|aS r r<|nI<|xS<|sQ<|rG<|fF r r<|lF (v:=.sl (cap2.Code.map LW)) r r r r<|mV r r<|bD fun x_x5 hx_x5=>iS (en:=LW) r r r hx_x5 r<|lF (v:=.agg [.int .i64 x_x5.Op,.int .i64 x_x5.A,.int .i64 x_x5.B,.int .i64 x_x5.C,.int .u64 x_x5.Imm]) r r r r<|nW r<|sV (z':=.agg [.int .i64 x_x5.Op,.int .i64 x_x5.A,.int .i64 x_x5.B,.int .i64 x_x5.C,.int .u64 x_x5.Imm]) r r r r r r r r r<|nI<|xS<|sQ<|rG<|lO (v:=.agg [.int .i64 x_x5.Op,.int .i64 x_x5.A,.int .i64 x_x5.B,.int .i64 x_x5.C,.int .u64 x_x5.Imm]) (z:=.agg [.int .i64 x_x5.Op,.int .i64 x_x5.A,.int .i64 x_x5.B,.int .i64 x_x5.C,.int .u64 x_x5.Imm]) r r r r r r<|bD fun r6 hr6=>cG x_x5 r r r RL r r (by simp) r hr6 r<|mV r r<|eX (v:=.int .i64 r6.1) r r r<|eX (v:=.bool r6.2) r r r<|aS r r<|aS r r<|nI<|xS<|sC (E:=fun (s : Unit) (g : Unit)=>[(0,.int .i64 k1),(2,.fptr (.agg [.sl (cap3.To.map LS),.sl (cap3.Keep.map D.bool)]) 0),(3,.fptr (.agg [.sl (cap4.Out.map (eL LS))]) 0),(8,.int .i64 r6.1)]) (O:=fun s g=>[]) (j:=fun s=>MT cap4 k1 cap3 r6) ?_ ?_
 ·refine sQ<|rG<|mV r r<|uN (w:=.bool (!r6.2)) r r r r trivial<|mV r r<|sP 24 (b:=(!r6.2)) r ?_ ?_
  ·refine oF r<|oF r<|oF r<|oF r<|oF r<|oF r<|oF r<|oF r<|oF r<|oF r<|oF r<|oF r<|oF r<|oF r<|oF r<|oF r<|oF r<|oF r<|pT r r r r<|Mj (by kernel_rfl)<|xS<|MW r<|sQ<|rG<|aS r r<|aS r r<|nI<|xS<|rT<|zR<|MF (b:=(0,false)) r ?_ r r ?_ r (by decide)
   all_goals first|(simp;done)|(simp;omega)|rfl|(simp [Me,Mc];done)
  ·refine fA r r<|lO (v:=.int .i64 x_x5.Op) (z:=.agg [.int .i64 x_x5.Op,.int .i64 x_x5.A,.int .i64 x_x5.B,.int .i64 x_x5.C,.int .u64 x_x5.Imm]) r r r r r r<|bN (v:=.bool (x_x5.Op == 17)) r r r r r<|mV r r<|sP 28 (b:=(x_x5.Op == 17)) r ?_ ?_
   ·refine fF r r<|lF (v:=.sl (cap3.To.map LS)) r r r r<|fA r r<|lO (v:=.int .i64 x_x5.A) (z:=.agg [.int .i64 x_x5.Op,.int .i64 x_x5.A,.int .i64 x_x5.B,.int .i64 x_x5.C,.int .u64 x_x5.Imm]) r r r r r r<|bD fun x_x7 hx_x7=>iS (en:=LS) r r r hx_x7 r<|lF (v:=.int .i64 x_x7) r r r r<|fF r r<|lF (v:=.sl (cap3.To.map LS)) r r r r<|fA r r<|lO (v:=.int .i64 x_x5.B) (z:=.agg [.int .i64 x_x5.Op,.int .i64 x_x5.A,.int .i64 x_x5.B,.int .i64 x_x5.C,.int .u64 x_x5.Imm]) r r r r r r<|bD fun x_x8 hx_x8=>iS (en:=LS) r r r hx_x8 r<|lF (v:=.int .i64 x_x8) r r r r<|bN (v:=.bool (x_x7 == x_x8)) r r r r r<|pT r r r r<|pF r r r r<|Mj (by kernel_rfl)<|xS<|cD (c:=(x_x7 == x_x8)) r ?_ ?_
    ·refine sQ<|rG<|aS r r<|aS r r<|nI<|xS<|rT<|zR<|MF (b:=(0,false)) r ?_ r r ?_ r (by decide)
     all_goals first|(simp;done)|(simp;omega)|rfl|(simp [Me,Mc];done)
    ·exact sK<|xC (s:=()) () ((hE ⟨rfl,r,r,r,trivial⟩ trivial))
   ·exact oF r<|oF r<|oF r<|oF r<|oF r<|oF r<|oF r<|oF r<|oF r<|oF r<|oF r<|oF r<|oF r<|pF r r r r<|pF r r r r<|Mj (by kernel_rfl)<|xS<|Nz r<|sK<|xC (s:=()) () ((hE ⟨rfl,r,r,r,trivial⟩ trivial))
 ·rintro ⟨⟩ ⟨⟩ nn
  try dsimp only
  unfold MT
  refine sQ<|sQ<|rG<|fF r r<|lF (v:=.sl (cap4.Out.map (eL LS))) r r r r<|mV r r<|bD fun x_x9 hx_x9=>iS (en:=(eL LS)) r r r hx_x9 r<|lF (v:=.sl (x_x9.map LS)) r r r r<|lS r r<|mV r r<|nI<|xS<|bK<|lP (E:=fun (s : Int) (g : Unit)=>[(0,.int .i64 k1),(2,.fptr (.agg [.sl (cap3.To.map LS),.sl (cap3.Keep.map D.bool)]) 0),(8,.int .i64 r6.1),(48,.sl (x_x9.map LS)),(49,.int .i64 (x_x9.length : Int)),(50,.int .i64 s)]) (O:=fun s g=>[]) (body:=fun s=>NF x_x9 cap3 k1 r6 s) (s:=0) () ((hE ⟨rfl,r,r,r,r,r,trivial⟩ trivial))<|?_
  rintro x10 ⟨⟩ nn
  try dsimp only
  unfold NF
  refine sQ<|rG<|bN (v:=.bool (decide (x10 < (x_x9.length : Int)))) r r r r r<|nI<|xS<|sQ<|cD (c:=(decide (x10 < (x_x9.length : Int)))) r ?_ ?_
  ·refine sK<|xS<|sQ<|bK<|sQ<|rG<|bD fun x_x11 hx_x11=>iS (en:=LS) r r r hx_x11 r<|lF (v:=.int .i64 x_x11) r r r r<|aS r r<|nI<|xS<|sQ<|rG<|fF r r<|lF (v:=.sl (cap3.Keep.map D.bool)) r r r r<|mV r r<|bD fun x_x12 hx_x12=>iS (en:=D.bool) r r r hx_x12 r<|lF (v:=.bool x_x12) r r r r<|mV r r<|mV r r<|bN (v:=.bool (x_x11 != r6.1)) r r r r r<|eB r r r<|mV r r<|sP 63 (b:=(x_x12 == (x_x11 != r6.1))) r ?_ ?_
   ·refine fF r r<|lF (v:=.sl (cap3.To.map LS)) r r r r<|mV r r<|bD fun x_x13 hx_x13=>iS (en:=LS) r r r hx_x13 r<|lF (v:=.int .i64 x_x13) r r r r<|fF r r<|lF (v:=.sl (cap3.To.map LS)) r r r r<|mV r r<|bD fun x_x14 hx_x14=>iS (en:=LS) r r r hx_x14 r<|lF (v:=.int .i64 x_x14) r r r r<|bN (v:=.bool (x_x13 == x_x14)) r r r r r<|pT r r r r<|Mj (by kernel_rfl)<|xS<|cD (c:=(x_x13 == x_x14)) r ?_ ?_
    ·refine sQ<|rG<|mV r r<|aS r r<|aS r r<|nI<|xS<|rT<|bR<|xR<|lR<|bR<|xR<|MF (b:=(x_x11,true)) r ?_ r r ?_ r (by decide)
     all_goals first|(simp;done)|(simp;omega)|rfl|(simp [Me,Mc];done)
    ·exact sK<|bM<|xS<|rG<|bN (v:=.int .i64 (IntKind.i64.wrap (x10 + 1))) r r r r r<|mV r r<|nI<|xL (s:=IntKind.i64.wrap (x10 + 1)) () ((hE ⟨rfl,r,r,r,r,r,trivial⟩ trivial))
   ·exact oF r<|oF r<|oF r<|oF r<|oF r<|oF r<|oF r<|oF r<|oF r<|oF r<|oF r<|pF r r r r<|Mj (by kernel_rfl)<|xS<|Nz r<|sK<|bM<|xS<|rG<|bN (v:=.int .i64 (IntKind.i64.wrap (x10 + 1))) r r r r r<|mV r r<|nI<|xL (s:=IntKind.i64.wrap (x10 + 1)) () ((hE ⟨rfl,r,r,r,r,r,trivial⟩ trivial))
  ·refine eT<|xE<|lE<|bH<|xS<|sQ<|rG<|aS r r<|aS r r<|nI<|xS<|rT<|MF (b:=(0,false)) r ?_ r r ?_ r (by decide)
   all_goals first|(simp;done)|(simp;omega)|rfl|(simp [Me,Mc];done)

def Ahj : Mm:=(.seq (.reg [P 3 (.box (T 0) 3 33),P 4 (.box (T 1) 1 37),P 5 (.box (T 2) 2 48),P 6 (.asg (.c .nilf) none)] false) (.seq (.reg [P 7 (.mkf 57 [(T 3),(T 5),(T 4)]),P 6 (.asg (T 7) none)] false) .ret))
theorem Akb : (Tryz.f38.body.bind (Mo Tryz.prog Tryz.f38.ntmps)) = some Ahj:=by kernel_rfl
theorem Akc : Tryz.f38.results.toList.mapM (My Tryz.prog) = some [(.t 6)]:=by kernel_rfl

def AgT : Mm:=(.seq (.reg [P 3 (.box (T 0) 3 33),P 4 (.box (T 1) 1 37),P 5 (.box (T 2) 2 48),P 6 (.asg (C 0) none),P 7 (.asg (C 0) none),P 8 (.asg (.c (.bool false)) none)] false) (.seq (.seq (.reg [P 13 (.ld 3 true (T 3)),P 14 (.ld 1 true (T 4)),P 15 (.call (.c (.clo 20 [])) [(T 13),(T 14)]),P 16 (.bin .neq (T 15) (C 0)),M 17 16,⟨(some 18),(.ld 3 true (T 3)),(some ⟨17,false⟩),[]⟩,⟨(some 19),(.ld 2 true (T 5)),(some ⟨17,false⟩),[]⟩,⟨(some 20),(.call (.c (.clo 21 [])) [(T 18),(T 19)]),(some ⟨17,false⟩),[]⟩,⟨(some 21),(.bin .neq (T 20) (C 0)),(some ⟨17,false⟩),[]⟩,P 22 (.pick (T 17) (.c (.bool true)) (T 21))] false) (.cond (T 22) (.seq (.reg [P 6 (.asg (C 0) none),P 7 (.asg (C 0) none),P 8 (.asg (.c (.bool false)) none)] false) .ret) .skip)) (.seq (.reg [P 23 (.ld 3 true (T 3)),P 24 (.ld 1 true (T 4)),P 25 (.ld 2 true (T 5)),P 26 (.call (.c (.clo 38 [])) [(T 23),(T 24),(T 25)]),P 9 (.asg (T 26) none)] false) (.seq (.seq (.reg [P 27 (.fldA 2 (T 3)),P 28 (.ld 1 false (T 27)),P 29 (.len false (T 28)),P 30 (.mv (C 0))] false) (.block 0 (.loop (.seq (.reg [P 31 (.bin .lss (T 30) (T 29))] false) (.seq (.cond (T 31) .skip (.exit 0)) (.seq (.block 1 (.seq (.reg [M 32 30,P 10 (.asg (T 32) none)] false) (.seq (.reg [M 34 9,M 35 10,P 36 (.call (T 34) [(T 35)]),M 33 36,P 37 (.ext (T 33) 0),P 38 (.ext (T 33) 1),P 11 (.asg (T 37) none),P 12 (.asg (T 38) none)] false) (.seq (.reg [M 39 12] false) (.cond (T 39) (.seq (.reg [M 40 10,M 41 11,P 6 (.asg (T 40) none),P 7 (.asg (T 41) none),P 8 (.asg (.c (.bool true)) none)] false) .ret) .skip))))) (.reg [P 42 (.bin .add (T 30) (C 1)),M 30 42] false))))))) (.seq (.reg [P 6 (.asg (C 0) none),P 7 (.asg (C 0) none),P 8 (.asg (.c (.bool false)) none)] false) .ret)))))
theorem Ajv : (Tryz.f22.body.bind (Mo Tryz.prog Tryz.f22.ntmps)) = some AgT:=by kernel_rfl
theorem Ajw : Tryz.f22.results.toList.mapM (My Tryz.prog) = some [(.t 6),(.t 7),(.t 8)]:=by kernel_rfl
def Sh (a : LY × Mf × ML) : List D:=[ME a.1,Nf a.2.1,Um a.2.2]
def Sg (ds : List D) : LY × Mf × ML:=(Ny (ds.getD 0 .top),OL (ds.getD 1 .top),Zo (ds.getD 2 .top))
theorem WU (a : LY × Mf × ML) : Sg (Sh a) = a:=by simp [Sg,Sh]
def Xd (b : Int × Int × Bool) : D:=.tup [.int .i64 b.1,.int .i64 b.2.1,.bool b.2.2]
def Xc (_b : Int × Int × Bool) : List D:=[]
noncomputable def TC : Dw.Spec:=Ml [] .ground Sh Sg (fun a=>Pf a.1 a.2.1 a.2.2) Xd Xc
noncomputable def RF : Dw.Spec:=Aef (specs []) 3 [(.t 6)] Ahj
theorem Aag : Mk Tryz.prog 38 RF:=Aih (Nb) Tryz.func38 (by decide) Akb Akc (by decide)
set_option maxHeartbeats 4000000 in
theorem AbA : Mk Tryz.prog 22 TC:=by
 refine Mv (Mp (l:=[(20,Qi),(21,Rp),(38,RF),(57,OQ)]) (by simp [Yi,ZU,Aag,VO])) Tryz.func22 (by decide) Ajv Ajw (np:=3) (by decide) WU (fun _=>r) (fun _=>r) (by decide)<|?_
 rintro ⟨f1,l2,r3⟩
 show TrE (specs [(20,Qi),(21,Rp),(38,RF),(57,OQ)]) AgT (Mz [] .ground [(.t 6),(.t 7),(.t 8)] Xd Xc) ⟨[(0,.agg [.int .i64 f1.Params,.sl (f1.Slots.map LZ),.sl (f1.Code.map LW)]),(1,.agg [.sl (l2.Out.map (eL LS))]),(2,.agg [.sl (r3.To.map LS),.sl (r3.Keep.map D.bool)])],[],262144⟩ (Pf f1 l2 r3)
 refine Mq<|?_
 unfold AgT Pf
 refine sQ<|rG<|bX r r r r r<|bX r r r r r<|bX r r r r r<|aS r r<|aS r r<|aS r r<|nI<|xS<|sC (E:=fun (s : Unit) (g : Nat × Nat × Nat)=>[(3,.optr 3 g.1 0 0),(4,.optr 4 g.2.1 0 0),(5,.optr 5 g.2.2 0 0)]) (O:=fun s g=>[(3,some (g.1,⟨false,true,3,33,[.agg [.int .i64 f1.Params,.sl (f1.Slots.map LZ),.sl (f1.Code.map LW)]]⟩)),(4,some (g.2.1,⟨false,true,1,37,[.agg [.sl (l2.Out.map (eL LS))]]⟩)),(5,some (g.2.2,⟨false,true,2,48,[.agg [.sl (r3.To.map LS),.sl (r3.Keep.map D.bool)]]⟩))]) (j:=fun s=>Qq f1 r3 l2) ?_ ?_
 ·refine sQ<|rG<|lO (v:=.agg [.int .i64 f1.Params,.sl (f1.Slots.map LZ),.sl (f1.Code.map LW)]) (z:=.agg [.int .i64 f1.Params,.sl (f1.Slots.map LZ),.sl (f1.Code.map LW)]) r r r r r r<|lO (v:=.agg [.sl (l2.Out.map (eL LS))]) (z:=.agg [.sl (l2.Out.map (eL LS))]) r r r r r r<|bD fun r4 hr4=>cG (f1,l2) r r r TX r r (by simp) r hr4 r<|bN (v:=.bool (r4 != 0)) r r r r r<|mV r r<|sP 17 (b:=(r4 != 0)) r ?_ ?_
  ·refine oF r<|oF r<|oF r<|oF r<|pT r r r r<|nI<|xS<|MW r<|sQ<|rG<|aS r r<|aS r r<|aS r r<|nI<|xS<|rT<|zR<|MF (b:=(0,0,false)) r ?_ r r ?_ r (by decide)
   all_goals first|(simp;done)|(simp;omega)|rfl|(simp [Me,Mc];done)
  ·refine lO (v:=.agg [.int .i64 f1.Params,.sl (f1.Slots.map LZ),.sl (f1.Code.map LW)]) (z:=.agg [.int .i64 f1.Params,.sl (f1.Slots.map LZ),.sl (f1.Code.map LW)]) r r r r r r<|lO (v:=.agg [.sl (r3.To.map LS),.sl (r3.Keep.map D.bool)]) (z:=.agg [.sl (r3.To.map LS),.sl (r3.Keep.map D.bool)]) r r r r r r<|bD fun r5 hr5=>cG (f1,r3) r r r VI r r (by simp) r hr5 r<|bN (v:=.bool (r5 != 0)) r r r r r<|pF r r r r<|nI<|xS<|cD (c:=(r5 != 0)) r ?_ ?_
   ·refine sQ<|rG<|aS r r<|aS r r<|aS r r<|nI<|xS<|rT<|zR<|MF (b:=(0,0,false)) r ?_ r r ?_ r (by decide)
    all_goals first|(simp;done)|(simp;omega)|rfl|(simp [Me,Mc];done)
   ·exact sK<|xC (s:=()) (_,_,_) ((hE ⟨rfl,r,r,trivial⟩ ⟨rfl,r,r,trivial⟩))
 ·rintro ⟨⟩ ⟨v3x1,v4x1,v5x1⟩ nn
  try dsimp only
  unfold Qq
  refine sQ<|rG<|lO (v:=.agg [.int .i64 f1.Params,.sl (f1.Slots.map LZ),.sl (f1.Code.map LW)]) (z:=.agg [.int .i64 f1.Params,.sl (f1.Slots.map LZ),.sl (f1.Code.map LW)]) r r r r r r<|lO (v:=.agg [.sl (l2.Out.map (eL LS))]) (z:=.agg [.sl (l2.Out.map (eL LS))]) r r r r r r<|lO (v:=.agg [.sl (r3.To.map LS),.sl (r3.Keep.map D.bool)]) (z:=.agg [.sl (r3.To.map LS),.sl (r3.Keep.map D.bool)]) r r r r r r<|AiL (E:=fun (g : Nat)=>[(3,.optr 1003 g 0 0),(23,.agg [.int .i64 f1.Params,.sl (f1.Slots.map LZ),.sl (f1.Code.map LW)]),(24,.agg [.sl (l2.Out.map (eL LS))]),(25,.agg [.sl (r3.To.map LS),.sl (r3.Keep.map D.bool)])]) (O:=fun g=>[(1003,some (g,⟨false,true,3,33,[.agg [.int .i64 f1.Params,.sl (f1.Slots.map LZ),.sl (f1.Code.map LW)]]⟩))]) _ ((Afi (fun g=>bif Nat.ble 4096 g then g + 20000 else g + 1000) (by rfl) (hE ⟨rfl,r,r,r,trivial⟩ ⟨rfl,trivial⟩)))<|?_
  rintro v1003x2 nn
  try dsimp only
  refine Aim (ds:=[.agg [.int .i64 f1.Params,.sl (f1.Slots.map LZ),.sl (f1.Code.map LW)],.agg [.sl (l2.Out.map (eL LS))],.agg [.sl (r3.To.map LS),.sl (r3.Keep.map D.bool)]]) (caps:=[]) (E:=[(0,.agg [.int .i64 f1.Params,.sl (f1.Slots.map LZ),.sl (f1.Code.map LW)]),(1,.agg [.sl (l2.Out.map (eL LS))]),(2,.agg [.sl (r3.To.map LS),.sl (r3.Keep.map D.bool)])]) r r r r r r r r<|?_
  unfold Ahj
  refine sQ<|rG<|bX r r r r r<|bX r r r r r<|bX r r r r r<|aS r r<|nI<|Qs (E:=[(3,.fptr (.agg [.int .i64 f1.Params,.sl (f1.Slots.map LZ),.sl (f1.Code.map LW)]) 0),(4,.fptr (.agg [.sl (l2.Out.map (eL LS))]) 0),(5,.fptr (.agg [.sl (r3.To.map LS),.sl (r3.Keep.map D.bool)]) 0)]) (O:=[(1003,some (v1003x2,⟨false,true,3,33,[.agg [.int .i64 f1.Params,.sl (f1.Slots.map LZ),.sl (f1.Code.map LW)]]⟩))]) ((Kx (g:=3) r (by first | rfl | (simp [cells,frp,Fh,Me]; done)) (Kx (g:=4) r (by first | rfl | (simp [cells,frp,Fh,Me]; done)) (Kx (g:=5) r (by first | rfl | (simp [cells,frp,Fh,Me]; done)) (hE ⟨(by first | rfl | (simp [BM,lkO,frp,Fh,frO]; done) | (simp [BM,lkO,frp,Fh,frO]; rfl) | (simp [BM,lkO,frp,Fh,frO,nbq]; done)),(by first | rfl | (simp [BM,lkO,frp,Fh,frO]; done) | (simp [BM,lkO,frp,Fh,frO]; rfl) | (simp [BM,lkO,frp,Fh,frO,nbq]; done)),(by first | rfl | (simp [BM,lkO,frp,Fh,frO]; done) | (simp [BM,lkO,frp,Fh,frO]; rfl) | (simp [BM,lkO,frp,Fh,frO,nbq]; done)),trivial⟩ ⟨(by first | rfl | (simp [BM,lkO,frp,Fh,frO]; done) | (simp [BM,lkO,frp,Fh,frO]; rfl) | (simp [BM,lkO,frp,Fh,frO,nbq]; done)),trivial⟩))))) fun nn=>sQ<|rG<|mF (caps:=[.fptr (.agg [.int .i64 f1.Params,.sl (f1.Slots.map LZ),.sl (f1.Code.map LW)]) 0,.fptr (.agg [.sl (r3.To.map LS),.sl (r3.Keep.map D.bool)]) 0,.fptr (.agg [.sl (l2.Out.map (eL LS))]) 0]) r r (by simp [FW])<|aS r r<|nI<|xS<|rT<|AiM (d:=.clo 57 [.fptr (.agg [.int .i64 f1.Params,.sl (f1.Slots.map LZ),.sl (f1.Code.map LW)]) 0,.fptr (.agg [.sl (r3.To.map LS),.sl (r3.Keep.map D.bool)]) 0,.fptr (.agg [.sl (l2.Out.map (eL LS))]) 0]) (E:=[(3,.optr 3 _ 0 0),(26,.clo 57 [.fptr (.agg [.int .i64 f1.Params,.sl (f1.Slots.map LZ),.sl (f1.Code.map LW)]) 0,.fptr (.agg [.sl (r3.To.map LS),.sl (r3.Keep.map D.bool)]) 0,.fptr (.agg [.sl (l2.Out.map (eL LS))]) 0])]) (O:=[(3,some (_,⟨false,true,3,33,[.agg [.int .i64 f1.Params,.sl (f1.Slots.map LZ),.sl (f1.Code.map LW)]]⟩))]) r (by first | rfl | (simp [Qj,MY,rdA,raw,strip,Og,S.ge,S.go,look,Ain,cells,Oi]; done)) r ((Aib (E1:=[(3,.optr 1003 v1003x2 0 0),(26,.clo 57 [.fptr (.agg [.int .i64 f1.Params,.sl (f1.Slots.map LZ),.sl (f1.Code.map LW)]) 0,.fptr (.agg [.sl (r3.To.map LS),.sl (r3.Keep.map D.bool)]) 0,.fptr (.agg [.sl (l2.Out.map (eL LS))]) 0])]) (O1:=[(1003,some (v1003x2,⟨false,true,3,33,[.agg [.int .i64 f1.Params,.sl (f1.Slots.map LZ),.sl (f1.Code.map LW)]]⟩))]) (hE ⟨rfl,r,trivial⟩ ⟨rfl,trivial⟩) (fun _=>Afi (fun g=>bif Nat.ble 24096 g then g - 20000 else bif (Nat.ble 1000 g && Nat.blt g 4096) then g - 1000 else g) (by rfl) (hE ⟨rfl,r,trivial⟩ ⟨rfl,trivial⟩)))) fun nn=>aS r r<|nI<|xS<|sQ<|sQ<|rG<|fA r r<|lO (v:=.sl (f1.Code.map LW)) (z:=.agg [.int .i64 f1.Params,.sl (f1.Slots.map LZ),.sl (f1.Code.map LW)]) r r r r r r<|lS r r<|mV r r<|nI<|xS<|bK<|lP (E:=fun (s : Int) (g : Unit)=>[(9,.clo 57 [.fptr (.agg [.int .i64 f1.Params,.sl (f1.Slots.map LZ),.sl (f1.Code.map LW)]) 0,.fptr (.agg [.sl (r3.To.map LS),.sl (r3.Keep.map D.bool)]) 0,.fptr (.agg [.sl (l2.Out.map (eL LS))]) 0]),(29,.int .i64 (f1.Code.length : Int)),(30,.int .i64 s)]) (O:=fun s g=>[]) (body:=fun s=>Qp f1 r3 l2 s) (s:=0) () ((hE ⟨rfl,r,r,trivial⟩ trivial))<|?_
  rintro x6 ⟨⟩ nn
  try dsimp only
  unfold Qp
  refine sQ<|rG<|bN (v:=.bool (decide (x6 < (f1.Code.length : Int)))) r r r r r<|nI<|xS<|sQ<|cD (c:=(decide (x6 < (f1.Code.length : Int)))) r ?_ ?_
  ·refine sK<|xS<|sQ<|bK<|sQ<|rG<|mV r r<|aS r r<|nI<|xS<|sQ<|rG<|mV r r<|mV r r<|bD fun r7 hr7=>cG (x6,f1,r3,l2) r r r QJ r r (by simp) r hr7 r<|mV r r<|eX (v:=.int .i64 r7.1) r r r<|eX (v:=.bool r7.2) r r r<|aS r r<|aS r r<|nI<|xS<|sQ<|rG<|mV r r<|nI<|xS<|cD (c:=r7.2) r ?_ ?_
   ·refine sQ<|rG<|mV r r<|mV r r<|aS r r<|aS r r<|aS r r<|nI<|xS<|rT<|bR<|xR<|lR<|bR<|xR<|MF (b:=(x6,r7.1,true)) r ?_ r r ?_ r (by decide)
    all_goals first|(simp;done)|(simp;omega)|rfl|(simp [Me,Mc];done)
   ·exact sK<|bM<|xS<|rG<|bN (v:=.int .i64 (IntKind.i64.wrap (x6 + 1))) r r r r r<|mV r r<|nI<|xL (s:=IntKind.i64.wrap (x6 + 1)) () ((hE ⟨rfl,r,r,trivial⟩ trivial))
  ·refine eT<|xE<|lE<|bH<|xS<|sQ<|rG<|aS r r<|aS r r<|aS r r<|nI<|xS<|rT<|MF (b:=(0,0,false)) r ?_ r r ?_ r (by decide)
   all_goals first|(simp;done)|(simp;omega)|rfl|(simp [Me,Mc];done)

end Go.Proofs.YtfpgidpffhmadaaGreatDoor
