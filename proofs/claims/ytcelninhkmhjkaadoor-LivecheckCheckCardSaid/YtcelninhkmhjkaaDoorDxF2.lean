/-
  Programs on typed data, and the proofs that the code does what they say; written by a program (dx.py).
-/
import Derived.Test.YtcelninhkmhjkaaDoorProg
import Derived.Test.YtcelninhkmhjkaaDoorDc
import Derived.KernelRfl
import Derived.Test.YtcelninhkmhjkaaDoorDxP
import Derived.Test.YtcelninhkmhjkaaDoorDxF1
namespace Go.Proofs.YtcelninhkmhjkaaDoor
open Go Go.Dw Go.Proofs
set_option maxRecDepth 100000
open Go.Dw renaming YC → mV,WI → bN,Qv → lO,Vi → bD,WL → cK,WN → nI,WR → xS,YD → rG,YF → sQ,SZ → aO,WH → aS,WO → oF,WJ → bL,Vj → bS,Qc → cV,Ps → cG,Qb → cR,WG → aP,Qw → sV,Sk → iS,Ta → iO,Sl → lS,Tb → lW,Vk → fA,WD → fF,Aaa → eX,ZV → nC,Ty → lF,TN → sP,OY → pT,Ov → pF,ZW → uN,Abf → cT,WM → nW,WK → bX,SY → aN,WC → aL,WS → cD,Vm → bK,YE → rT,WV → sK,WT → eT,WQ → xC,Vl → xL,Te → xR,Vo → zR,RV → lR,TG → hE,OZ → lE,Qe → bH,Ow → bM,Td → bR,Qf → xE,UD → cP,WU → lP,Sn → sC,Abg → mF,rf → r
def Aem : Kb:=(.seq (.reg [P 2 (.box (T 0) 5 66),⟨(some 4),(.asg (.c .nils) (some ⟨1,3⟩)),none,[]⟩] false) (.seq (.seq (.reg [P 8 (.ld 5 true (T 2)),P 9 (.call (.c (.clo 100 [])) [(T 8)]),M 7 9,P 10 (.ext (T 7) 0),P 11 (.ext (T 7) 1),P 5 (.asg (T 10) none),P 6 (.asg (T 11) none)] false) (.seq (.reg [M 12 6] false) (.cond (T 12) (.reg [M 13 1,M 14 5,P 15 (.call (.c (.clo 77 [])) [(T 13),(T 14)]),⟨(some 1),(.asg (T 15) (some ⟨1,3⟩)),none,[]⟩] false) .skip))) (.seq (.reg [M 16 1,P 17 (.ld 5 true (T 2)),P 18 (.call (.c (.clo 102 [])) [(T 17)]),P 19 (.call (.c (.clo 101 [])) [(T 18)]),P 20 (.call (.c (.clo 69 [])) [(T 16),(T 19)]),⟨(some 4),(.asg (T 20) (some ⟨1,3⟩)),none,[]⟩] false) .ret)))
theorem Ahu : (Tryd.f74.body.bind (Ke Tryd.prog Tryd.f74.ntmps)) = some Aem:=by kernel_rfl
theorem Ahv : Tryd.f74.results.toList.mapM (Kl Tryd.prog) = some [(.t 4)]:=by kernel_rfl
def VF (a : JK × (List Int)) : List D:=[JM a.1,.sl (a.2.map Ed)]
def VE (ds : List D) : JK × (List Int):=(RW (ds.getD 0 .top),(uL uI) (ds.getD 1 .top))
theorem Xm (a : JK × (List Int)) : VE (VF a) = a:=by simp [VE,VF,Lr (u:=uI) (en:=Ed) (fun _=>rfl)]
def Aao (b : (List Int)) : D:=.sl (b.map Ed)
def Aan (_b : (List Int)) : List D:=[]
noncomputable def SQ : Dw.Spec:=JZ [] .val VF VE (fun a=>RG a.1 a.2) Aao Aan
set_option maxHeartbeats 4000000 in
theorem ZA : JX Tryd.prog 74 SQ:=by
 refine Kh (Kd (l:=[(100,Ts),(77,Pa),(102,VG),(101,XY),(69,PL)]) (by simp [Aaf,Xb,AaV,AbF,XJ])) Tryd.func74 (by decide) Ahu Ahv (np:=2) (by decide) Xm (fun _=>r) (fun _=>r) (by decide)<|?_
 rintro ⟨x1,out2⟩
 show TrE (specs [(100,Ts),(77,Pa),(102,VG),(101,XY),(69,PL)]) Aem (Km [] .val [(.t 4)] Aao Aan) ⟨[(0,.agg [.int .i64 x1.Op,.int .i64 x1.A,.int .i64 x1.B,.int .i64 x1.C,.int .u64 x1.Imm]),(1,.sl (out2.map Ed))],[],262144⟩ (RG x1 out2)
 refine Kf<|?_
 unfold Aem RG
 refine sQ<|rG<|bX r r r r r<|aN (α:=Int) r Ed r<|nI<|xS<|sQ<|sQ<|rG<|lO (v:=.agg [.int .i64 x1.Op,.int .i64 x1.A,.int .i64 x1.B,.int .i64 x1.C,.int .u64 x1.Imm]) (z:=.agg [.int .i64 x1.Op,.int .i64 x1.A,.int .i64 x1.B,.int .i64 x1.C,.int .u64 x1.Imm]) r r r r r r<|bD fun r3 hr3=>cG x1 r r r Wn r r (by simp) r hr3 r<|mV r r<|eX (v:=.int .i64 r3.1) r r r<|eX (v:=.bool r3.2) r r r<|aS r r<|aS r r<|nI<|xS<|sQ<|rG<|mV r r<|nI<|xS<|cD (c:=r3.2) r ?_ ?_
 ·refine rG<|mV r r<|mV r r<|bD fun r4 hr4=>cV (out2,r3.1) r r r Tn r r (by simp) r hr4<|aL r r<|nI<|xS<|sQ<|rG<|mV r r<|lO (v:=.agg [.int .i64 x1.Op,.int .i64 x1.A,.int .i64 x1.B,.int .i64 x1.C,.int .u64 x1.Imm]) (z:=.agg [.int .i64 x1.Op,.int .i64 x1.A,.int .i64 x1.B,.int .i64 x1.C,.int .u64 x1.Imm]) r r r r r r<|bD fun r5 hr5=>cR (l:=r5) (en:=Ed) x1 r r r UO r r (by simp) r hr5 r<|bD fun r6 hr6=>cR (l:=r6) (en:=Ed) r5 r r r Xa r r (by simp) (by first | rfl | (simp only [Kn,Ks]; rfl) | simp [Qy]) hr6 r<|bD fun r7 hr7=>cV (r4,r6) r r r Rm r r (by simp) (by first | rfl | (simp only [Kn,Ks]; rfl) | simp [Oz]) hr7<|aL r r<|nI<|xS<|rT<|KC (b:=r7) r ?_ r r ?_ r
  all_goals first|(simp;done)|(simp;omega)|rfl|(simp [JR,JO];done)
 ·refine sK<|xS<|sQ<|rG<|mV r r<|lO (v:=.agg [.int .i64 x1.Op,.int .i64 x1.A,.int .i64 x1.B,.int .i64 x1.C,.int .u64 x1.Imm]) (z:=.agg [.int .i64 x1.Op,.int .i64 x1.A,.int .i64 x1.B,.int .i64 x1.C,.int .u64 x1.Imm]) r r r r r r<|bD fun r8 hr8=>cR (l:=r8) (en:=Ed) x1 r r r UO r r (by simp) r hr8 r<|bD fun r9 hr9=>cR (l:=r9) (en:=Ed) r8 r r r Xa r r (by simp) (by first | rfl | (simp only [Kn,Ks]; rfl) | simp [Qy]) hr9 r<|bD fun r10 hr10=>cV (out2,r9) r r r Rm r r (by simp) (by first | rfl | (simp only [Kn,Ks]; rfl) | simp [Oz]) hr10<|aL r r<|nI<|xS<|rT<|KC (b:=r10) r ?_ r r ?_ r
  all_goals first|(simp;done)|(simp;omega)|rfl|(simp [JR,JO];done)

def AeF : Kb:=(.seq (.reg [P 4 (.asg (.c (.int .u64 0)) none)] false) (.seq (.reg [M 5 0,M 6 1,P 7 (.bin .andNot (T 5) (T 6)),P 4 (.asg (T 7) none)] false) .ret))
theorem Aig : (Tryd.f99.body.bind (Ke Tryd.prog Tryd.f99.ntmps)) = some AeF:=by kernel_rfl
theorem Aih : Tryd.f99.results.toList.mapM (Kl Tryd.prog) = some [(.t 4)]:=by kernel_rfl
def Ru (a : Int × Int) : List D:=[.int .u64 a.1,.int .u64 a.2]
def Rt (ds : List D) : Int × Int:=(uI (ds.getD 0 .top),uI (ds.getD 1 .top))
theorem VX (a : Int × Int) : Rt (Ru a) = a:=by simp [Rt,Ru,uI]
def WZ (b : Int) : D:=.int .u64 b
def WY (_b : Int) : List D:=[]
noncomputable def Tk : Dw.Spec:=JZ [] .ground Ru Rt (fun a=>Oo a.1 a.2) WZ WY
set_option maxHeartbeats 4000000 in
theorem Aac : JX Tryd.prog 99 Tk:=by
 refine Kh (Ls) Tryd.func99 (by decide) Aig Aih (np:=2) (by decide) VX (fun _=>r) (fun _=>r) (by decide)<|?_
 rintro ⟨x1,y2⟩
 show TrE (specs []) AeF (Km [] .ground [(.t 4)] WZ WY) ⟨[(0,.int .u64 x1),(1,.int .u64 y2)],[],262144⟩ (Oo x1 y2)
 refine Kf<|?_
 unfold AeF Oo
 refine sQ<|rG<|aS r r<|nI<|xS<|sQ<|rG<|mV r r<|mV r r<|bN (v:=.int .u64 (IntKind.u64.wrap ((BitVec.ofInt IntKind.u64.bits x1 &&& ~~~ BitVec.ofInt IntKind.u64.bits y2).toNat))) r r r r r<|aS r r<|nI<|xS<|rT<|JV (b:=IntKind.u64.wrap ((BitVec.ofInt IntKind.u64.bits x1 &&& ~~~ BitVec.ofInt IntKind.u64.bits y2).toNat)) r ?_ r r ?_ r
 all_goals first|(simp;done)|(simp;omega)|rfl|(simp [JR,JO];done)

def MJ (a : JL × JL) : List D:=[Kj a.1,Kj a.2,.clo 99 []]
def MI (ds : List D) : JL × JL:=(KO (ds.getD 0 .top),KO (ds.getD 1 .top))
theorem Pb (a : JL × JL) : MI (MJ a) = a:=by simp [MI,MJ]
def PF (b : JL × JL × JL) : D:=Kj b.1
def PE (b : JL × JL × JL) : List D:=[Kj b.2.1,Kj b.2.2]
noncomputable def LR : Dw.Spec:=JZ [(0,(8,122)),(1,(8,122))] (.ptr 8 122) MJ MI (fun a=>KZ a.1 a.2) PF PE
set_option maxHeartbeats 4000000 in
theorem TY : JX Tryd.prog 96 LR:=by
 refine Kh (Kd (l:=[(99,Tk)]) (by simp [Aac])) Tryd.func96 (by decide) Adf Adg (np:=3) (by decide) Pb (fun _=>r) (fun _=>r) (by decide)<|?_
 rintro ⟨s1,t2⟩
 show TrE (specs [(99,Tk)]) AbL (Km [(0,(8,122)),(1,(8,122))] (.ptr 8 122) [(.t 6)] PF PE) ⟨[(0,.optr 8192 0 0 0),(1,.optr 8193 1 0 0),(2,.clo 99 [])],[(8192,some (0,⟨false,true,8,122,[.agg [.int .u64 s1.a0,.int .u64 s1.a1,.int .u64 s1.a2,.int .u64 s1.a3,.int .u64 s1.a4,.int .u64 s1.a5,.int .u64 s1.a6,.int .u64 s1.a7]]⟩)),(8193,some (1,⟨false,true,8,122,[.agg [.int .u64 t2.a0,.int .u64 t2.a1,.int .u64 t2.a2,.int .u64 t2.a3,.int .u64 t2.a4,.int .u64 t2.a5,.int .u64 t2.a6,.int .u64 t2.a7]]⟩))],262144⟩ (KZ s1 t2)
 refine Kf<|?_
 unfold AbL KZ
 refine sQ<|rG<|aS r r<|nI<|xS<|sQ<|rG<|bL (cs:=[.int .u64 0,.int .u64 0,.int .u64 0,.int .u64 0,.int .u64 0,.int .u64 0,.int .u64 0,.int .u64 0]) (ps:=[]) r r r r<|bX r r r r r<|aS r r<|nI<|xS<|sQ<|sQ<|rG<|mV r r<|nI<|xS<|bK<|lP (E:=fun (s : JL × Int) (g : Nat)=>[(0,.optr 8192 0 0 0),(1,.optr 8193 1 0 0),(2,.clo 99 []),(7,.optr 10 g 0 0),(11,.int .i64 s.2)]) (O:=fun s g=>[(10,some (g,⟨false,true,8,122,[.agg [.int .u64 s.1.a0,.int .u64 s.1.a1,.int .u64 s.1.a2,.int .u64 s.1.a3,.int .u64 s.1.a4,.int .u64 s.1.a5,.int .u64 s.1.a6,.int .u64 s.1.a7]]⟩)),(8192,some (0,⟨false,true,8,122,[.agg [.int .u64 s1.a0,.int .u64 s1.a1,.int .u64 s1.a2,.int .u64 s1.a3,.int .u64 s1.a4,.int .u64 s1.a5,.int .u64 s1.a6,.int .u64 s1.a7]]⟩)),(8193,some (1,⟨false,true,8,122,[.agg [.int .u64 t2.a0,.int .u64 t2.a1,.int .u64 t2.a2,.int .u64 t2.a3,.int .u64 t2.a4,.int .u64 t2.a5,.int .u64 t2.a6,.int .u64 t2.a7]]⟩))]) (body:=fun s=>Lj s1 t2 s.1 s.2) (s:=((JL.mk 0 0 0 0 0 0 0 0),0)) _ ((hE ⟨rfl,r,r,r,r,trivial⟩ ⟨rfl,r,r,trivial⟩))<|?_
 rintro ⟨x3,x4⟩ v10x1 nn
 try dsimp only
 unfold Lj
 refine sQ<|rG<|bN (v:=.bool (decide (x4 < 8))) r r r r r<|nI<|xS<|sQ<|cD (c:=(decide (x4 < 8))) r ?_ ?_
 ·exact sK<|xS<|sQ<|bK<|sQ<|rG<|mV r r<|aS r r<|nI<|xS<|rG<|mV r r<|mV r r<|mV r r<|mV r r<|mV r r<|nC r r r<|cK fun hq=>Qd r r r hq<|bD fun s_e5 hs_e5=>Qu (q:=s_e5) (l:=s1.toList) (en:=SG) (j:=x4.toNat) (by simp) r r r hs_e5 r (fun _=>r)<|mV r r<|mV r r<|nC r r r<|cK fun hq=>Qd r r r hq<|bD fun t_e6 ht_e6=>Qu (q:=t_e6) (l:=t2.toList) (en:=SG) (j:=x4.toNat) (by simp) r r r ht_e6 r (fun _=>r)<|bD fun r7 hr7=>cG (s_e5,t_e6) r r r VX r r (by simp) r hr7 r<|nC r r r<|cK fun hq=>Qd r r r hq<|bD fun x_o8 hx_o8=>AaP (q:=x_o8) (q':=r7) (l:=x3.toList) (en:=SG) (j:=x4.toNat) (z':=.agg [.int .u64 ((x3.set x4.toNat r7).a0),.int .u64 ((x3.set x4.toNat r7).a1),.int .u64 ((x3.set x4.toNat r7).a2),.int .u64 ((x3.set x4.toNat r7).a3),.int .u64 ((x3.set x4.toNat r7).a4),.int .u64 ((x3.set x4.toNat r7).a5),.int .u64 ((x3.set x4.toNat r7).a6),.int .u64 ((x3.set x4.toNat r7).a7)]) (by simp) r r r r r hx_o8 r r (congrArg (fun l=>D.agg (l.map SG)) (Ma x3 x4.toNat r7).symm)<|Ka (by kernel_rfl)<|bM<|xS<|rG<|bN (v:=.int .i64 (IntKind.i64.wrap (x4 + 1))) r r r r r<|mV r r<|nI<|xL (s:=((x3.set x4.toNat r7),IntKind.i64.wrap (x4 + 1))) _ ((hE ⟨rfl,r,r,r,r,trivial⟩ ⟨rfl,r,r,trivial⟩))
 ·refine eT<|xE<|lE<|bH<|xS<|sQ<|rG<|mV r r<|aS r r<|nI<|xS<|rT<|ZZ (b:=(x3,s1,t2)) r ?_ r ?_ r r ?_ r
  all_goals first|(simp;done)|(simp;omega)|rfl|(simp [JR,JO];done)

def Aej : Kb:=(.seq (.reg [⟨(some 4),(.asg (.c .nils) (some ⟨1,3⟩)),none,[]⟩] false) (.seq (.reg [M 5 0,P 6 (.call (.c (.clo 95 [])) [(T 5)]),M 7 1,P 8 (.call (.c (.clo 95 [])) [(T 7)]),P 9 (.call (.c (.clo 96 [])) [(T 6),(T 8),(.c (.clo 99 []))]),P 10 (.call (.c (.clo 98 [])) [(T 9)]),⟨(some 4),(.asg (T 10) (some ⟨1,3⟩)),none,[]⟩] false) .ret))
theorem Aho : (Tryd.f70.body.bind (Ke Tryd.prog Tryd.f70.ntmps)) = some Aej:=by kernel_rfl
theorem Ahp : Tryd.f70.results.toList.mapM (Kl Tryd.prog) = some [(.t 4)]:=by kernel_rfl
def Tm (a : (List Int) × (List Int)) : List D:=[.sl (a.1.map Ed),.sl (a.2.map Ed)]
def Tl (ds : List D) : (List Int) × (List Int):=((uL uI) (ds.getD 0 .top),(uL uI) (ds.getD 1 .top))
theorem XH (a : (List Int) × (List Int)) : Tl (Tm a) = a:=by simp [Tl,Tm,Lr (u:=uI) (en:=Ed) (fun _=>rfl)]
def UJ (b : (List Int)) : D:=.sl (b.map Ed)
def Ym (_b : (List Int)) : List D:=[]
noncomputable def UK : Dw.Spec:=JZ [] .val Tm Tl (fun a=>Oy a.1 a.2) UJ Ym
set_option maxHeartbeats 4000000 in
theorem AaG : JX Tryd.prog 70 UK:=by
 refine Kh (Kd (l:=[(95,Li),(409696,LR),(98,KL)]) (by simp [OA,TY,Nz])) Tryd.func70 (by decide) Aho Ahp (np:=2) (by decide) XH (fun _=>r) (fun _=>r) (by decide)<|?_
 rintro ⟨a1,b2⟩
 show TrE (specs [(95,Li),(409696,LR),(98,KL)]) Aej (Km [] .val [(.t 4)] UJ Ym) ⟨[(0,.sl (a1.map Ed)),(1,.sl (b2.map Ed))],[],262144⟩ (Oy a1 b2)
 refine Kf<|?_
 unfold Aej Oy
 refine sQ<|rG<|aN (α:=Int) r Ed r<|nI<|xS<|sQ<|rG<|mV r r<|bD fun r3 hr3=>cP a1 r r r LV r r (by simp) r hr3<|mV r r<|bD fun r4 hr4=>cP b2 r r r LV r r (by simp) rfl hr4<|bD fun r5 hr5=>cP (r3,r4) rfl rfl (show _ = some LR from by kernel_rfl) Pb rfl rfl (by simp) r hr5<|bD fun r6 hr6=>cR (l:=r6.1) (en:=Ed) r5.1 r r r Mk r r (by simp) r hr6 r<|aO (l:=r6.1) (en:=Ed) r r r r<|nI<|xS<|rT<|KC (b:=r6.1) r ?_ r r ?_ (by first | rfl | (simp only [Kn,Ks]; rfl) | simp [UJ])
 all_goals first|(simp;done)|(simp;omega)|rfl|(simp [JR,JO];done)

def Aeh : Kb:=(.seq (.reg [P 5 (.asg (.c (.bool false)) none)] false) (.seq (.reg [P 6 (.ld 1 false (T 1)),M 7 0,P 8 (.fldA 0 (T 2)),⟨(some 9),(.ld 1 false (T 8)),none,[2]⟩,P 10 (.ld 1 false (T 3)),⟨(some 11),(.ixA 1 (T 9) (T 10)),none,[3,4]⟩,⟨(some 12),(.ld 1 false (T 11)),none,[5]⟩,⟨(some 13),(.call (.c (.clo 70 [])) [(T 7),(T 12)]),none,[1,6]⟩,⟨(some 14),(.call (.c (.clo 69 [])) [(T 6),(T 13)]),none,[0,7,7]⟩,⟨none,(.st 1 (T 1) (T 14)),none,[8,8,0,1,2,3,4,5,6,7,8]⟩] true) (.seq (.reg [P 5 (.asg (.c (.bool true)) none)] false) .ret)))
theorem Ahk : (Tryd.f68.body.bind (Ke Tryd.prog Tryd.f68.ntmps)) = some Aeh:=by kernel_rfl
theorem Ahl : Tryd.f68.results.toList.mapM (Kl Tryd.prog) = some [(.t 5)]:=by kernel_rfl
def Ng (a : (List Int) × (List Int) × JP × Int) : List D:=[.sl (a.1.map Ed),.sl (a.2.1.map Ed),.fptr (KF a.2.2.1) 0,.fptr (.int .i64 a.2.2.2) 0]
def Nf (ds : List D) : (List Int) × (List Int) × JP × Int:=((uL uI) (ds.getD 0 .top),(uL uI) (ds.getD 1 .top),Mp (fpD (ds.getD 2 .top)),uI (fpD (ds.getD 3 .top)))
theorem PS (a : (List Int) × (List Int) × JP × Int) : Nf (Ng a) = a:=by simp [Nf,Ng,uI,fpD,Lr (u:=uI) (en:=Ed) (fun _=>rfl)]
def Qj (b : Bool × (List Int)) : D:=.bool b.1
def Qi (b : Bool × (List Int)) : List D:=[.sl (b.2.map Ed)]
noncomputable def NG : Dw.Spec:=JZ [(1,(1,36))] .val Ng Nf (fun a=>LJ a.1 a.2.1 a.2.2.1 a.2.2.2) Qj Qi
set_option maxHeartbeats 4000000 in
theorem UQ : JX Tryd.prog 68 NG:=by
 refine Kh (Kd (l:=[(70,UK),(69,PL)]) (by simp [AaG,XJ])) Tryd.func68 (by decide) Ahk Ahl (np:=4) (by decide) PS (fun _=>r) (fun _=>r) (by decide)<|?_
 rintro ⟨need1,cap2,cap3,cap4⟩
 show TrE (specs [(70,UK),(69,PL)]) Aeh (Km [(1,(1,36))] .val [(.t 5)] Qj Qi) ⟨[(0,.sl (need1.map Ed)),(1,.optr 8193 1 0 0),(2,.fptr (.agg [.sl (cap3.Out.map (eL Ed))]) 0),(3,.fptr (.int .i64 cap4) 0)],[(8193,some (1,⟨false,true,1,36,[.sl (cap2.map Ed)]⟩))],262144⟩ (LJ need1 cap2 cap3 cap4)
 refine Kf<|?_
 unfold Aeh LJ
 refine sQ<|rG<|aS r r<|nI<|xS<|sQ<|rG<|lO (v:=.sl (cap2.map Ed)) (z:=.sl (cap2.map Ed)) r r r r r r<|mV r r<|fF r r<|lF (v:=.sl (cap3.Out.map (eL Ed))) r r r r<|lF (v:=.int .i64 cap4) r r r r<|bD fun x_x5 hx_x5=>iS (en:=(eL Ed)) r r r hx_x5 r<|lF (v:=.sl (x_x5.map Ed)) r r r r<|bD fun r6 hr6=>cV (need1,x_x5) r r r XH r r (by simp) r hr6<|bD fun r7 hr7=>cV (cap2,r6) r r r Rm r r (by simp) r hr7<|Tc (i:=0) (es':=[.sl (r7.map Ed)]) r r r r r r r (by first | trivial | (simp; done) | (simp; omega)) r r r r r r<|Ka (by kernel_rfl)<|xS<|sQ<|rG<|aS r r<|nI<|xS<|rT<|KC (b:=(true,r7)) r ?_ r r ?_ r
 all_goals first|(simp;done)|(simp;omega)|rfl|(simp [JR,JO];done)

def AbK : Kb:=(.seq (.reg [P 4 (.box (T 0) 3 27),P 8 (.asg (.c (.bool false)) none)] false) (.seq (.seq (.reg [P 11 (.ld 3 true (T 4)),M 12 1,P 13 (.call (.c (.clo 88 [])) [(T 11),(T 12)]),P 14 (.len false (T 13)),P 15 (.mv (C 0))] false) (.block 0 (.loop (.seq (.reg [P 16 (.bin .lss (T 15) (T 14))] false) (.seq (.cond (T 16) .skip (.exit 0)) (.seq (.block 1 (.seq (.reg [P 17 (.ixA 1 (T 13) (T 15)),P 18 (.ld 1 false (T 17)),P 10 (.asg (T 18) none)] false) (.seq (.reg [M 19 3,P 20 (.fldA 2 (T 4)),⟨(some 21),(.ld 1 false (T 20)),none,[1]⟩,M 22 10,⟨(some 23),(.ixA 5 (T 21) (T 22)),none,[2,3]⟩,⟨(some 24),(.ld 5 true (T 23)),none,[4]⟩,M 25 2,M 26 10,⟨(some 27),(.call (T 25) [(T 26)]),none,[6,7]⟩,⟨(some 28),(.call (.c (.clo 74 [])) [(T 24),(T 27)]),none,[5,8,8]⟩,⟨(some 29),(.call (T 19) [(T 28)]),none,[0,9,9]⟩,⟨(some 30),(.un .not (T 29)),none,[10]⟩] true) (.cond (T 30) (.seq (.reg [P 8 (.asg (.c (.bool false)) none)] false) .ret) .skip)))) (.reg [P 31 (.bin .add (T 15) (C 1)),M 15 31] false))))))) (.seq (.reg [P 8 (.asg (.c (.bool true)) none)] false) .ret)))
theorem Adc : (Tryd.f66.body.bind (Ke Tryd.prog Tryd.f66.ntmps)) = some AbK:=by kernel_rfl
theorem Ade : Tryd.f66.results.toList.mapM (Kl Tryd.prog) = some [(.t 8)]:=by kernel_rfl
def Ld (a : JN × Int × JP × (List Int) × JP × Int) : List D:=[Ku a.1,.int .i64 a.2.1,.clo 94 [.fptr (KF a.2.2.1) 0],.clo 68 [.sl (a.2.2.2.1.map Ed),.fptr (KF a.2.2.2.2.1) 0,.fptr (.int .i64 a.2.2.2.2.2) 0]]
def LM (ds : List D) : JN × Int × JP × (List Int) × JP × Int:=(Mi (ds.getD 0 .top),uI (ds.getD 1 .top),Mp (fpD (Ml (ds.getD 2 .top) 0)),(uL uI) (Ml (ds.getD 3 .top) 0),Mp (fpD (Ml (ds.getD 3 .top) 1)),uI (fpD (Ml (ds.getD 3 .top) 2)))
theorem NH (a : JN × Int × JP × (List Int) × JP × Int) : LM (Ld a) = a:=by simp [LM,Ld,uI,fpD,Ml,Lr (u:=uI) (en:=Ed) (fun _=>rfl)]
def NW (b : Bool × (List Int)) : D:=.bool b.1
def NV (b : Bool × (List Int)) : List D:=[.sl (b.2.map Ed)]
noncomputable def Lp : Dw.Spec:=JZ [(256,(1,36))] .val Ld LM (fun a=>KB a.1 a.2.1 a.2.2.1 a.2.2.2.1 a.2.2.2.2.1 a.2.2.2.2.2) NW NV
set_option maxHeartbeats 4000000 in
theorem RL : JX Tryd.prog 66 Lp:=by
 refine Kh (Kd (l:=[(88,SR),(94,PW),(74,SQ),(68,NG)]) (by simp [ZB,Yd,ZA,UQ])) Tryd.func66 (by decide) Adc Ade (np:=4) (by decide) NH (fun _=>r) (fun _=>r) (by decide)<|?_
 rintro ⟨f1,k2,set3,visit4,visit5,visit6⟩
 show TrE (specs [(88,SR),(94,PW),(74,SQ),(68,NG)]) AbK (Km [(256,(1,36))] .val [(.t 8)] NW NV) ⟨[(0,.agg [.int .i64 f1.Params,.sl (f1.Slots.map JQ),.sl (f1.Code.map JM)]),(1,.int .i64 k2),(2,.clo 94 [.fptr (.agg [.sl (set3.Out.map (eL Ed))]) 0]),(3,.clo 68 [.optr 8448 256 0 0,.fptr (.agg [.sl (visit5.Out.map (eL Ed))]) 0,.fptr (.int .i64 visit6) 0])],[(8448,some (256,⟨false,true,1,36,[.sl (visit4.map Ed)]⟩))],262144⟩ (KB f1 k2 set3 visit4 visit5 visit6)
 refine Kf<|?_
 unfold AbK KB
 refine sQ<|rG<|bX r r r r r<|aS r r<|nI<|xS<|sQ<|sQ<|rG<|lO (v:=.agg [.int .i64 f1.Params,.sl (f1.Slots.map JQ),.sl (f1.Code.map JM)]) (z:=.agg [.int .i64 f1.Params,.sl (f1.Slots.map JQ),.sl (f1.Code.map JM)]) r r r r r r<|mV r r<|bD fun r7 hr7=>cR (l:=r7) (en:=Ed) (f1,k2) r r r Xn r r (by simp) r hr7 r<|lW r r<|mV r r<|nI<|xS<|bK<|lP (E:=fun (s : (List Int) × Int) (g : Nat × Nat)=>[(2,.clo 94 [.fptr (.agg [.sl (set3.Out.map (eL Ed))]) 0]),(3,.clo 68 [.optr 8448 256 0 0,.fptr (.agg [.sl (visit5.Out.map (eL Ed))]) 0,.fptr (.int .i64 visit6) 0]),(4,.optr 4 g.1 0 0),(13,.osl 13 g.2 0 r7.length),(14,.int .i64 (r7.length : Int)),(15,.int .i64 s.2)]) (O:=fun s g=>[(4,some (g.1,⟨false,true,3,27,[.agg [.int .i64 f1.Params,.sl (f1.Slots.map JQ),.sl (f1.Code.map JM)]]⟩)),(13,some (g.2,⟨false,false,1,3,r7.map Ed⟩)),(8448,some (256,⟨false,true,1,36,[.sl (s.1.map Ed)]⟩))]) (body:=fun s=>Kw r7 f1 set3 visit5 visit6 s.1 s.2) (s:=(visit4,0)) (_,_) ((hE ⟨rfl,r,r,r,r,r,trivial⟩ ⟨rfl,r,r,trivial⟩))<|?_
 rintro ⟨x8,x9⟩ ⟨v4x1,v13x1⟩ nn
 try dsimp only
 unfold Kw
 refine sQ<|rG<|bN (v:=.bool (decide (x9 < (r7.length : Int)))) r r r r r<|nI<|xS<|sQ<|cD (c:=(decide (x9 < (r7.length : Int)))) r ?_ ?_
 ·refine sK<|xS<|sQ<|bK<|sQ<|rG<|cK fun hq=>iO (l:=r7) (en:=Ed) r r r r r hq<|bD fun x_e10 hx_e10=>lO (v:=.int .i64 x_e10) (z:=Ed x_e10) r r r (Md hx_e10) r r<|aS r r<|nI<|xS<|sQ<|rG<|mV r r<|fA r r<|lO (v:=.sl (f1.Code.map JM)) (z:=.agg [.int .i64 f1.Params,.sl (f1.Slots.map JQ),.sl (f1.Code.map JM)]) r r r r r r<|mV r r<|bD fun x_x11 hx_x11=>iS (en:=JM) r r r hx_x11 r<|lF (v:=.agg [.int .i64 x_x11.Op,.int .i64 x_x11.A,.int .i64 x_x11.B,.int .i64 x_x11.C,.int .u64 x_x11.Imm]) r r r r<|mV r r<|mV r r<|bD fun r12 hr12=>cV (x_e10,set3) r r r SV r r (by simp) r hr12<|bD fun r13 hr13=>cV (x_x11,r12) r r r Xm r r (by simp) r hr13<|bD fun r14 hr14=>cV (r13,x8,visit5,visit6) r r r PS r r (by simp) r hr14<|uN (w:=.bool (!r14.1)) r r r r trivial<|Ka (by kernel_rfl)<|xS<|cD (c:=(!r14.1)) r ?_ ?_
  ·refine sQ<|rG<|aS r r<|nI<|xS<|rT<|bR<|xR<|lR<|bR<|xR<|KC (b:=(false,r14.2)) r ?_ r r ?_ r
   all_goals first|(simp;done)|(simp;omega)|rfl|(simp [JR,JO];done)
  ·exact sK<|bM<|xS<|rG<|bN (v:=.int .i64 (IntKind.i64.wrap (x9 + 1))) r r r r r<|mV r r<|nI<|xL (s:=(r14.2,IntKind.i64.wrap (x9 + 1))) (_,_) ((hE ⟨rfl,r,r,r,r,r,trivial⟩ ⟨rfl,r,r,trivial⟩))
 ·refine eT<|xE<|lE<|bH<|xS<|sQ<|rG<|aS r r<|nI<|xS<|rT<|KC (b:=(true,x8)) r ?_ r r ?_ r
  all_goals first|(simp;done)|(simp;omega)|rfl|(simp [JR,JO];done)

def AdO : Kb:=(.seq (.reg [P 2 (.box (T 0) 3 27),P 3 (.box (T 1) 1 30),P 4 (.asg (C 0) none),P 5 (.asg (C 0) none),P 6 (.asg (.c (.bool false)) none)] false) (.seq (.seq (.reg [P 9 (.ld 3 true (T 2)),P 10 (.ld 1 true (T 3)),P 11 (.call (.c (.clo 63 [])) [(T 9),(T 10)]),P 12 (.un .not (T 11))] false) (.cond (T 12) (.seq (.reg [P 4 (.asg (C 0) none),P 5 (.asg (C 0) none),P 6 (.asg (.c (.bool false)) none)] false) .ret) .skip)) (.seq (.seq (.reg [P 13 (.fldA 2 (T 2)),P 14 (.ld 1 false (T 13)),P 15 (.len false (T 14)),P 16 (.mv (C 0))] false) (.block 0 (.loop (.seq (.reg [P 17 (.bin .lss (T 16) (T 15))] false) (.seq (.cond (T 17) .skip (.exit 0)) (.seq (.block 1 (.seq (.reg [M 18 16,P 7 (.new (.int .i64 0) 1 3),⟨none,(.st 1 (T 7) (T 18)),none,[]⟩] false) (.seq (.reg [P 8 (.new .nils 1 36)] false) (.seq (.reg [P 19 (.ld 3 true (T 2)),P 20 (.ld 1 false (T 7)),P 21 (.ld 1 true (T 3)),⟨(some 22),(.call (.c (.clo 67 [])) [(T 21)]),none,[2]⟩,P 23 (.mkf 68 [(T 8),(T 3),(T 7)]),⟨(some 24),(.call (.c (.clo 66 [])) [(T 19),(T 20),(T 22),(T 23)]),none,[0,1,3,4,3]⟩] true) (.seq (.reg [P 25 (.ld 1 false (T 8)),P 26 (.len false (T 25)),P 27 (.bin .gtr (T 26) (C 0))] false) (.cond (T 27) (.seq (.reg [P 28 (.ld 1 false (T 7)),P 29 (.ld 1 false (T 8)),⟨(some 30),(.ixA 1 (T 29) (C 0)),none,[1]⟩,⟨(some 31),(.ld 1 false (T 30)),none,[2]⟩,⟨(some 4),(.asg (T 28) none),none,[0,0]⟩,⟨(some 5),(.asg (T 31) none),none,[3,4,0,1,2,3,4]⟩,⟨(some 6),(.asg (.c (.bool true)) none),none,[5,0,1,2,3,4,5]⟩] true) .ret) .skip)))))) (.reg [P 32 (.bin .add (T 16) (C 1)),M 16 32] false))))))) (.seq (.reg [P 4 (.asg (C 0) none),P 5 (.asg (C 0) none),P 6 (.asg (.c (.bool false)) none)] false) .ret))))
theorem Agy : (Tryd.f30.body.bind (Ke Tryd.prog Tryd.f30.ntmps)) = some AdO:=by kernel_rfl
theorem Agz : Tryd.f30.results.toList.mapM (Kl Tryd.prog) = some [(.t 4),(.t 5),(.t 6)]:=by kernel_rfl
def Rf (a : JN × JP) : List D:=[Ku a.1,KF a.2]
def Re (ds : List D) : JN × JP:=(Mi (ds.getD 0 .top),Mp (ds.getD 1 .top))
theorem RK (a : JN × JP) : Re (Rf a) = a:=by simp [Re,Rf]
def Ws (b : Int × Int × Bool) : D:=.tup [.int .i64 b.1,.int .i64 b.2.1,.bool b.2.2]
def Wq (_b : Int × Int × Bool) : List D:=[]
noncomputable def Oe : Dw.Spec:=JZ [] .ground Rf Re (fun a=>MQ a.1 a.2) Ws Wq
set_option maxHeartbeats 4000000 in
theorem Vy : JX Tryd.prog 30 Oe:=by
 refine Kh (Kd (l:=[(63,NI),(67,Tt),(1158017090,Lp)]) (by simp [UH,Aag,RL])) Tryd.func30 (by decide) Agy Agz (np:=2) (by decide) RK (fun _=>r) (fun _=>r) (by decide)<|?_
 rintro ⟨f1,l2⟩
 show TrE (specs [(63,NI),(67,Tt),(1158017090,Lp)]) AdO (Km [] .ground [(.t 4),(.t 5),(.t 6)] Ws Wq) ⟨[(0,.agg [.int .i64 f1.Params,.sl (f1.Slots.map JQ),.sl (f1.Code.map JM)]),(1,.agg [.sl (l2.Out.map (eL Ed))])],[],262144⟩ (MQ f1 l2)
 refine Kf<|?_
 unfold AdO MQ
 refine sQ<|rG<|bX r r r r r<|bX r r r r r<|aS r r<|aS r r<|aS r r<|nI<|Mo (E:=[(2,.optr 2 _ 0 0),(3,.fptr (.agg [.sl (l2.Out.map (eL Ed))]) 0)]) (O:=[(2,some (_,⟨false,true,3,27,[.agg [.int .i64 f1.Params,.sl (f1.Slots.map JQ),.sl (f1.Code.map JM)]]⟩))]) ((OB (g:=3) r (by first | rfl | (simp [cells,frp,Kg,JR]; done)) (hE ⟨(by first | rfl | (simp [JY,lkO,frp,Kg,frO]; done) | (simp [JY,lkO,frp,Kg,frO]; rfl)),(by first | rfl | (simp [JY,lkO,frp,Kg,frO]; done) | (simp [JY,lkO,frp,Kg,frO]; rfl)),trivial⟩ ⟨(by first | rfl | (simp [JY,lkO,frp,Kg,frO]; done) | (simp [JY,lkO,frp,Kg,frO]; rfl)),trivial⟩))) fun nn=>sQ<|sQ<|rG<|lO (v:=.agg [.int .i64 f1.Params,.sl (f1.Slots.map JQ),.sl (f1.Code.map JM)]) (z:=.agg [.int .i64 f1.Params,.sl (f1.Slots.map JQ),.sl (f1.Code.map JM)]) r r r r r r<|lF (v:=.agg [.sl (l2.Out.map (eL Ed))]) r r r r<|bD fun r3 hr3=>cG (f1,l2) r r r Ri r r (by simp) r hr3 r<|uN (w:=.bool (!r3)) r r r r trivial<|nI<|xS<|cD (c:=(!r3)) r ?_ ?_
 ·refine sQ<|rG<|aS r r<|aS r r<|aS r r<|nI<|xS<|rT<|xR<|Lh (b:=(0,0,false)) r ?_ r r ?_ r (by decide)
  all_goals first|(simp;done)|(simp;omega)|rfl|(simp [JR,JO];done)
 ·refine sK<|xS<|sQ<|sQ<|rG<|fA r r<|lO (v:=.sl (f1.Code.map JM)) (z:=.agg [.int .i64 f1.Params,.sl (f1.Slots.map JQ),.sl (f1.Code.map JM)]) r r r r r r<|lS r r<|mV r r<|nI<|xS<|bK<|lP (E:=fun (s : Int) (g : Nat)=>[(2,.optr 2 g 0 0),(3,.fptr (.agg [.sl (l2.Out.map (eL Ed))]) 0),(15,.int .i64 (f1.Code.length : Int)),(16,.int .i64 s)]) (O:=fun s g=>[(2,some (g,⟨false,true,3,27,[.agg [.int .i64 f1.Params,.sl (f1.Slots.map JQ),.sl (f1.Code.map JM)]]⟩))]) (body:=fun s=>Pl f1 l2 s) (s:=0) _ ((hE ⟨rfl,r,r,r,trivial⟩ ⟨rfl,trivial⟩))<|?_
  rintro x4 v2x1 nn
  try dsimp only
  unfold Pl
  refine sQ<|rG<|bN (v:=.bool (decide (x4 < (f1.Code.length : Int)))) r r r r r<|nI<|xS<|sQ<|cD (c:=(decide (x4 < (f1.Code.length : Int)))) r ?_ ?_
  ·refine sK<|xS<|sQ<|bK<|sQ<|rG<|mV r r<|nW r<|sV (z':=.int .i64 x4) r r r r r r r r r<|nI<|Mo (E:=[(2,.optr 2 _ 0 0),(3,.fptr (.agg [.sl (l2.Out.map (eL Ed))]) 0),(7,.fptr (.int .i64 x4) 0),(15,.int .i64 (f1.Code.length : Int)),(16,.int .i64 x4)]) (O:=[(2,some (_,⟨false,true,3,27,[.agg [.int .i64 f1.Params,.sl (f1.Slots.map JQ),.sl (f1.Code.map JM)]]⟩))]) ((OB (g:=7) r (by first | rfl | (simp [cells,frp,Kg,JR]; done)) (hE ⟨(by first | rfl | (simp [JY,lkO,frp,Kg,frO]; done) | (simp [JY,lkO,frp,Kg,frO]; rfl)),(by first | rfl | (simp [JY,lkO,frp,Kg,frO]; done) | (simp [JY,lkO,frp,Kg,frO]; rfl)),(by first | rfl | (simp [JY,lkO,frp,Kg,frO]; done) | (simp [JY,lkO,frp,Kg,frO]; rfl)),(by first | rfl | (simp [JY,lkO,frp,Kg,frO]; done) | (simp [JY,lkO,frp,Kg,frO]; rfl)),(by first | rfl | (simp [JY,lkO,frp,Kg,frO]; done) | (simp [JY,lkO,frp,Kg,frO]; rfl)),trivial⟩ ⟨(by first | rfl | (simp [JY,lkO,frp,Kg,frO]; done) | (simp [JY,lkO,frp,Kg,frO]; rfl)),trivial⟩))) fun nn=>sQ<|rG<|nW r<|nI<|xS<|sQ<|rG<|lO (v:=.agg [.int .i64 f1.Params,.sl (f1.Slots.map JQ),.sl (f1.Code.map JM)]) (z:=.agg [.int .i64 f1.Params,.sl (f1.Slots.map JQ),.sl (f1.Code.map JM)]) r r r r r r<|lF (v:=.int .i64 x4) r r r r<|lF (v:=.agg [.sl (l2.Out.map (eL Ed))]) r r r r<|bD fun r5 hr5=>cV l2 r r r Wv r r (by simp) r hr5<|mF (caps:=[.optr 8 _ 0 0,.fptr (.agg [.sl (l2.Out.map (eL Ed))]) 0,.fptr (.int .i64 x4) 0]) r r (by simp [Sj])<|bD fun r6 hr6=>cV (f1,x4,r5,[],l2,x4) rfl rfl (show _ = some Lp from by kernel_rfl) NH rfl rfl (by simp) (by first | rfl | (simp only [Kn,Ks]; rfl) | simp [Ld,Ku,KF,KF]) hr6<|Ka (by kernel_rfl)<|xS<|sQ<|rG<|lO (v:=.sl (r6.2.map Ed)) (z:=.sl (r6.2.map Ed)) r r r r r r<|lS r r<|bN (v:=.bool (decide ((r6.2.length : Int) > 0))) r r r r r<|nI<|xS<|cD (c:=(decide ((r6.2.length : Int) > 0))) r ?_ ?_
   ·refine sQ<|rG<|lF (v:=.int .i64 x4) r r r r<|lO (v:=.sl (r6.2.map Ed)) (z:=.sl (r6.2.map Ed)) r r r r r r<|bD fun x_x7 hx_x7=>iS (en:=Ed) r r r hx_x7 r<|lF (v:=.int .i64 x_x7) r r r r<|aS r r<|aS r r<|aS r r<|Ka (by kernel_rfl)<|xS<|rT<|bR<|xR<|lR<|bR<|xR<|Lh (b:=(x4,x_x7,true)) r ?_ r r ?_ r (by decide)
    all_goals first|(simp;done)|(simp;omega)|rfl|(simp [JR,JO];done)
   ·exact sK<|bM<|xS<|rG<|bN (v:=.int .i64 (IntKind.i64.wrap (x4 + 1))) r r r r r<|mV r r<|nI<|xL (s:=IntKind.i64.wrap (x4 + 1)) _ ((hE ⟨rfl,r,r,r,trivial⟩ ⟨rfl,trivial⟩))
  ·refine eT<|xE<|lE<|bH<|xS<|sQ<|rG<|aS r r<|aS r r<|aS r r<|nI<|xS<|rT<|Lh (b:=(0,0,false)) r ?_ r r ?_ r (by decide)
   all_goals first|(simp;done)|(simp;omega)|rfl|(simp [JR,JO];done)

def AdJ : Kb:=(.seq (.reg [P 2 (.box (T 0) 3 27),P 3 (.box (T 1) 1 30),P 4 (.asg (C 0) none)] false) (.seq (.seq (.reg [P 8 (.ld 3 true (T 2)),P 9 (.ld 1 true (T 3)),P 10 (.call (.c (.clo 63 [])) [(T 8),(T 9)]),P 11 (.un .not (T 10))] false) (.cond (T 11) (.seq (.reg [P 4 (.asg (C 11) none)] false) .ret) .skip)) (.seq (.seq (.reg [P 13 (.ld 3 true (T 2)),P 14 (.ld 1 true (T 3)),P 15 (.call (.c (.clo 30 [])) [(T 13),(T 14)]),M 12 15,P 16 (.ext (T 12) 0),P 17 (.ext (T 12) 1),P 18 (.ext (T 12) 2),P 5 (.asg (T 16) none),P 6 (.asg (T 17) none),P 7 (.asg (T 18) none)] false) (.seq (.reg [M 19 7] false) (.cond (T 19) (.seq (.reg [P 4 (.asg (C 11) none)] false) .ret) .skip))) (.seq (.reg [P 4 (.asg (C 0) none)] false) .ret))))
theorem Ago : (Tryd.f22.body.bind (Ke Tryd.prog Tryd.f22.ntmps)) = some AdJ:=by kernel_rfl
theorem Agp : Tryd.f22.results.toList.mapM (Kl Tryd.prog) = some [(.t 4)]:=by kernel_rfl
def Nk (a : JN × JP) : List D:=[Ku a.1,KF a.2]
def Rc (ds : List D) : JN × JP:=(Mi (ds.getD 0 .top),Mp (ds.getD 1 .top))
theorem NF (a : JN × JP) : Rc (Nk a) = a:=by simp [Rc,Nk]
def Wp (b : Int) : D:=.int .i64 b
def Wo (_b : Int) : List D:=[]
noncomputable def Mf : Dw.Spec:=JZ [] .ground Nk Rc (fun a=>LI a.1 a.2) Wp Wo
set_option maxHeartbeats 4000000 in
theorem RJ : JX Tryd.prog 22 Mf:=by
 refine Kh (Kd (l:=[(63,NI),(30,Oe)]) (by simp [UH,Vy])) Tryd.func22 (by decide) Ago Agp (np:=2) (by decide) NF (fun _=>r) (fun _=>r) (by decide)<|?_
 rintro ⟨f1,l2⟩
 show TrE (specs [(63,NI),(30,Oe)]) AdJ (Km [] .ground [(.t 4)] Wp Wo) ⟨[(0,.agg [.int .i64 f1.Params,.sl (f1.Slots.map JQ),.sl (f1.Code.map JM)]),(1,.agg [.sl (l2.Out.map (eL Ed))])],[],262144⟩ (LI f1 l2)
 refine Kf<|?_
 unfold AdJ LI
 refine sQ<|rG<|bX r r r r r<|bX r r r r r<|aS r r<|nI<|xS<|sQ<|sQ<|rG<|lO (v:=.agg [.int .i64 f1.Params,.sl (f1.Slots.map JQ),.sl (f1.Code.map JM)]) (z:=.agg [.int .i64 f1.Params,.sl (f1.Slots.map JQ),.sl (f1.Code.map JM)]) r r r r r r<|lO (v:=.agg [.sl (l2.Out.map (eL Ed))]) (z:=.agg [.sl (l2.Out.map (eL Ed))]) r r r r r r<|bD fun r3 hr3=>cG (f1,l2) r r r Ri r r (by simp) r hr3 r<|uN (w:=.bool (!r3)) r r r r trivial<|nI<|xS<|cD (c:=(!r3)) r ?_ ?_
 ·refine sQ<|rG<|aS r r<|nI<|xS<|rT<|xR<|JV (b:=11) r ?_ r r ?_ r
  all_goals first|(simp;done)|(simp;omega)|rfl|(simp [JR,JO];done)
 ·refine sK<|xS<|sQ<|sQ<|rG<|lO (v:=.agg [.int .i64 f1.Params,.sl (f1.Slots.map JQ),.sl (f1.Code.map JM)]) (z:=.agg [.int .i64 f1.Params,.sl (f1.Slots.map JQ),.sl (f1.Code.map JM)]) r r r r r r<|lO (v:=.agg [.sl (l2.Out.map (eL Ed))]) (z:=.agg [.sl (l2.Out.map (eL Ed))]) r r r r r r<|bD fun r4 hr4=>cG (f1,l2) r r r RK r r (by simp) r hr4 r<|mV r r<|eX (v:=.int .i64 r4.1) r r r<|eX (v:=.int .i64 r4.2.1) r r r<|eX (v:=.bool r4.2.2) r r r<|aS r r<|aS r r<|aS r r<|nI<|xS<|sQ<|rG<|mV r r<|nI<|xS<|cD (c:=r4.2.2) r ?_ ?_
  ·refine sQ<|rG<|aS r r<|nI<|xS<|rT<|xR<|JV (b:=11) r ?_ r r ?_ r
   all_goals first|(simp;done)|(simp;omega)|rfl|(simp [JR,JO];done)
  ·refine sK<|xS<|sQ<|rG<|aS r r<|nI<|xS<|rT<|JV (b:=0) r ?_ r r ?_ r
   all_goals first|(simp;done)|(simp;omega)|rfl|(simp [JR,JO];done)

def AdH : Kb:=(.seq (.reg [P 0 (.asg (.c (.bool false)) none)] false) (.seq (.reg [⟨(some 2),(.bld [(.int .i64 0),(.int .i64 0)] [⟨0,⟨1,(C 8)⟩⟩,⟨1,⟨1,(C 8)⟩⟩]),none,[]⟩,⟨(some 3),(.bldS 2 63 (.agg [(.int .i64 0),(.int .i64 0)]) 1 [⟨0,(T 2)⟩]),none,[]⟩,⟨(some 4),(.bld [(.int .i64 0),(.int .i64 0),(.int .i64 0),(.int .i64 0),(.int .u64 0)] [⟨0,⟨1,(C 16)⟩⟩]),none,[]⟩,⟨(some 5),(.bld [(.int .i64 0),(.int .i64 0),(.int .i64 0),(.int .i64 0),(.int .u64 0)] [⟨0,⟨1,(C 15)⟩⟩]),none,[]⟩,⟨(some 6),(.bld [(.int .i64 0),(.int .i64 0),(.int .i64 0),(.int .i64 0),(.int .u64 0)] [⟨0,⟨1,(C 23)⟩⟩]),none,[]⟩,⟨(some 7),(.bldS 5 66 (.agg [(.int .i64 0),(.int .i64 0),(.int .i64 0),(.int .i64 0),(.int .u64 0)]) 3 [⟨0,(T 4)⟩,⟨1,(T 5)⟩,⟨2,(T 6)⟩]),none,[]⟩,⟨(some 8),(.bld [(.int .i64 0),.nils,.nils] [⟨1,⟨1,(T 3)⟩⟩,⟨2,⟨1,(T 7)⟩⟩]),none,[]⟩,P 1 (.new (.agg [(.int .i64 0),.nils,.nils]) 3 27),⟨none,(.st 3 (T 1) (T 8)),none,[]⟩] false) (.seq (.reg [P 9 (.ld 3 true (T 1)),⟨(some 10),(.bldS 1 3 (.int .i64 0) 1 [⟨0,(C 0)⟩]),none,[]⟩,P 11 (.bldS 1 3 (.int .i64 0) 0 []),P 12 (.bldS 1 3 (.int .i64 0) 0 []),⟨(some 13),(.bldS 1 36 (.sl []) 3 [⟨0,(T 10)⟩,⟨1,(T 11)⟩,⟨2,(T 12)⟩]),none,[]⟩,⟨(some 14),(.bld [.nils] [⟨0,⟨1,(T 13)⟩⟩]),none,[]⟩,P 15 (.call (.c (.clo 22 [])) [(T 9),(T 14)]),P 16 (.bin .eql (T 15) (C 0)),M 17 16,⟨(some 18),(.ld 3 true (T 1)),(some ⟨17,true⟩),[]⟩,⟨(some 19),(.bldS 1 3 (.int .i64 0) 0 []),(some ⟨17,true⟩),[]⟩,⟨(some 20),(.bldS 1 3 (.int .i64 0) 0 []),(some ⟨17,true⟩),[]⟩,⟨(some 21),(.bldS 1 3 (.int .i64 0) 0 []),(some ⟨17,true⟩),[]⟩,⟨(some 22),(.bldS 1 36 (.sl []) 3 [⟨0,(T 19)⟩,⟨1,(T 20)⟩,⟨2,(T 21)⟩]),(some ⟨17,true⟩),[]⟩,⟨(some 23),(.bld [.nils] [⟨0,⟨1,(T 22)⟩⟩]),(some ⟨17,true⟩),[]⟩,⟨(some 24),(.call (.c (.clo 22 [])) [(T 18),(T 23)]),(some ⟨17,true⟩),[]⟩,⟨(some 25),(.bin .eql (T 24) (C 11)),(some ⟨17,true⟩),[]⟩,P 26 (.pick (T 17) (T 25) (.c (.bool false))),P 0 (.asg (T 26) none)] false) .ret)))
theorem Agk : (Tryd.f20.body.bind (Ke Tryd.prog Tryd.f20.ntmps)) = some AdH:=by kernel_rfl
theorem Agl : Tryd.f20.results.toList.mapM (Kl Tryd.prog) = some [(.t 0)]:=by kernel_rfl
def Ug (a : Unit) : List D:=[]
def Uf (ds : List D) : Unit:=()
theorem Yr (a : Unit) : Uf (Ug a) = a:=by simp [Uf,Ug]
def YV (b : Bool) : D:=.bool b
def YU (_b : Bool) : List D:=[]
noncomputable def VJ : Dw.Spec:=JZ [] .ground Ug Uf (fun a=>QG) YV YU
set_option maxHeartbeats 4000000 in
theorem AaX : JX Tryd.prog 20 VJ:=by
 refine Kh (Kd (l:=[(22,Mf)]) (by simp [RJ])) Tryd.func20 (by decide) Agk Agl (np:=0) (by decide) Yr (fun _=>r) (fun _=>r) (by decide)<|?_
 intro _
 show TrE (specs [(22,Mf)]) AdH (Km [] .ground [(.t 0)] YV YU) ⟨[],[],262144⟩ (QG)
 refine Kf<|?_
 unfold AdH QG
 refine sQ<|rG<|aS r r<|nI<|xS<|sQ<|rG<|bL (cs:=[.int .i64 8,.int .i64 8]) (ps:=[(0,1,.int .i64 8),(1,1,.int .i64 8)]) r r r r<|bS ([(Ko.mk 8 8)] : List Ko) JQ r r r (by simp) r r r<|bL (cs:=[.int .i64 16,.int .i64 0,.int .i64 0,.int .i64 0,.int .u64 0]) (ps:=[(0,1,.int .i64 16)]) r r r r<|bL (cs:=[.int .i64 15,.int .i64 0,.int .i64 0,.int .i64 0,.int .u64 0]) (ps:=[(0,1,.int .i64 15)]) r r r r<|bL (cs:=[.int .i64 23,.int .i64 0,.int .i64 0,.int .i64 0,.int .u64 0]) (ps:=[(0,1,.int .i64 23)]) r r r r<|bS ([(JK.mk 16 0 0 0 0),(JK.mk 15 0 0 0 0),(JK.mk 23 0 0 0 0)] : List JK) JM r r r (by simp) r r r<|bL (cs:=[.int .i64 0,.osl 3 _ 0 (([(Ko.mk 8 8)] : List Ko).length),.osl 7 _ 0 (([(JK.mk 16 0 0 0 0),(JK.mk 15 0 0 0 0),(JK.mk 23 0 0 0 0)] : List JK).length)]) (ps:=[(1,1,.osl 3 _ 0 (([(Ko.mk 8 8)] : List Ko).length)),(2,1,.osl 7 _ 0 (([(JK.mk 16 0 0 0 0),(JK.mk 15 0 0 0 0),(JK.mk 23 0 0 0 0)] : List JK).length))]) r r r r<|nW r<|sV (z':=.agg [.int .i64 0,.osl 3 _ 0 (([(Ko.mk 8 8)] : List Ko).length),.osl 7 _ 0 (([(JK.mk 16 0 0 0 0),(JK.mk 15 0 0 0 0),(JK.mk 23 0 0 0 0)] : List JK).length)]) r r r r r r r r r<|nI<|xS<|sQ<|rG<|lO (v:=.agg [.int .i64 0,.osl 3 _ 0 (([(Ko.mk 8 8)] : List Ko).length),.osl 7 _ 0 (([(JK.mk 16 0 0 0 0),(JK.mk 15 0 0 0 0),(JK.mk 23 0 0 0 0)] : List JK).length)]) (z:=.agg [.int .i64 0,.osl 3 _ 0 (([(Ko.mk 8 8)] : List Ko).length),.osl 7 _ 0 (([(JK.mk 16 0 0 0 0),(JK.mk 15 0 0 0 0),(JK.mk 23 0 0 0 0)] : List JK).length)]) r r r r r r<|bS ([0] : List Int) Ed r r r (by simp) r r r<|bS (([] : List Int) : List Int) Ed r r r (by simp) r r r<|bS (([] : List Int) : List Int) Ed r r r (by simp) r r r<|bS ([([0] : List Int),([] : List Int),([] : List Int)] : List (List Int)) (eL Ed) r r r (by simp) r (by simp [Cb,eL]) r<|bL (cs:=[.osl 13 _ 0 (([([0] : List Int),([] : List Int),([] : List Int)] : List (List Int)).length)]) (ps:=[(0,1,.osl 13 _ 0 (([([0] : List Int),([] : List Int),([] : List Int)] : List (List Int)).length))]) r r r r<|bD fun r1 hr1=>cG ((JN.mk 0 ([(Ko.mk 8 8)] : List Ko) ([(JK.mk 16 0 0 0 0),(JK.mk 15 0 0 0 0),(JK.mk 23 0 0 0 0)] : List JK)),(JP.mk ([([0] : List Int),([] : List Int),([] : List Int)] : List (List Int)))) r r r NF r r (by simp) (by first | rfl | (simp only [Kn,Ks]; rfl) | simp [Nk,Ku,KF]) hr1 r<|bN (v:=.bool (r1 == 0)) r r r r r<|mV r r<|sP 17 (b:=(r1 == 0)) r ?_ ?_
 ·refine lO (v:=.agg [.int .i64 0,.osl 3 _ 0 (([(Ko.mk 8 8)] : List Ko).length),.osl 7 _ 0 (([(JK.mk 16 0 0 0 0),(JK.mk 15 0 0 0 0),(JK.mk 23 0 0 0 0)] : List JK).length)]) (z:=.agg [.int .i64 0,.osl 3 _ 0 (([(Ko.mk 8 8)] : List Ko).length),.osl 7 _ 0 (([(JK.mk 16 0 0 0 0),(JK.mk 15 0 0 0 0),(JK.mk 23 0 0 0 0)] : List JK).length)]) r r r r r r<|bS (([] : List Int) : List Int) Ed r r r (by simp) r r r<|bS (([] : List Int) : List Int) Ed r r r (by simp) r r r<|bS (([] : List Int) : List Int) Ed r r r (by simp) r r r<|bS ([([] : List Int),([] : List Int),([] : List Int)] : List (List Int)) (eL Ed) r r r (by simp) r (by simp [Cb,eL]) r<|bL (cs:=[.osl 22 _ 0 (([([] : List Int),([] : List Int),([] : List Int)] : List (List Int)).length)]) (ps:=[(0,1,.osl 22 _ 0 (([([] : List Int),([] : List Int),([] : List Int)] : List (List Int)).length))]) r r r r<|bD fun r2 hr2=>cG ((JN.mk 0 ([(Ko.mk 8 8)] : List Ko) ([(JK.mk 16 0 0 0 0),(JK.mk 15 0 0 0 0),(JK.mk 23 0 0 0 0)] : List JK)),(JP.mk ([([] : List Int),([] : List Int),([] : List Int)] : List (List Int)))) r r r NF r r (by simp) (by first | rfl | (simp only [Kn,Ks]; rfl) | simp [Nk,Ku,KF]) hr2 r<|bN (v:=.bool (r2 == 11)) r r r r r<|pT r r r r<|aS r r<|nI<|xS<|rT<|JV (b:=(r2 == 11)) r ?_ r r ?_ r
  all_goals first|(simp;done)|(simp;omega)|rfl|(simp [JR,JO];done)
 ·refine oF r<|oF r<|oF r<|oF r<|oF r<|oF r<|oF r<|oF r<|pF r r r r<|aS r r<|nI<|xS<|rT<|JV (b:=false) r ?_ r r ?_ r
  all_goals first|(simp;done)|(simp;omega)|rfl|(simp [JR,JO];done)

def AdX : Kb:=(.seq (.reg [P 4 (.asg (.c .top) none)] false) (.seq (.reg [M 5 0,M 6 0,P 7 (.len false (T 6)),M 8 1,P 9 (.min [(T 7),(T 8)]),P 10 (.slc 1 (T 5) none (some (T 9))),⟨(some 11),(.bld [.nils,(.int .i64 0)] [⟨0,⟨1,(T 10)⟩⟩]),none,[]⟩,P 12 (.box (T 11) 2 100),P 4 (.asg (T 12) none)] false) .ret))
theorem AgQ : (Tryd.f52.body.bind (Ke Tryd.prog Tryd.f52.ntmps)) = some AdX:=by kernel_rfl
theorem AgR : Tryd.f52.results.toList.mapM (Kl Tryd.prog) = some [(.t 4)]:=by kernel_rfl
def Xj (a : (List Int) × Int) : List D:=[.sl (a.1.map eU8),.int .i64 a.2]
def Xi (ds : List D) : (List Int) × Int:=((uL uI) (ds.getD 0 .top),uI (ds.getD 1 .top))
theorem Aam (a : (List Int) × Int) : Xi (Xj a) = a:=by simp [Xi,Xj,uI,Lr (u:=uI) (en:=eU8) (fun _=>rfl)]
def AaJ (b : JJ) : D:=Kp b
def AaI (_b : JJ) : List D:=[]
noncomputable def YM : Dw.Spec:=JZ [] (.ptr 2 100) Xj Xi (fun a=>UN a.1 a.2) AaJ AaI
set_option maxHeartbeats 4000000 in
theorem Acm : JX Tryd.prog 52 YM:=by
 refine Kh (Ls) Tryd.func52 (by decide) AgQ AgR (np:=2) (by decide) Aam (fun _=>r) (fun _=>r) (by decide)<|?_
 rintro ⟨list1,limit2⟩
 show TrE (specs []) AdX (Km [] (.ptr 2 100) [(.t 4)] AaJ AaI) ⟨[(0,.sl (list1.map eU8)),(1,.int .i64 limit2)],[],262144⟩ (UN list1 limit2)
 refine Kf<|?_
 unfold AdX UN
 refine sQ<|rG<|aS r r<|nI<|xS<|sQ<|rG<|mV r r<|mV r r<|lS r r<|mV r r<|AfU r r r<|cK fun hq=>Abv (l:=list1) (en:=eU8) r r r (fun _=>r) r hq<|bL (cs:=[.sl ((list1.take (Uj (list1.length : Int) limit2).toNat).map eU8),.int .i64 0]) (ps:=[(0,1,.sl ((list1.take (Uj (list1.length : Int) limit2).toNat).map eU8))]) r r r r<|bX r r r r r<|aS r r<|nI<|xS<|rT<|ZZ (b:=(JJ.mk (list1.take (Uj (list1.length : Int) limit2).toNat) 0)) r ?_ r ?_ r r ?_ r
 all_goals first|(simp;done)|(simp;omega)|rfl|(simp [JR,JO];done)

def Aeu : Kb:=(.seq (.reg [P 2 (.asg (.c (.bool false)) none)] false) (.seq (.reg [M 3 0,⟨(some 4),(.nilck (T 3)),none,[0]⟩,⟨(some 5),(.fldA 1 (T 4)),none,[1]⟩,⟨(some 6),(.ld 1 false (T 5)),none,[2]⟩,M 7 0,⟨(some 8),(.nilck (T 7)),none,[4]⟩,⟨(some 9),(.fldA 0 (T 8)),none,[5]⟩,⟨(some 10),(.ld 1 false (T 9)),none,[6]⟩,⟨(some 11),(.len false (T 10)),none,[7]⟩,⟨(some 12),(.bin .lss (T 6) (T 11)),none,[3,8]⟩,⟨(some 2),(.asg (T 12) none),none,[9,0,1,2,3,4,5,6,7,8,9]⟩] true) .ret))
theorem AhK : (Tryd.f87.body.bind (Ke Tryd.prog Tryd.f87.ntmps)) = some Aeu:=by kernel_rfl
theorem AhL : Tryd.f87.results.toList.mapM (Kl Tryd.prog) = some [(.t 2)]:=by kernel_rfl
def QP (a : JJ) : List D:=[Kp a]
def QO (ds : List D) : JJ:=LG (ds.getD 0 .top)
theorem Vq (a : JJ) : QO (QP a) = a:=by simp [QO,QP]
def Wa (b : Bool × JJ) : D:=.bool b.1
def VZ (b : Bool × JJ) : List D:=[Kp b.2]
noncomputable def SB : Dw.Spec:=JZ [(0,(2,100))] .val QP QO (fun a=>Pd a) Wa VZ
set_option maxHeartbeats 4000000 in
theorem Zv : JX Tryd.prog 87 SB:=by
 refine Kh (Ls) Tryd.func87 (by decide) AhK AhL (np:=1) (by decide) Vq (fun _=>r) (fun _=>r) (by decide)<|?_
 intro c1
 show TrE (specs []) Aeu (Km [(0,(2,100))] .val [(.t 2)] Wa VZ) ⟨[(0,.optr 8192 0 0 0)],[(8192,some (0,⟨false,true,2,100,[.agg [.sl (c1.list.map eU8),.int .i64 c1.at_]]⟩))],262144⟩ (Pd c1)
 refine Kf<|?_
 unfold Aeu Pd
 refine sQ<|rG<|aS r r<|nI<|xS<|sQ<|rG<|mV r r<|nC r r r<|fA r r<|lO (v:=.int .i64 c1.at_) (z:=.agg [.sl (c1.list.map eU8),.int .i64 c1.at_]) r r r r r r<|mV r r<|nC r r r<|fA r r<|lO (v:=.sl (c1.list.map eU8)) (z:=.agg [.sl (c1.list.map eU8),.int .i64 c1.at_]) r r r r r r<|lS r r<|bN (v:=.bool (decide (c1.at_ < (c1.list.length : Int)))) r r r r r<|aS r r<|Ka (by kernel_rfl)<|xS<|rT<|KC (b:=((decide (c1.at_ < (c1.list.length : Int))),c1)) r ?_ r r ?_ r
 all_goals first|(simp;done)|(simp;omega)|rfl|(simp [JR,JO];done)

def AdZ : Kb:=(.seq (.reg [P 4 (.asg (C 0) none)] false) (.seq (.seq (.reg [M 6 0,P 7 (.call (.c (.clo 87 [])) [(T 6)]),P 8 (.un .not (T 7)),M 9 8,⟨(some 10),(.mv (T 1)),(some ⟨9,false⟩),[]⟩,⟨(some 11),(.bin .lss (T 10) (C 1)),(some ⟨9,false⟩),[]⟩,P 12 (.pick (T 9) (.c (.bool true)) (T 11))] false) (.cond (T 12) (.seq (.reg [P 4 (.asg (C 0) none)] false) .ret) .skip)) (.seq (.reg [M 13 0,⟨(some 14),(.nilck (T 13)),none,[0]⟩,⟨(some 15),(.fldA 0 (T 14)),none,[1]⟩,⟨(some 16),(.ld 1 false (T 15)),none,[2]⟩,M 17 0,⟨(some 18),(.nilck (T 17)),none,[4]⟩,⟨(some 19),(.fldA 1 (T 18)),none,[5]⟩,⟨(some 20),(.ld 1 false (T 19)),none,[6]⟩,⟨(some 21),(.ixA 1 (T 16) (T 20)),none,[3,7]⟩,⟨(some 22),(.ld 1 false (T 21)),none,[8]⟩,⟨(some 23),(.cvt .i64 (T 22)),none,[9]⟩,⟨(some 5),(.asg (T 23) none),none,[10,0,1,2,3,4,5,6,7,8,9,10]⟩] true) (.seq (.reg [M 24 0,P 25 (.nilck (T 24)),P 26 (.fldA 1 (T 25)),P 27 (.ld 1 false (T 26)),P 28 (.bin .add (T 27) (C 1)),P 29 (.nilck (T 24)),P 30 (.fldA 1 (T 29)),⟨none,(.st 1 (T 30) (T 28)),none,[]⟩] false) (.seq (.reg [M 31 5,M 32 1,P 33 (.bin .mul (T 31) (T 32)),P 34 (.bin .quo (T 33) (C 256)),P 4 (.asg (T 34) none)] false) .ret)))))
theorem AgU : (Tryd.f54.body.bind (Ke Tryd.prog Tryd.f54.ntmps)) = some AdZ:=by kernel_rfl
theorem AgV : Tryd.f54.results.toList.mapM (Kl Tryd.prog) = some [(.t 4)]:=by kernel_rfl
def QU (a : JJ × Int) : List D:=[Kp a.1,.int .i64 a.2]
def QT (ds : List D) : JJ × Int:=(LG (ds.getD 0 .top),uI (ds.getD 1 .top))
theorem JS (a : JJ × Int) : QT (QU a) = a:=by simp [QT,QU,uI]
def Wd (b : Int × JJ) : D:=.int .i64 b.1
def Wc (b : Int × JJ) : List D:=[Kp b.2]
noncomputable def Ki : Dw.Spec:=JZ [(0,(2,100))] .val QU QT (fun a=>JU a.1 a.2) Wd Wc
set_option maxHeartbeats 4000000 in
theorem KT : JX Tryd.prog 54 Ki:=by
 refine Kh (Kd (l:=[(87,SB)]) (by simp [Zv])) Tryd.func54 (by decide) AgU AgV (np:=2) (by decide) JS (fun _=>r) (fun _=>r) (by decide)<|?_
 rintro ⟨c1,n2⟩
 show TrE (specs [(87,SB)]) AdZ (Km [(0,(2,100))] .val [(.t 4)] Wd Wc) ⟨[(0,.optr 8192 0 0 0),(1,.int .i64 n2)],[(8192,some (0,⟨false,true,2,100,[.agg [.sl (c1.list.map eU8),.int .i64 c1.at_]]⟩))],262144⟩ (JU c1 n2)
 refine Kf<|?_
 unfold AdZ JU
 refine sQ<|rG<|aS r r<|nI<|xS<|sC (E:=fun (s : (List Int) × Int) (g : Unit)=>[(0,.optr 8192 0 0 0),(1,.int .i64 n2)]) (O:=fun s g=>[(8192,some (0,⟨false,true,2,100,[.agg [.sl (s.1.map eU8),.int .i64 s.2]]⟩))]) (j:=fun s=>Ph n2 s.1 s.2) ?_ ?_
 ·refine sQ<|rG<|mV r r<|bD fun r5 hr5=>cV c1 r r r Vq r r (by simp) r hr5<|uN (w:=.bool (!r5.1)) r r r r trivial<|mV r r<|sP 9 (b:=(!r5.1)) r ?_ ?_
  ·refine oF r<|oF r<|pT r r r r<|nI<|xS<|Ly r<|sQ<|rG<|aS r r<|nI<|xS<|rT<|zR<|KC (b:=(0,r5.2)) r ?_ r r ?_ r
   all_goals first|(simp;done)|(simp;omega)|rfl|(simp [JR,JO];done)
  ·refine mV r r<|bN (v:=.bool (decide (n2 < 1))) r r r r r<|pF r r r r<|nI<|xS<|cD (c:=(decide (n2 < 1))) r ?_ ?_
   ·refine sQ<|rG<|aS r r<|nI<|xS<|rT<|zR<|KC (b:=(0,r5.2)) r ?_ r r ?_ r
    all_goals first|(simp;done)|(simp;omega)|rfl|(simp [JR,JO];done)
   ·exact sK<|xC (s:=(r5.2.list,r5.2.at_)) () ((hE ⟨rfl,r,trivial⟩ ⟨rfl,trivial⟩))
 ·rintro ⟨c3,c4⟩ ⟨⟩ nn
  try dsimp only
  unfold Ph
  refine sQ<|rG<|mV r r<|nC r r r<|fA r r<|lO (v:=.sl (c3.map eU8)) (z:=.agg [.sl (c3.map eU8),.int .i64 c4]) r r r r r r<|mV r r<|nC r r r<|fA r r<|lO (v:=.int .i64 c4) (z:=.agg [.sl (c3.map eU8),.int .i64 c4]) r r r r r r<|bD fun x_x6 hx_x6=>iS (en:=eU8) r r r hx_x6 r<|lF (v:=.int .u8 x_x6) r r r r<|cT r r<|aS r r<|Ka (by kernel_rfl)<|xS<|sQ<|rG<|mV r r<|nC r r r<|fA r r<|lO (v:=.int .i64 c4) (z:=.agg [.sl (c3.map eU8),.int .i64 c4]) r r r r r r<|bN (v:=.int .i64 (IntKind.i64.wrap (c4 + 1))) r r r r r<|nC r r r<|fA r r<|Tc (i:=0) (es':=[.agg [.sl (c3.map eU8),.int .i64 (IntKind.i64.wrap (c4 + 1))]]) r r r r r r r (by first | trivial | (simp; done) | (simp; omega)) r r r r r r<|nI<|xS<|sQ<|rG<|mV r r<|mV r r<|bN (v:=.int .i64 (IntKind.i64.wrap ((IntKind.i64.wrap (x_x6)) * n2))) r r r r r<|bN (v:=.int .i64 (IntKind.i64.wrap ((IntKind.i64.wrap ((IntKind.i64.wrap (x_x6)) * n2)).tdiv 256))) r r r r ⟨rfl,(by decide)⟩<|aS r r<|nI<|xS<|rT<|KC (b:=(IntKind.i64.wrap ((IntKind.i64.wrap ((IntKind.i64.wrap (x_x6)) * n2)).tdiv 256),(JJ.mk c3 (IntKind.i64.wrap (c4 + 1))))) r ?_ r r ?_ r
  all_goals first|(simp;done)|(simp;omega)|rfl|(simp [JR,JO];done)

def AcM : Kb:=(.seq (.reg [P 2 (.new (.agg [(.int .i64 0),(.int .i64 0)]) 2 63)] false) (.seq (.reg [⟨(some 3),(.bldS 1 3 (.int .i64 0) 7 [⟨0,(C 8)⟩,⟨1,(C 4)⟩,⟨2,(C 8)⟩,⟨3,(C 1)⟩,⟨4,(C 2)⟩,⟨5,(C 16)⟩,⟨6,(C 8)⟩]),none,[]⟩,M 4 0,⟨(some 5),(.call (.c (.clo 54 [])) [(T 4),(C 7)]),none,[1]⟩,⟨(some 6),(.ixA 1 (T 3) (T 5)),none,[0,2]⟩,⟨(some 7),(.ld 1 false (T 6)),none,[3]⟩,⟨(some 8),(.bldS 1 3 (.int .i64 0) 8 [⟨0,(C 8)⟩,⟨1,(C 4)⟩,⟨2,(C 1)⟩,⟨3,(C 8)⟩,⟨4,(C 16)⟩,⟨5,(C 2)⟩,⟨6,(C 32)⟩,⟨7,(C 64)⟩]),none,[]⟩,M 9 0,⟨(some 10),(.call (.c (.clo 54 [])) [(T 9),(C 8)]),none,[6,2]⟩,⟨(some 11),(.ixA 1 (T 8) (T 10)),none,[5,7]⟩,⟨(some 12),(.ld 1 false (T 11)),none,[8]⟩,⟨(some 13),(.bld [(.int .i64 0),(.int .i64 0)] [⟨0,⟨1,(T 7)⟩⟩,⟨1,⟨1,(T 12)⟩⟩]),none,[4,9]⟩,⟨none,(.st 2 (T 2) (T 13)),none,[10,7,0,1,2,3,4,5,6,7,8,9,10]⟩] true) .ret))
theorem AfE : (Tryd.f121.body.bind (Ke Tryd.prog Tryd.f121.ntmps)) = some AcM:=by kernel_rfl
theorem AfF : Tryd.f121.results.toList.mapM (Kl Tryd.prog) = some [(.c 2 2 true)]:=by kernel_rfl
def QW (a : JJ) : List D:=[Kp a]
def QV (ds : List D) : JJ:=LG (ds.getD 0 .top)
theorem Vs (a : JJ) : QV (QW a) = a:=by simp [QV,QW]
def Wf (b : Ko × JJ) : D:=JQ b.1
def We (b : Ko × JJ) : List D:=[Kp b.2]
noncomputable def SD : Dw.Spec:=JZ [(0,(2,100))] .val QW QV (fun a=>NR a) Wf We
set_option maxHeartbeats 4000000 in
theorem Zx : JX Tryd.prog 121 SD:=by
 refine Kh (Kd (l:=[(54,Ki)]) (by simp [KT])) Tryd.func121 (by decide) AfE AfF (np:=1) (by decide) Vs (fun _=>r) (fun _=>r) (by decide)<|?_
 intro c1
 show TrE (specs [(54,Ki)]) AcM (Km [(0,(2,100))] .val [(.c 2 2 true)] Wf We) ⟨[(0,.optr 8192 0 0 0)],[(8192,some (0,⟨false,true,2,100,[.agg [.sl (c1.list.map eU8),.int .i64 c1.at_]]⟩))],262144⟩ (NR c1)
 refine Kf<|?_
 unfold AcM NR
 refine sQ<|rG<|nW r<|nI<|xS<|sQ<|rG<|bS ([8,4,8,1,2,16,8] : List Int) Ed r r r (by simp) r r r<|mV r r<|bD fun r2 hr2=>cV (c1,7) r r r JS r r (by simp) r hr2<|cK fun hq=>iO (l:=([8,4,8,1,2,16,8] : List Int)) (en:=Ed) r r r r r hq<|bD fun x_e3 hx_e3=>lO (v:=.int .i64 x_e3) (z:=Ed x_e3) r r r (Md hx_e3) r r<|bS ([8,4,1,8,16,2,32,64] : List Int) Ed r r r (by simp) r r r<|mV r r<|bD fun r4 hr4=>cV (r2.2,8) r r r JS r r (by simp) r hr4<|cK fun hq=>iO (l:=([8,4,1,8,16,2,32,64] : List Int)) (en:=Ed) r r r r r hq<|bD fun x_e5 hx_e5=>lO (v:=.int .i64 x_e5) (z:=Ed x_e5) r r r (Md hx_e5) r r<|bL (cs:=[.int .i64 x_e3,.int .i64 x_e5]) (ps:=[(0,1,.int .i64 x_e3),(1,1,.int .i64 x_e5)]) r r r r<|sV (z':=.agg [.int .i64 x_e3,.int .i64 x_e5]) r r r r r r r r r<|Ka (by kernel_rfl)<|xS<|rT<|KC (b:=((Ko.mk x_e3 x_e5),r4.2)) r ?_ r r ?_ r
 all_goals first|(simp;done)|(simp;omega)|rfl|(simp [JR,JO];done)

def AcD : Kb:=(.seq (.reg [⟨(some 4),(.asg (.c .nils) (some ⟨2,63⟩)),none,[]⟩] false) (.seq (.reg [⟨(some 5),(.asg (.c .nils) (some ⟨2,63⟩)),none,[]⟩] false) (.seq (.seq (.reg [M 7 0,M 8 1,P 9 (.bin .add (T 8) (C 1)),P 10 (.call (.c (.clo 54 [])) [(T 7),(T 9)]),P 6 (.asg (T 10) none)] false) (.block 0 (.loop (.seq (.seq (.reg [M 11 6,P 12 (.bin .gtr (T 11) (C 0))] false) (.cond (T 12) .skip (.exit 0))) (.seq (.block 1 (.reg [M 15 5,M 16 0,P 17 (.call (.c (.clo 121 [])) [(T 16)]),⟨(some 18),(.bldS 2 63 (.agg [(.int .i64 0),(.int .i64 0)]) 1 [⟨0,(T 17)⟩]),none,[]⟩,P 19 (.app 2 63 16 (T 15) (T 18)),⟨(some 5),(.asg (T 19) (some ⟨2,63⟩)),none,[]⟩] false)) (.reg [M 13 6,P 14 (.bin .sub (T 13) (C 1)),P 6 (.asg (T 14) none)] false)))))) (.seq (.reg [M 20 5,⟨(some 4),(.asg (T 20) (some ⟨2,63⟩)),none,[]⟩] false) .ret))))
theorem Afm : (Tryd.f109.body.bind (Ke Tryd.prog Tryd.f109.ntmps)) = some AcD:=by kernel_rfl
theorem Afn : Tryd.f109.results.toList.mapM (Kl Tryd.prog) = some [(.t 4)]:=by kernel_rfl
def Qp (a : JJ × Int) : List D:=[Kp a.1,.int .i64 a.2]
def Qo (ds : List D) : JJ × Int:=(LG (ds.getD 0 .top),uI (ds.getD 1 .top))
theorem UG (a : JJ × Int) : Qo (Qp a) = a:=by simp [Qo,Qp,uI]
def Vu (b : (List Ko) × JJ) : D:=.sl (b.1.map JQ)
def Vt (b : (List Ko) × JJ) : List D:=[Kp b.2]
noncomputable def RB : Dw.Spec:=JZ [(0,(2,100))] (.row 2 63) Qp Qo (fun a=>Nr a.1 a.2) Vu Vt
set_option maxHeartbeats 4000000 in
theorem Zt : JX Tryd.prog 109 RB:=by
 refine Kh (Kd (l:=[(54,Ki),(121,SD)]) (by simp [KT,Zx])) Tryd.func109 (by decide) Afm Afn (np:=2) (by decide) UG (fun _=>r) (fun _=>r) (by decide)<|?_
 rintro ⟨c1,most2⟩
 show TrE (specs [(54,Ki),(121,SD)]) AcD (Km [(0,(2,100))] (.row 2 63) [(.t 4)] Vu Vt) ⟨[(0,.optr 8192 0 0 0),(1,.int .i64 most2)],[(8192,some (0,⟨false,true,2,100,[.agg [.sl (c1.list.map eU8),.int .i64 c1.at_]]⟩))],262144⟩ (Nr c1 most2)
 refine Kf<|?_
 unfold AcD Nr
 refine sQ<|rG<|aN (α:=Ko) r JQ r<|nI<|xS<|sQ<|rG<|aN (α:=Ko) r JQ r<|nI<|xS<|sQ<|sQ<|rG<|mV r r<|mV r r<|bN (v:=.int .i64 (IntKind.i64.wrap (most2 + 1))) r r r r r<|bD fun r3 hr3=>cV (c1,IntKind.i64.wrap (most2 + 1)) r r r JS r r (by simp) r hr3<|aS r r<|nI<|xS<|bK<|lP (E:=fun (s : (List Int) × Int × (List Ko) × Int) (g : Nat)=>[(0,.optr 8192 0 0 0),(5,.osl 5 g 0 s.2.2.1.length),(6,.int .i64 s.2.2.2)]) (O:=fun s g=>[(5,some (g,⟨false,false,2,63,s.2.2.1.map JQ⟩)),(8192,some (0,⟨false,true,2,100,[.agg [.sl (s.1.map eU8),.int .i64 s.2.1]]⟩))]) (body:=fun s=>OG s.1 s.2.1 s.2.2.1 s.2.2.2) (s:=(r3.2.list,r3.2.at_,([] : List Ko),r3.1)) _ ((hE ⟨rfl,r,r,trivial⟩ ⟨rfl,r,trivial⟩))<|?_
 rintro ⟨c4,c5,l6,n7⟩ v5x1 nn
 try dsimp only
 unfold OG
 refine sQ<|sQ<|rG<|mV r r<|bN (v:=.bool (decide (n7 > 0))) r r r r r<|nI<|xS<|cD (c:=(decide (n7 > 0))) r ?_ ?_
 ·exact sK<|xS<|sQ<|bK<|rG<|mV r r<|mV r r<|bD fun r8 hr8=>cV (JJ.mk c4 c5) r r r Vs r r (by simp) r hr8<|bS ([r8.1] : List Ko) JQ r r r (by simp) r r r<|cK fun hq=>aP (l6) (([r8.1] : List Ko)) JQ r r r r r r r (by simp) (Kq _ _ r) r r (by simp) (JT _ _ r) (fun _=>r) r hq<|aO (l:=l6 ++ ([r8.1] : List Ko)) (en:=JQ) r r r r<|nI<|bM<|xS<|rG<|mV r r<|bN (v:=.int .i64 (IntKind.i64.wrap (n7 - 1))) r r r r r<|aS r r<|nI<|xL (s:=(r8.2.list,r8.2.at_,l6 ++ ([r8.1] : List Ko),IntKind.i64.wrap (n7 - 1))) _ ((hE ⟨rfl,r,r,trivial⟩ ⟨rfl,r,trivial⟩))
 ·refine eT<|xE<|lE<|bH<|xS<|sQ<|rG<|mV r r<|aO (l:=l6) (en:=JQ) r r r r<|nI<|xS<|rT<|Kr (b:=(l6,(JJ.mk c4 c5))) r ?_ r r ?_ r ?_ (congrArg D.sl (JT _ _ r)) r
  all_goals first|(simp;done)|(simp;omega)|rfl|(simp [JR,JO];done)

def AcN : Kb:=(.seq (.reg [P 4 (.box (T 1) 3 27),P 6 (.asg (C 0) none)] false) (.seq (.reg [⟨(some 7),(.asg (.c .nils) (some ⟨1,3⟩)),none,[]⟩] false) (.seq (.seq (.reg [P 8 (.asg (C 0) none)] false) (.block 0 (.loop (.seq (.seq (.reg [M 9 8,P 10 (.fldA 1 (T 4)),P 11 (.ld 1 false (T 10)),P 12 (.len false (T 11)),P 13 (.bin .lss (T 9) (T 12))] false) (.cond (T 13) .skip (.exit 0))) (.seq (.block 1 (.seq (.reg [P 16 (.fldA 1 (T 4)),⟨(some 17),(.ld 1 false (T 16)),none,[0]⟩,M 18 8,⟨(some 19),(.ixA 2 (T 17) (T 18)),none,[1,2]⟩,⟨(some 20),(.fldA 0 (T 19)),none,[3]⟩,⟨(some 21),(.ld 1 false (T 20)),none,[4]⟩,P 22 (.fldA 1 (T 4)),⟨(some 23),(.ld 1 false (T 22)),none,[6]⟩,M 24 2,⟨(some 25),(.ixA 2 (T 23) (T 24)),none,[7,8]⟩,⟨(some 26),(.fldA 0 (T 25)),none,[9]⟩,⟨(some 27),(.ld 1 false (T 26)),none,[10]⟩,⟨(some 28),(.bin .eql (T 21) (T 27)),none,[5,11]⟩] true) (.cond (T 28) (.reg [M 29 7,M 30 8,⟨(some 31),(.bldS 1 3 (.int .i64 0) 1 [⟨0,(T 30)⟩]),none,[]⟩,P 32 (.app 1 3 8 (T 29) (T 31)),⟨(some 7),(.asg (T 32) (some ⟨1,3⟩)),none,[]⟩] false) .skip))) (.reg [M 14 8,P 15 (.bin .add (T 14) (C 1)),P 8 (.asg (T 15) none)] false)))))) (.seq (.reg [M 33 7,M 34 0,M 35 7,P 36 (.len false (T 35)),P 37 (.call (.c (.clo 54 [])) [(T 34),(T 36)]),P 38 (.ixA 1 (T 33) (T 37)),P 39 (.ld 1 false (T 38)),P 6 (.asg (T 39) none)] false) .ret))))
theorem AfG : (Tryd.f122.body.bind (Ke Tryd.prog Tryd.f122.ntmps)) = some AcN:=by kernel_rfl
theorem AfH : Tryd.f122.results.toList.mapM (Kl Tryd.prog) = some [(.t 6)]:=by kernel_rfl
def Rb (a : JJ × JN × Int) : List D:=[Kp a.1,Ku a.2.1,.int .i64 a.2.2]
def Ra (ds : List D) : JJ × JN × Int:=(LG (ds.getD 0 .top),Mi (ds.getD 1 .top),uI (ds.getD 2 .top))
theorem Vx (a : JJ × JN × Int) : Ra (Rb a) = a:=by simp [Ra,Rb,uI]
def Wm (b : Int × JJ) : D:=.int .i64 b.1
def Wl (b : Int × JJ) : List D:=[Kp b.2]
noncomputable def SF : Dw.Spec:=JZ [(0,(2,100))] .val Rb Ra (fun a=>NT a.1 a.2.1 a.2.2) Wm Wl
set_option maxHeartbeats 4000000 in
theorem Zz : JX Tryd.prog 122 SF:=by
 refine Kh (Kd (l:=[(54,Ki)]) (by simp [KT])) Tryd.func122 (by decide) AfG AfH (np:=3) (by decide) Vx (fun _=>r) (fun _=>r) (by decide)<|?_
 rintro ⟨c1,f2,s3⟩
 show TrE (specs [(54,Ki)]) AcN (Km [(0,(2,100))] .val [(.t 6)] Wm Wl) ⟨[(0,.optr 8192 0 0 0),(1,.agg [.int .i64 f2.Params,.sl (f2.Slots.map JQ),.sl (f2.Code.map JM)]),(2,.int .i64 s3)],[(8192,some (0,⟨false,true,2,100,[.agg [.sl (c1.list.map eU8),.int .i64 c1.at_]]⟩))],262144⟩ (NT c1 f2 s3)
 refine Kf<|?_
 unfold AcN NT
 refine sQ<|rG<|bX r r r r r<|aS r r<|nI<|xS<|sQ<|rG<|aN (α:=Int) r Ed r<|nI<|xS<|sQ<|sQ<|rG<|aS r r<|nI<|xS<|bK<|lP (E:=fun (s : (List Int) × Int) (g : Nat × Nat)=>[(0,.optr 8192 0 0 0),(2,.int .i64 s3),(4,.optr 4 g.1 0 0),(7,.osl 7 g.2 0 s.1.length),(8,.int .i64 s.2)]) (O:=fun s g=>[(4,some (g.1,⟨false,true,3,27,[.agg [.int .i64 f2.Params,.sl (f2.Slots.map JQ),.sl (f2.Code.map JM)]]⟩)),(7,some (g.2,⟨false,false,1,3,s.1.map Ed⟩)),(8192,some (0,⟨false,true,2,100,[.agg [.sl (c1.list.map eU8),.int .i64 c1.at_]]⟩))]) (body:=fun s=>Pk f2 s3 c1 s.1 s.2) (s:=(([] : List Int),0)) (_,_) ((hE ⟨rfl,r,r,r,r,trivial⟩ ⟨rfl,r,r,trivial⟩))<|?_
 rintro ⟨l4,k5⟩ ⟨v4x1,v7x1⟩ nn
 try dsimp only
 unfold Pk
 refine sQ<|sQ<|rG<|mV r r<|fA r r<|lO (v:=.sl (f2.Slots.map JQ)) (z:=.agg [.int .i64 f2.Params,.sl (f2.Slots.map JQ),.sl (f2.Code.map JM)]) r r r r r r<|lS r r<|bN (v:=.bool (decide (k5 < (f2.Slots.length : Int)))) r r r r r<|nI<|xS<|cD (c:=(decide (k5 < (f2.Slots.length : Int)))) r ?_ ?_
 ·refine sK<|xS<|sQ<|bK<|sQ<|rG<|fA r r<|lO (v:=.sl (f2.Slots.map JQ)) (z:=.agg [.int .i64 f2.Params,.sl (f2.Slots.map JQ),.sl (f2.Code.map JM)]) r r r r r r<|mV r r<|bD fun x_x6 hx_x6=>iS (en:=JQ) r r r hx_x6 r<|fF r r<|lF (v:=.int .i64 x_x6.Size) r r r r<|fA r r<|lO (v:=.sl (f2.Slots.map JQ)) (z:=.agg [.int .i64 f2.Params,.sl (f2.Slots.map JQ),.sl (f2.Code.map JM)]) r r r r r r<|mV r r<|bD fun x_x7 hx_x7=>iS (en:=JQ) r r r hx_x7 r<|fF r r<|lF (v:=.int .i64 x_x7.Size) r r r r<|bN (v:=.bool (x_x6.Size == x_x7.Size)) r r r r r<|Ka (by kernel_rfl)<|xS<|cD (c:=(x_x6.Size == x_x7.Size)) r ?_ ?_
  ·exact rG<|mV r r<|mV r r<|bS ([k5] : List Int) Ed r r r (by simp) r r r<|cK fun hq=>aP (l4) (([k5] : List Int)) Ed r r r r r r r (by simp) (Kq _ _ r) r r (by simp) (JT _ _ r) (fun _=>r) r hq<|aO (l:=l4 ++ ([k5] : List Int)) (en:=Ed) r r r r<|nI<|bM<|xS<|rG<|mV r r<|bN (v:=.int .i64 (IntKind.i64.wrap (k5 + 1))) r r r r r<|aS r r<|nI<|xL (s:=(l4 ++ ([k5] : List Int),IntKind.i64.wrap (k5 + 1))) (_,_) ((hE ⟨rfl,r,r,r,r,trivial⟩ ⟨rfl,r,r,trivial⟩))
  ·exact sK<|bM<|xS<|rG<|mV r r<|bN (v:=.int .i64 (IntKind.i64.wrap (k5 + 1))) r r r r r<|aS r r<|nI<|xL (s:=(l4,IntKind.i64.wrap (k5 + 1))) (_,_) ((hE ⟨rfl,r,r,r,r,trivial⟩ ⟨rfl,r,r,trivial⟩))
 ·refine eT<|xE<|lE<|bH<|xS<|sQ<|rG<|mV r r<|mV r r<|mV r r<|lW r r<|bD fun r8 hr8=>cV (c1,(l4.length : Int)) r r r JS r r (by simp) r hr8<|cK fun hq=>iO (l:=l4) (en:=Ed) r r r r r hq<|bD fun l_e9 hl_e9=>lO (v:=.int .i64 l_e9) (z:=Ed l_e9) r r r (Md hl_e9) r r<|aS r r<|nI<|xS<|rT<|KC (b:=(l_e9,r8.2)) r ?_ r r ?_ r
  all_goals first|(simp;done)|(simp;omega)|rfl|(simp [JR,JO];done)

def AcF : Kb:=(.seq (.reg [P 2 (.asg (.c (.int .u64 0)) none)] false) (.seq (.seq (.reg [M 3 0,P 4 (.call (.c (.clo 54 [])) [(T 3),(C 6)])] false) (.block 0 (.seq (.reg [P 6 (.bin .eql (T 4) (C 0)),P 5 (.asg (T 6) none)] false) (.cond (T 5) (.seq (.reg [M 7 0,P 8 (.call (.c (.clo 54 [])) [(T 7),(C 3)]),P 9 (.cvt .u64 (T 8)),P 10 (.bin .sub (.c (.int .u64 18446744073709551615)) (T 9)),P 2 (.asg (T 10) none)] false) .ret) (.seq (.reg [P 12 (.bin .eql (T 4) (C 1)),P 11 (.asg (T 12) none)] false) (.cond (T 11) (.seq (.reg [M 13 0,P 14 (.call (.c (.clo 54 [])) [(T 13),(C 64)]),P 15 (.bin .shl (.c (.int .u64 1)) (T 14)),P 2 (.asg (T 15) none)] false) .ret) (.seq (.reg [P 17 (.bin .eql (T 4) (C 2)),P 16 (.asg (T 17) none)] false) (.cond (T 16) (.seq (.reg [P 2 (.asg (.c (.int .u64 0)) none)] false) .ret) .skip)))))))) (.seq (.reg [M 18 0,P 19 (.call (.c (.clo 54 [])) [(T 18),(C 256)]),P 20 (.cvt .u64 (T 19)),P 2 (.asg (T 20) none)] false) .ret)))
theorem Afq : (Tryd.f111.body.bind (Ke Tryd.prog Tryd.f111.ntmps)) = some AcF:=by kernel_rfl
theorem Afr : Tryd.f111.results.toList.mapM (Kl Tryd.prog) = some [(.t 2)]:=by kernel_rfl
def QY (a : JJ) : List D:=[Kp a]
def QX (ds : List D) : JJ:=LG (ds.getD 0 .top)
theorem RC (a : JJ) : QX (QY a) = a:=by simp [QX,QY]
def Wh (b : Int × JJ) : D:=.int .u64 b.1
def Wg (b : Int × JJ) : List D:=[Kp b.2]
noncomputable def Od : Dw.Spec:=JZ [(0,(2,100))] .val QY QX (fun a=>MP a) Wh Wg
set_option maxHeartbeats 4000000 in
theorem Vv : JX Tryd.prog 111 Od:=by
 refine Kh (Kd (l:=[(54,Ki)]) (by simp [KT])) Tryd.func111 (by decide) Afq Afr (np:=1) (by decide) RC (fun _=>r) (fun _=>r) (by decide)<|?_
 intro c1
 show TrE (specs [(54,Ki)]) AcF (Km [(0,(2,100))] .val [(.t 2)] Wh Wg) ⟨[(0,.optr 8192 0 0 0)],[(8192,some (0,⟨false,true,2,100,[.agg [.sl (c1.list.map eU8),.int .i64 c1.at_]]⟩))],262144⟩ (MP c1)
 refine Kf<|?_
 unfold AcF MP
 refine sQ<|rG<|aS r r<|nI<|xS<|sQ<|sQ<|rG<|mV r r<|bD fun r2 hr2=>cV (c1,6) r r r JS r r (by simp) r hr2<|nI<|xS<|bK<|sQ<|rG<|bN (v:=.bool (r2.1 == 0)) r r r r r<|aS r r<|nI<|xS<|cD (c:=(r2.1 == 0)) r ?_ ?_
 ·refine sQ<|rG<|mV r r<|bD fun r3 hr3=>cV (r2.2,3) r r r JS r r (by simp) r hr3<|cT r r<|bN (v:=.int .u64 (IntKind.u64.wrap (18446744073709551615 - (IntKind.u64.wrap (r3.1))))) r r r r r<|aS r r<|nI<|xS<|rT<|bR<|xR<|KC (b:=(IntKind.u64.wrap (18446744073709551615 - (IntKind.u64.wrap (r3.1))),r3.2)) r ?_ r r ?_ r
  all_goals first|(simp;done)|(simp;omega)|rfl|(simp [JR,JO];done)
 ·refine sQ<|rG<|bN (v:=.bool (r2.1 == 1)) r r r r r<|aS r r<|nI<|xS<|cD (c:=(r2.1 == 1)) r ?_ ?_
  ·refine sQ<|rG<|mV r r<|bD fun r4 hr4=>cV (r2.2,64) r r r JS r r (by simp) r hr4<|cK fun hq=>bN (v:=.int .u64 (IntKind.u64.wrap (1 * 2 ^ (Nat.min r4.1.toNat IntKind.u64.bits)))) r r r r hq<|aS r r<|nI<|xS<|rT<|bR<|xR<|KC (b:=(IntKind.u64.wrap (1 * 2 ^ (Nat.min r4.1.toNat IntKind.u64.bits)),r4.2)) r ?_ r r ?_ r
   all_goals first|(simp;done)|(simp;omega)|rfl|(simp [JR,JO];done)
  ·refine sQ<|rG<|bN (v:=.bool (r2.1 == 2)) r r r r r<|aS r r<|nI<|xS<|cD (c:=(r2.1 == 2)) r ?_ ?_
   ·refine sQ<|rG<|aS r r<|nI<|xS<|rT<|bR<|xR<|KC (b:=(0,r2.2)) r ?_ r r ?_ r
    all_goals first|(simp;done)|(simp;omega)|rfl|(simp [JR,JO];done)
   ·refine sK<|bM<|xS<|sQ<|rG<|mV r r<|bD fun r5 hr5=>cV (r2.2,256) r r r JS r r (by simp) r hr5<|cT r r<|aS r r<|nI<|xS<|rT<|KC (b:=(IntKind.u64.wrap (r5.1),r5.2)) r ?_ r r ?_ r
    all_goals first|(simp;done)|(simp;omega)|rfl|(simp [JR,JO];done)

end Go.Proofs.YtcelninhkmhjkaaDoor
