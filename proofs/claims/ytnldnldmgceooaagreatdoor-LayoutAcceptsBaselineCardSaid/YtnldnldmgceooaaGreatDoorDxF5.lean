/-
  Programs on typed data, and the proofs that the code does what they say; written by a program (dx.py).
-/
import Derived.Test.YtnldnldmgceooaaGreatDoorProg
import Derived.Test.YtnldnldmgceooaaGreatDoorDd
import Derived.KernelRfl
import Derived.Test.YtnldnldmgceooaaGreatDoorSh
import Derived.Test.YtnldnldmgceooaaGreatDoorDxP
import Derived.Test.YtnldnldmgceooaaGreatDoorDxF1
import Derived.Test.YtnldnldmgceooaaGreatDoorDxF2
import Derived.Test.YtnldnldmgceooaaGreatDoorDxF4
namespace Go.Proofs.YtnldnldmgceooaaGreatDoor
open Go Go.Dw Go.Proofs
set_option maxRecDepth 100000
set_option maxHeartbeats 4000000
open Go.Dw renaming QU → bD,PN → cK,AcY → cV,Acy → cD,Aah → hE,AcX → cP,Aez → lP,AaZ → sC,AmM → mF,rf → r
def SD (a : OY) : List D:=[PD a]
def SC (ds : List D) : OY:=Rk (ds.getD 0 .top)
theorem AdF (a : OY) : SC (SD a) = a:=by simp [SC,SD]
instance : Px SD SC:=⟨AdF⟩
def Aeb (b : (List Int) × OY) : D:=.sl (b.1.map Pa)
def Aea (b : (List Int) × OY) : List D:=[PD b.2]
noncomputable def RK : Dw.Spec:=Pf [(0,(8,160))] (.row 1 3) SD SC (fun a=>Qq a) Aeb Aea
theorem Tc : Pd Tryz.prog 131 RK:=by
 refine fn2 1 (Pk (l:=[(140,AlY)]) (by simp [Apq])) Tryz.func131<|?_
 intro s1
 unfold Qq
 refine A 18 ?_
 refine lP (E:=fun (s : (List Int) × Int) (g : Nat)=>[(3,.osl 3 g 0 s.1.length),(6,.optr 8192 0 0 0),(7,.int .i64 s.2)]) (O:=fun s g=>[(3,some (g,⟨false,false,1,3,s.1.map Pa⟩)),(8192,some (0,⟨false,true,8,160,[.agg [.int .u64 s1.a0,.int .u64 s1.a1,.int .u64 s1.a2,.int .u64 s1.a3,.int .u64 s1.a4,.int .u64 s1.a5,.int .u64 s1.a6,.int .u64 s1.a7]]⟩))]) (body:=fun s=>Ta s1 s.1 s.2) (s:=(([] : List Int),0)) _ ((hE ⟨rfl,r,r,trivial⟩ ⟨rfl,r,trivial⟩))<|?_
 rintro ⟨l2,x3⟩ v3x1 nn
 try dsimp only
 unfold Ta
 refine A 6 ?_
 refine cD r ?_ ?_
 ·refine A 8 ?_
  refine cK fun hq=>Uo r r r hq<|bD fun s_e4 hs_e4=>WQ (q:=s_e4) (l:=s1.toList) (en:=ZV) (j:=x3.toNat) (by simp) r r r hs_e4 r (fun _=>r)<|?_
  refine A 5 ?_
  refine lP (E:=fun (s : (List Int) × Int) (g : Nat)=>[(3,.osl 3 g 0 s.1.length),(4,.int .i64 x3),(5,.int .u64 s.2),(6,.optr 8192 0 0 0),(7,.int .i64 x3)]) (O:=fun s g=>[(3,some (g,⟨false,false,1,3,s.1.map Pa⟩)),(8192,some (0,⟨false,true,8,160,[.agg [.int .u64 s1.a0,.int .u64 s1.a1,.int .u64 s1.a2,.int .u64 s1.a3,.int .u64 s1.a4,.int .u64 s1.a5,.int .u64 s1.a6,.int .u64 s1.a7]]⟩))]) (body:=fun s=>Tb x3 s.1 s.2) (s:=(l2,s_e4)) _ ((hE ⟨rfl,r,r,r,r,trivial⟩ ⟨rfl,r,trivial⟩))<|?_
  rintro ⟨l5,x6⟩ v3x2 nn
  try dsimp only
  unfold Tb
  exact B
 ·exact B

def AhV (b : (List Int)) : D:=.sl (b.map Pa)
noncomputable def Adj : Dw.Spec:=Pf [] .val Rh Rg (fun a=>UI a.1 a.2) AhV noE
theorem Ahe : Pd Tryz.prog 136 Adj:=by
 refine fn2 2 (Pk (l:=[(128,UU),(139,Wp),(131,RK)]) (by simp [Wo,Aab,Tc])) Tryz.func136<|?_
 intro a
 unfold UI
 exact B

def AjZ (b : (List Int)) : D:=.sl (b.map Pa)
noncomputable def AeU : Dw.Spec:=Pf [] (.row 1 3) Qs Qr (fun a=>Xd a) AjZ noE
theorem AiK : Pd Tryz.prog 138 AeU:=by
 refine fn2 1 (Pv) Tryz.func138<|?_
 intro a
 unfold Xd
 exact B

def Ame (b : (List Int)) : D:=.sl (b.map Pa)
noncomputable def AgM : Dw.Spec:=Pf [] (.row 1 3) Sp So (fun a=>XQ a) Ame noE
theorem AkZ : Pd Tryz.prog 137 AgM:=by
 refine fn2 1 (Pk (l:=[(128,UU),(131,RK)]) (by simp [Wo,Tc])) Tryz.func137<|?_
 intro a
 unfold XQ
 exact B

def Tm (a : Int × Int) : List D:=[.int .u64 a.1,.int .u64 a.2]
def Tl (ds : List D) : Int × Int:=(uI (ds.getD 0 .top),uI (ds.getD 1 .top))
theorem Agq (a : Int × Int) : Tl (Tm a) = a:=by simp [Tl,Tm,uI]
instance : Px Tm Tl:=⟨Agq⟩
def Ahf (b : Int) : D:=.int .u64 b
noncomputable def AcD : Dw.Spec:=Pf [] .ground Tm Tl (fun a=>VU a.1 a.2) Ahf noE
theorem Agr : Pd Tryz.prog 130 AcD:=by
 refine fn2 2 (Pv) Tryz.func130<|?_
 intro a
 unfold VU
 exact B

def QJ (a : OY × OY) : List D:=[PD a.1,PD a.2,.clo 130 []]
def QI (ds : List D) : OY × OY:=(Rk (ds.getD 0 .top),Rk (ds.getD 1 .top))
theorem UX (a : OY × OY) : QI (QJ a) = a:=by simp [QI,QJ]
instance : Px QJ QI:=⟨UX⟩
def Abd (b : OY × OY × OY) : D:=PD b.1
def Abc (b : OY × OY × OY) : List D:=[PD b.2.1,PD b.2.2]
noncomputable def SB : Dw.Spec:=Pf [(0,(8,160)),(1,(8,160))] (.ptr 8 160) QJ QI (fun a=>Qw a.1 a.2) Abd Abc
theorem Aar : Pd Tryz.prog 129 SB:=by
 refine fn2 3 (Pk (l:=[(130,AcD)]) (by simp [Agr])) Tryz.func129<|?_
 rintro ⟨s1,t2⟩
 unfold Qw
 refine A 19 ?_
 refine lP (E:=fun (s : OY × Int) (g : Nat)=>[(0,.optr 8192 0 0 0),(1,.optr 8193 1 0 0),(2,.clo 130 []),(7,.optr 10 g 0 0),(11,.int .i64 s.2)]) (O:=fun s g=>[(10,some (g,⟨false,true,8,160,[.agg [.int .u64 s.1.a0,.int .u64 s.1.a1,.int .u64 s.1.a2,.int .u64 s.1.a3,.int .u64 s.1.a4,.int .u64 s.1.a5,.int .u64 s.1.a6,.int .u64 s.1.a7]]⟩)),(8192,some (0,⟨false,true,8,160,[.agg [.int .u64 s1.a0,.int .u64 s1.a1,.int .u64 s1.a2,.int .u64 s1.a3,.int .u64 s1.a4,.int .u64 s1.a5,.int .u64 s1.a6,.int .u64 s1.a7]]⟩)),(8193,some (1,⟨false,true,8,160,[.agg [.int .u64 t2.a0,.int .u64 t2.a1,.int .u64 t2.a2,.int .u64 t2.a3,.int .u64 t2.a4,.int .u64 t2.a5,.int .u64 t2.a6,.int .u64 t2.a7]]⟩))]) (body:=fun s=>Qn s1 t2 s.1 s.2) (s:=((OY.mk 0 0 0 0 0 0 0 0),0)) _ ((hE ⟨rfl,r,r,r,r,trivial⟩ ⟨rfl,r,r,trivial⟩))<|?_
 rintro ⟨x3,x4⟩ v10x1 nn
 try dsimp only
 unfold Qn
 refine A 6 ?_
 refine cD r ?_ ?_
 ·refine A 17 ?_
  refine cK fun hq=>Uo r r r hq<|bD fun s_e5 hs_e5=>WQ (q:=s_e5) (l:=s1.toList) (en:=ZV) (j:=x4.toNat) (by simp) r r r hs_e5 r (fun _=>r)<|?_
  refine A 3 ?_
  refine cK fun hq=>Uo r r r hq<|bD fun t_e6 ht_e6=>WQ (q:=t_e6) (l:=t2.toList) (en:=ZV) (j:=x4.toNat) (by simp) r r r ht_e6 r (fun _=>r)<|bD fun r7 hr7=>?_
  refine A 2 ?_
  refine cK fun hq=>Uo r r r hq<|bD fun x_o8 hx_o8=>AiD (q:=x_o8) (q':=r7) (l:=x3.toList) (en:=ZV) (j:=x4.toNat) (z':=.agg [.int .u64 ((x3.set x4.toNat r7).a0),.int .u64 ((x3.set x4.toNat r7).a1),.int .u64 ((x3.set x4.toNat r7).a2),.int .u64 ((x3.set x4.toNat r7).a3),.int .u64 ((x3.set x4.toNat r7).a4),.int .u64 ((x3.set x4.toNat r7).a5),.int .u64 ((x3.set x4.toNat r7).a6),.int .u64 ((x3.set x4.toNat r7).a7)]) (by simp) r r r r r hx_o8 r r (congrArg (fun l=>D.agg (l.map ZV)) (Ro x3 x4.toNat r7).symm)<|?_
  exact B
 ·exact B

def AiJ (b : (List Int)) : D:=.sl (b.map Pa)
noncomputable def Abm : Dw.Spec:=Pf [] .val RD RC (fun a=>Tk a.1 a.2) AiJ noE
theorem Adk : Pd Tryz.prog 112 Abm:=by
 refine fn2 2 (Pk (l:=[(128,UU),(536705,SB),(131,RK)]) (by simp [Wo,Aar,Tc])) Tryz.func112<|?_
 rintro ⟨a1,b2⟩
 unfold Tk
 refine A 8 ?_
 refine bD fun r3 hr3=>?_
 refine A 2 ?_
 refine bD fun r4 hr4=>?_
 refine A 1 ?_
 refine bD fun r5 hr5=>cP (r3,r4) rfl rfl (show _ = some SB from by kernel_rfl) UX rfl rfl (by simp) r hr5<|?_
 exact B

def Amk (b : (List Int)) : D:=.sl (b.map Pa)
noncomputable def AgP : Dw.Spec:=Pf [] .val Wg Wf (fun a=>AbI a.1 a.2) Amk noE
theorem Alh : Pd Tryz.prog 126 AgP:=by
 refine fn2 2 (Pk (l:=[(84,ZW),(136,Adj),(138,AeU),(137,AgM),(112,Abm)]) (by simp [Acf,Ahe,AiK,AkZ,Adk])) Tryz.func126<|?_
 intro a
 unfold AbI
 exact B

def Ahd (b : Int) : D:=.int .u64 b
noncomputable def AcC : Dw.Spec:=Pf [] .ground Tm Tl (fun a=>VT a.1 a.2) Ahd noE
theorem Agp : Pd Tryz.prog 132 AcC:=by
 refine fn2 2 (Pv) Tryz.func132<|?_
 intro a
 unfold VT
 exact B

def QH (a : OY × OY) : List D:=[PD a.1,PD a.2,.clo 132 []]
def QG (ds : List D) : OY × OY:=(Rk (ds.getD 0 .top),Rk (ds.getD 1 .top))
theorem UW (a : OY × OY) : QG (QH a) = a:=by simp [QG,QH]
instance : Px QH QG:=⟨UW⟩
def Abb (b : OY × OY × OY) : D:=PD b.1
def Aba (b : OY × OY × OY) : List D:=[PD b.2.1,PD b.2.2]
noncomputable def SA : Dw.Spec:=Pf [(0,(8,160)),(1,(8,160))] (.ptr 8 160) QH QG (fun a=>Qv a.1 a.2) Abb Aba
theorem Aaq : Pd Tryz.prog 129 SA:=by
 refine fn2 3 (Pk (l:=[(132,AcC)]) (by simp [Agp])) Tryz.func129<|?_
 rintro ⟨s1,t2⟩
 unfold Qv
 refine A 19 ?_
 refine lP (E:=fun (s : OY × Int) (g : Nat)=>[(0,.optr 8192 0 0 0),(1,.optr 8193 1 0 0),(2,.clo 132 []),(7,.optr 10 g 0 0),(11,.int .i64 s.2)]) (O:=fun s g=>[(10,some (g,⟨false,true,8,160,[.agg [.int .u64 s.1.a0,.int .u64 s.1.a1,.int .u64 s.1.a2,.int .u64 s.1.a3,.int .u64 s.1.a4,.int .u64 s.1.a5,.int .u64 s.1.a6,.int .u64 s.1.a7]]⟩)),(8192,some (0,⟨false,true,8,160,[.agg [.int .u64 s1.a0,.int .u64 s1.a1,.int .u64 s1.a2,.int .u64 s1.a3,.int .u64 s1.a4,.int .u64 s1.a5,.int .u64 s1.a6,.int .u64 s1.a7]]⟩)),(8193,some (1,⟨false,true,8,160,[.agg [.int .u64 t2.a0,.int .u64 t2.a1,.int .u64 t2.a2,.int .u64 t2.a3,.int .u64 t2.a4,.int .u64 t2.a5,.int .u64 t2.a6,.int .u64 t2.a7]]⟩))]) (body:=fun s=>Qm s1 t2 s.1 s.2) (s:=((OY.mk 0 0 0 0 0 0 0 0),0)) _ ((hE ⟨rfl,r,r,r,r,trivial⟩ ⟨rfl,r,r,trivial⟩))<|?_
 rintro ⟨x3,x4⟩ v10x1 nn
 try dsimp only
 unfold Qm
 refine A 6 ?_
 refine cD r ?_ ?_
 ·refine A 17 ?_
  refine cK fun hq=>Uo r r r hq<|bD fun s_e5 hs_e5=>WQ (q:=s_e5) (l:=s1.toList) (en:=ZV) (j:=x4.toNat) (by simp) r r r hs_e5 r (fun _=>r)<|?_
  refine A 3 ?_
  refine cK fun hq=>Uo r r r hq<|bD fun t_e6 ht_e6=>WQ (q:=t_e6) (l:=t2.toList) (en:=ZV) (j:=x4.toNat) (by simp) r r r ht_e6 r (fun _=>r)<|bD fun r7 hr7=>?_
  refine A 2 ?_
  refine cK fun hq=>Uo r r r hq<|bD fun x_o8 hx_o8=>AiD (q:=x_o8) (q':=r7) (l:=x3.toList) (en:=ZV) (j:=x4.toNat) (z':=.agg [.int .u64 ((x3.set x4.toNat r7).a0),.int .u64 ((x3.set x4.toNat r7).a1),.int .u64 ((x3.set x4.toNat r7).a2),.int .u64 ((x3.set x4.toNat r7).a3),.int .u64 ((x3.set x4.toNat r7).a4),.int .u64 ((x3.set x4.toNat r7).a5),.int .u64 ((x3.set x4.toNat r7).a6),.int .u64 ((x3.set x4.toNat r7).a7)]) (by simp) r r r r r hx_o8 r r (congrArg (fun l=>D.agg (l.map ZV)) (Ro x3 x4.toNat r7).symm)<|?_
  exact B
 ·exact B

def AiI (b : (List Int)) : D:=.sl (b.map Pa)
noncomputable def AdZ : Dw.Spec:=Pf [] .val RD RC (fun a=>VS a.1 a.2) AiI noE
theorem AhU : Pd Tryz.prog 113 AdZ:=by
 refine fn2 2 (Pk (l:=[(128,UU),(544897,SA),(131,RK)]) (by simp [Wo,Aaq,Tc])) Tryz.func113<|?_
 rintro ⟨a1,b2⟩
 unfold VS
 refine A 8 ?_
 refine bD fun r3 hr3=>?_
 refine A 2 ?_
 refine bD fun r4 hr4=>?_
 refine A 1 ?_
 refine bD fun r5 hr5=>cP (r3,r4) rfl rfl (show _ = some SA from by kernel_rfl) UW rfl rfl (by simp) r hr5<|?_
 exact B

def Ra (a : (List Int) × (List Int) × Pg × Int) : List D:=[.sl (a.1.map Pa),.sl (a.2.1.map Pa),.fptr (Qt a.2.2.1) 0,.fptr (.int .i64 a.2.2.2) 0]
def QZ (ds : List D) : (List Int) × (List Int) × Pg × Int:=((uL uI) (ds.getD 0 .top),(uL uI) (ds.getD 1 .top),VR (fpD (ds.getD 2 .top)),uI (fpD (ds.getD 3 .top)))
theorem Abr (a : (List Int) × (List Int) × Pg × Int) : QZ (Ra a) = a:=by simp [QZ,Ra,uI,fpD,PV (u:=uI) (en:=Pa) (fun _=>rfl)]
instance : Px Ra QZ:=⟨Abr⟩
def AbL (b : Bool × (List Int)) : D:=.bool b.1
def AbK (b : Bool × (List Int)) : List D:=[.sl (b.2.map Pa)]
noncomputable def Wm : Dw.Spec:=Pf [(1,(1,30))] .val Ra QZ (fun a=>RY a.1 a.2.1 a.2.2.1 a.2.2.2) AbL AbK
theorem Abs : Pd Tryz.prog 111 Wm:=by
 refine fn2 4 (Pk (l:=[(113,AdZ),(112,Abm)]) (by simp [AhU,Adk])) Tryz.func111<|?_
 rintro ⟨need1,cap2,cap3,cap4⟩
 unfold RY
 refine A 12 ?_
 refine bD fun x_x5 hx_x5=>?_
 refine A 2 ?_
 refine bD fun r6 hr6=>?_
 refine A 1 ?_
 refine bD fun r7 hr7=>?_
 refine A 1 ?_
 refine Xl (i:=0) (es':=[.sl (r7.map Pa)]) r r r r r r r (by first | trivial | (simp; done) | (simp; omega)) r r r r r r<|?_
 exact B

def PS (a : OX × Int × Pg × (List Int) × Pg × Int) : List D:=[PL a.1,.int .i64 a.2.1,.clo 127 [.fptr (Qt a.2.2.1) 0],.clo 111 [.sl (a.2.2.2.1.map Pa),.fptr (Qt a.2.2.2.2.1) 0,.fptr (.int .i64 a.2.2.2.2.2) 0]]
def Qj (ds : List D) : OX × Int × Pg × (List Int) × Pg × Int:=(SM (ds.getD 0 .top),uI (ds.getD 1 .top),VR (fpD (Ahg (ds.getD 2 .top) 0)),(uL uI) (Ahg (ds.getD 3 .top) 0),VR (fpD (Ahg (ds.getD 3 .top) 1)),uI (fpD (Ahg (ds.getD 3 .top) 2)))
theorem Tq (a : OX × Int × Pg × (List Int) × Pg × Int) : Qj (PS a) = a:=by simp [Qj,PS,uI,fpD,Ahg,PV (u:=uI) (en:=Pa) (fun _=>rfl)]
instance : Px PS Qj:=⟨Tq⟩
def Yr (b : Bool × (List Int)) : D:=.bool b.1
def Yq (b : Bool × (List Int)) : List D:=[.sl (b.2.map Pa)]
noncomputable def Rx : Dw.Spec:=Pf [(256,(1,30))] .val PS Qj (fun a=>Qe a.1 a.2.1 a.2.2.1 a.2.2.2.1 a.2.2.2.2.1 a.2.2.2.2.2) Yr Yq
theorem XZ : Pd Tryz.prog 109 Rx:=by
 refine fn2 4 (Pk (l:=[(125,AgR),(127,Aaj),(126,AgP),(111,Wm)]) (by simp [Alm,AdQ,Alh,Abs])) Tryz.func109<|?_
 rintro ⟨f1,k2,set3,visit4,visit5,visit6⟩
 unfold Qe
 refine A 11 ?_
 refine bD fun r7 hr7=>?_
 refine A 6 ?_
 refine lP (E:=fun (s : (List Int) × Int) (g : Nat × Nat)=>[(2,.clo 127 [.fptr (.agg [.sl (set3.Out.map (eL Pa))]) 0]),(3,.clo 111 [.optr 8448 256 0 0,.fptr (.agg [.sl (visit5.Out.map (eL Pa))]) 0,.fptr (.int .i64 visit6) 0]),(4,.optr 4 g.1 0 0),(13,.osl 13 g.2 0 r7.length),(14,.int .i64 (r7.length : Int)),(15,.int .i64 s.2)]) (O:=fun s g=>[(4,some (g.1,⟨false,true,3,40,[.agg [.int .i64 f1.Params,.sl (f1.Slots.map Pn),.sl (f1.Code.map Pm)]]⟩)),(13,some (g.2,⟨false,false,1,3,r7.map Pa⟩)),(8448,some (256,⟨false,true,1,30,[.sl (s.1.map Pa)]⟩))]) (body:=fun s=>PJ r7 f1 set3 visit5 visit6 s.1 s.2) (s:=(visit4,0)) (_,_) ((hE ⟨rfl,r,r,r,r,r,trivial⟩ ⟨rfl,r,r,trivial⟩))<|?_
 rintro ⟨x8,x9⟩ ⟨v4x1,v13x1⟩ nn
 try dsimp only
 unfold PJ
 exact B

def AgH (b : Int × Int × Bool) : D:=.tup [.int .i64 b.1,.int .i64 b.2.1,.bool b.2.2]
noncomputable def Aci : Dw.Spec:=Pf [] .ground Ql Qk (fun a=>Vl a.1 a.2) AgH noE
theorem AfP : Pd Tryz.prog 83 Aci:=by
 refine fn2 2 (Pk (l:=[(82,Ya),(110,AcL),(1879572589,Rx)]) (by simp [Abj,AgJ,XZ])) Tryz.func83<|?_
 rintro ⟨f1,l2⟩
 unfold Vl
 refine A 8 ?_
 refine VC (E:=[(2,.optr 2 _ 0 0),(3,.fptr (.agg [.sl (l2.Out.map (eL Pa))]) 0)]) (O:=[(2,some (_,⟨false,true,3,40,[.agg [.int .i64 f1.Params,.sl (f1.Slots.map Pn),.sl (f1.Code.map Pm)]]⟩))]) ((AeN (g:=3) r (by first | rfl | (simp [cells,frp,PA,PG]; done)) (hE ⟨(by first | rfl | (simp [Ps,frp]; done) | (simp [Ps,frp,PA]; done) | (simp [Ps,frp,PA,nbq]; done) | (simp [Ps,lkO,frp,PA,frO]; done) | (simp [Ps,lkO,frp,PA,frO]; rfl) | (simp [Ps,lkO,frp,PA,frO,nbq]; done)),(by first | rfl | (simp [Ps,frp]; done) | (simp [Ps,frp,PA]; done) | (simp [Ps,frp,PA,nbq]; done) | (simp [Ps,lkO,frp,PA,frO]; done) | (simp [Ps,lkO,frp,PA,frO]; rfl) | (simp [Ps,lkO,frp,PA,frO,nbq]; done)),trivial⟩ ⟨(by first | rfl | (simp [Ps,frp]; done) | (simp [Ps,frp,PA]; done) | (simp [Ps,frp,PA,nbq]; done) | (simp [Ps,lkO,frp,PA,frO]; done) | (simp [Ps,lkO,frp,PA,frO]; rfl) | (simp [Ps,lkO,frp,PA,frO,nbq]; done)),trivial⟩))) fun nn=>?_
 refine A 5 ?_
 refine bD fun r3 hr3=>?_
 refine A 4 ?_
 refine cD r ?_ ?_
 ·exact B
 ·refine A 12 ?_
  refine lP (E:=fun (s : Int) (g : Nat)=>[(2,.optr 2 g 0 0),(3,.fptr (.agg [.sl (l2.Out.map (eL Pa))]) 0),(15,.int .i64 (f1.Code.length : Int)),(16,.int .i64 s)]) (O:=fun _ g=>[(2,some (g,⟨false,true,3,40,[.agg [.int .i64 f1.Params,.sl (f1.Slots.map Pn),.sl (f1.Code.map Pm)]]⟩))]) (body:=fun s=>Vm f1 l2 s) (s:=0) _ ((hE ⟨rfl,r,r,r,trivial⟩ ⟨rfl,trivial⟩))<|?_
  rintro x4 v2x1 nn
  try dsimp only
  unfold Vm
  refine A 6 ?_
  refine cD r ?_ ?_
  ·refine A 10 ?_
   refine VC (E:=[(2,.optr 2 _ 0 0),(3,.fptr (.agg [.sl (l2.Out.map (eL Pa))]) 0),(7,.fptr (.int .i64 x4) 0),(15,.int .i64 (f1.Code.length : Int)),(16,.int .i64 x4)]) (O:=[(2,some (_,⟨false,true,3,40,[.agg [.int .i64 f1.Params,.sl (f1.Slots.map Pn),.sl (f1.Code.map Pm)]]⟩))]) ((AeN (g:=7) r (by first | rfl | (simp [cells,frp,PA,PG]; done)) (hE ⟨(by first | rfl | (simp [Ps,frp]; done) | (simp [Ps,frp,PA]; done) | (simp [Ps,frp,PA,nbq]; done) | (simp [Ps,lkO,frp,PA,frO]; done) | (simp [Ps,lkO,frp,PA,frO]; rfl) | (simp [Ps,lkO,frp,PA,frO,nbq]; done)),(by first | rfl | (simp [Ps,frp]; done) | (simp [Ps,frp,PA]; done) | (simp [Ps,frp,PA,nbq]; done) | (simp [Ps,lkO,frp,PA,frO]; done) | (simp [Ps,lkO,frp,PA,frO]; rfl) | (simp [Ps,lkO,frp,PA,frO,nbq]; done)),(by first | rfl | (simp [Ps,frp]; done) | (simp [Ps,frp,PA]; done) | (simp [Ps,frp,PA,nbq]; done) | (simp [Ps,lkO,frp,PA,frO]; done) | (simp [Ps,lkO,frp,PA,frO]; rfl) | (simp [Ps,lkO,frp,PA,frO,nbq]; done)),(by first | rfl | (simp [Ps,frp]; done) | (simp [Ps,frp,PA]; done) | (simp [Ps,frp,PA,nbq]; done) | (simp [Ps,lkO,frp,PA,frO]; done) | (simp [Ps,lkO,frp,PA,frO]; rfl) | (simp [Ps,lkO,frp,PA,frO,nbq]; done)),(by first | rfl | (simp [Ps,frp]; done) | (simp [Ps,frp,PA]; done) | (simp [Ps,frp,PA,nbq]; done) | (simp [Ps,lkO,frp,PA,frO]; done) | (simp [Ps,lkO,frp,PA,frO]; rfl) | (simp [Ps,lkO,frp,PA,frO,nbq]; done)),trivial⟩ ⟨(by first | rfl | (simp [Ps,frp]; done) | (simp [Ps,frp,PA]; done) | (simp [Ps,frp,PA,nbq]; done) | (simp [Ps,lkO,frp,PA,frO]; done) | (simp [Ps,lkO,frp,PA,frO]; rfl) | (simp [Ps,lkO,frp,PA,frO,nbq]; done)),trivial⟩))) fun nn=>?_
   refine A 10 ?_
   refine bD fun r5 hr5=>?_
   refine A 1 ?_
   refine mF (caps:=[.optr 8 _ 0 0,.fptr (.agg [.sl (l2.Out.map (eL Pa))]) 0,.fptr (.int .i64 x4) 0]) r r (by simp [Acx])<|bD fun r6 hr6=>cV (f1,x4,r5,[],l2,x4) rfl rfl (show _ = some Rx from by kernel_rfl) Tq rfl rfl (by simp) (by first | rfl | (simp only [OV]; rfl) | (simp only [OW]; rfl) | (simp only [OV,OW]; rfl) | simp [PS,PL,Qt,Qt]) hr6<|?_
   exact B
  ·exact B

def AgG (b : Int) : D:=.int .i64 b
noncomputable def Ach : Dw.Spec:=Pf [] .ground Ql Qk (fun a=>Vk a.1 a.2) AgG noE
theorem AfO : Pd Tryz.prog 59 Ach:=by
 refine fn2 2 (Pk (l:=[(82,Ya),(83,Aci)]) (by simp [Abj,AfP])) Tryz.func59<|?_
 intro a
 unfold Vk
 exact B

def Re (a : Pp × Pg) : List D:=[TB a.1,Qt a.2]
def Rc (ds : List D) : Pp × Pg:=(TI (ds.getD 0 .top),VR (ds.getD 1 .top))
theorem Ade (a : Pp × Pg) : Rc (Re a) = a:=by simp [Rc,Re]
instance : Px Re Rc:=⟨Ade⟩
def AdN (b : Int) : D:=.int .i64 b
noncomputable def Zq : Dw.Spec:=Pf [] .ground Re Rc (fun a=>Ru a.1 a.2) AdN noE
theorem Adf : Pd Tryz.prog 34 Zq:=by
 refine fn2 2 (Pk (l:=[(42,Vw),(59,Ach)]) (by simp [Zi,AfO])) Tryz.func34<|?_
 intro a
 unfold Ru
 exact B

def Aka (b : Bool) : D:=.bool b
noncomputable def AeW : Dw.Spec:=Pf [] .ground Sv Su (fun a=>AbC a.1 a.2) Aka noE
theorem AiN : Pd Tryz.prog 115 AeW:=by
 refine fn2 2 (Pv) Tryz.func115<|?_
 intro a
 unfold AbC
 exact B

def Ahn (b : Bool) : D:=.bool b
noncomputable def AcG : Dw.Spec:=Pf [] .ground Sv Su (fun a=>VV a.1 a.2) Ahn noE
theorem AgF : Pd Tryz.prog 85 AcG:=by
 refine fn2 2 (Pk (l:=[(114,Abn),(115,AeW)]) (by simp [Ado,AiN])) Tryz.func85<|?_
 intro a
 unfold VV
 exact B

def Sj (a : Pp × Pg × Int) : List D:=[TB a.1,Qt a.2.1,.int .i64 a.2.2]
def Si (ds : List D) : Pp × Pg × Int:=(TI (ds.getD 0 .top),VR (ds.getD 1 .top),uI (ds.getD 2 .top))
theorem AcZ (a : Pp × Pg × Int) : Si (Sj a) = a:=by simp [Si,Sj,uI]
instance : Px Sj Si:=⟨AcZ⟩
def AdL (b : Int × Bool) : D:=.tup [.int .i64 b.1,.bool b.2]
noncomputable def Zo : Dw.Spec:=Pf [] .ground Sj Si (fun a=>Sh a.1 a.2.1 a.2.2) AdL noE
theorem Ada : Pd Tryz.prog 60 Zo:=by
 refine fn2 3 (Pk (l:=[(84,ZW),(86,TX),(85,AcG)]) (by simp [Acf,WS,AgF])) Tryz.func60<|?_
 rintro ⟨s1,l2,k3⟩
 unfold Sh
 refine A 14 ?_
 refine bD fun x_x4 hx_x4=>?_
 refine A 9 ?_
 refine bD fun r5 hr5=>?_
 refine A 8 ?_
 refine sC (E:=fun (_s : Unit) (g : Nat × Nat)=>[(2,.int .i64 k3),(3,.optr 3 g.1 0 0),(4,.optr 4 g.2 0 0),(9,.int .i64 r5.1)]) (O:=fun _ g=>[(3,some (g.1,⟨false,true,9,78,[.agg [.sl (s1.p.Funcs.map PL),.int .i64 s1.i,.int .i64 s1.align,.int .i64 s1.f.Params,.sl (s1.f.Slots.map Pn),.sl (s1.f.Code.map Pm),.int .i64 s1.y.Args,.int .i64 s1.y.Size,.sl (s1.y.Off.map Pa)]]⟩)),(4,some (g.2,⟨false,true,1,29,[.agg [.sl (l2.Out.map (eL Pa))]]⟩))]) (j:=fun _=>QB l2 k3 r5 s1) ?_ ?_
 ·exact B
 ·rintro ⟨⟩ ⟨v3x1,v4x1⟩ nn
  try dsimp only
  unfold QB
  refine A 6 ?_
  refine bD fun x_x8 hx_x8=>?_
  refine A 7 ?_
  refine lP (E:=fun (s : Int) (g : Nat)=>[(3,.optr 3 g 0 0),(9,.int .i64 r5.1),(52,.sl (x_x8.map Pa)),(53,.int .i64 (x_x8.length : Int)),(54,.int .i64 s)]) (O:=fun _ g=>[(3,some (g,⟨false,true,9,78,[.agg [.sl (s1.p.Funcs.map PL),.int .i64 s1.i,.int .i64 s1.align,.int .i64 s1.f.Params,.sl (s1.f.Slots.map Pn),.sl (s1.f.Code.map Pm),.int .i64 s1.y.Args,.int .i64 s1.y.Size,.sl (s1.y.Off.map Pa)]]⟩))]) (body:=fun s=>SG x_x8 r5 s1 s) (s:=0) _ ((hE ⟨rfl,r,r,r,r,trivial⟩ ⟨rfl,trivial⟩))<|?_
  rintro x9 v3x2 nn
  try dsimp only
  unfold SG
  exact B

def AdM (b : Int × Int × Bool) : D:=.tup [.int .i64 b.1,.int .i64 b.2.1,.bool b.2.2]
noncomputable def Zp : Dw.Spec:=Pf [] .ground Re Rc (fun a=>Rt a.1 a.2) AdM noE
theorem Adb : Pd Tryz.prog 35 Zp:=by
 refine fn2 2 (Pk (l:=[(60,Zo)]) (by simp [Ada])) Tryz.func35<|?_
 rintro ⟨s1,l2⟩
 unfold Rt
 refine A 20 ?_
 refine lP (E:=fun (s : Int) (g : Nat × Nat)=>[(2,.optr 2 g.1 0 0),(3,.optr 3 g.2 0 0),(13,.int .i64 (s1.f.Code.length : Int)),(14,.int .i64 s)]) (O:=fun _ g=>[(2,some (g.1,⟨false,true,9,78,[.agg [.sl (s1.p.Funcs.map PL),.int .i64 s1.i,.int .i64 s1.align,.int .i64 s1.f.Params,.sl (s1.f.Slots.map Pn),.sl (s1.f.Code.map Pm),.int .i64 s1.y.Args,.int .i64 s1.y.Size,.sl (s1.y.Off.map Pa)]]⟩)),(3,some (g.2,⟨false,true,1,29,[.agg [.sl (l2.Out.map (eL Pa))]]⟩))]) (body:=fun s=>SH s1 l2 s) (s:=0) (_,_) ((hE ⟨rfl,r,r,r,trivial⟩ ⟨rfl,r,trivial⟩))<|?_
 rintro x3 ⟨v2x1,v3x1⟩ nn
 try dsimp only
 unfold SH
 exact B

def Ws (a : Ph × Int × Int × Pg × Pe) : List D:=[RA a.1,.int .i64 a.2.1,.int .i64 a.2.2.1,Qt a.2.2.2.1,Qi a.2.2.2.2]
def Wq (ds : List D) : Ph × Int × Int × Pg × Pe:=(VD (ds.getD 0 .top),uI (ds.getD 1 .top),uI (ds.getD 2 .top),VR (ds.getD 3 .top),AeA (ds.getD 4 .top))
theorem Aic (a : Ph × Int × Int × Pg × Pe) : Wq (Ws a) = a:=by simp [Wq,Ws,uI]
instance : Px Ws Wq:=⟨Aic⟩
def AiV (b : Int) : D:=.int .i64 b
noncomputable def Aek : Dw.Spec:=Pf [] .ground Ws Wq (fun a=>Uv a.1 a.2.1 a.2.2.1 a.2.2.2.1 a.2.2.2.2) AiV noE
theorem Aid : Pd Tryz.prog 12 Aek:=by
 refine fn2 5 (Pk (l:=[(34,Zq),(35,Zp)]) (by simp [Adf,Adb])) Tryz.func12<|?_
 intro a
 unfold Uv
 exact B

def QL (a : (List Int)) : List D:=[.sl (a.map eU8)]
def QK (ds : List D) : (List Int):=(uL uI) (ds.getD 0 .top)
theorem Vj (a : (List Int)) : QK (QL a) = a:=by simp [QK,QL,PV (u:=uI) (en:=eU8) (fun _=>rfl)]
instance : Px QL QK:=⟨Vj⟩
def Abe (b : Bool) : D:=.bool b
noncomputable def Abf : Dw.Spec:=Pf [] .ground QL QK (fun a=>Qx a) Abe noE
theorem AaA : Pd Tryz.prog 3 Abf:=by
 refine fn2 1 (Pk (l:=[(8,AeX),(9,AeY),(10,XV),(11,ZZ),(12,Aek)]) (by simp [AiT,AiU,Abi,Acj,Aid])) Tryz.func3<|?_
 intro codes1
 unfold Qx
 refine A 8 ?_
 refine bD fun r2 hr2=>?_
 refine A 4 ?_
 refine cD r ?_ ?_
 ·exact B
 ·refine A 5 ?_
  refine bD fun r3 hr3=>AiC (rs:=[RA r3.1,.int .i64 r3.2.1,.int .i64 r3.2.2.1,Qt r3.2.2.2.1,Qi r3.2.2.2.2.1,Pz r3.2.2.2.2.2]) (z:=Pz r3.2.2.2.2.2) codes1 r r r Aej r r (by simp) r hr3 r r<|?_
  refine A 24 ?_
  refine bD fun x_x4 hx_x4=>?_
  refine A 2 ?_
  refine bD fun r5 hr5=>?_
  refine A 10 ?_
  refine bD fun r6 hr6=>?_
  refine A 39 ?_
  refine sC (E:=fun (_s : Unit) (g : Nat × Nat × Nat)=>[(3,.optr 3 g.1 0 0),(4,.int .i64 r3.2.1),(5,.int .i64 r3.2.2.1),(9,.optr 9 g.2.1 0 0),(13,.optr 13 g.2.2 0 0)]) (O:=fun _ g=>[(3,some (g.1,⟨false,true,1,26,[.agg [.sl (r3.1.Funcs.map PL)]]⟩)),(9,some (g.2.1,⟨false,true,1,29,[.agg [.sl (r5.1.Out.map (eL Pa))]]⟩)),(13,some (g.2.2,⟨false,true,3,32,[.agg [.int .i64 r6.1.Args,.int .i64 (IntKind.i64.wrap (r6.1.Size - r3.2.2.1)),.sl (r6.1.Off.map Pa)]]⟩))]) (j:=fun _=>QW r3 r5 r6) ?_ ?_
  ·exact B
  ·rintro ⟨⟩ ⟨v3x1,v9x1,v13x1⟩ nn
   try dsimp only
   unfold QW
   exact B

end Go.Proofs.YtnldnldmgceooaaGreatDoor
