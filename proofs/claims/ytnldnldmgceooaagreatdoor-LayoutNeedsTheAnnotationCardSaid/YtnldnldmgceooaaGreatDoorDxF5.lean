/-
  Programs on typed data, and the proofs that the code does what they say; written by a program (dx.py).
-/
import Derived.Test.YtnldnldmgceooaaGreatDoorProg
import Derived.Test.YtnldnldmgceooaaGreatDoorDd
import Derived.KernelRfl
import Derived.Test.YtnldnldmgceooaaGreatDoorSh
import Derived.Test.YtnldnldmgceooaaGreatDoorDxP
import Derived.Test.YtnldnldmgceooaaGreatDoorDxF1
import Derived.Test.YtnldnldmgceooaaGreatDoorDxF2
import Derived.Test.YtnldnldmgceooaaGreatDoorDxF4
namespace Go.Proofs.YtnldnldmgceooaaGreatDoor
open Go Go.Dw Go.Proofs
set_option maxRecDepth 100000
set_option maxHeartbeats 4000000
open Go.Dw renaming QS → bD,PM → cK,AcR → cV,Aco → cD,Aaf → hE,AcQ → cP,Aes → lP,AaV → sC,AmD → mF,rf → r
def Sz (a : OY) : List D:=[PD a]
def Sy (ds : List D) : OY:=Rh (ds.getD 0 .top)
theorem Ady (a : OY) : Sy (Sz a) = a:=by simp [Sy,Sz]
instance : Px Sz Sy:=⟨Ady⟩
def AdU (b : (List Int) × OY) : D:=.sl (b.1.map Pa)
def AdT (b : (List Int) × OY) : List D:=[PD b.2]
noncomputable def RH : Dw.Spec:=Pe [(0,(8,160))] (.row 1 3) Sz Sy (fun a=>Qq a) AdU AdT
theorem SY : Pd Tryz.prog 131 RH:=by
 refine fn2 1 (Pk (l:=[(140,AlQ)]) (by simp [Ape])) Tryz.func131<|?_
 intro s1
 unfold Qq
 refine A 18 ?_
 refine lP (E:=fun (s : (List Int) × Int) (g : Nat)=>[(3,.osl 3 g 0 s.1.length),(6,.optr 8192 0 0 0),(7,.int .i64 s.2)]) (O:=fun s g=>[(3,some (g,⟨false,false,1,3,s.1.map Pa⟩)),(8192,some (0,⟨false,true,8,160,[.agg [.int .u64 s1.a0,.int .u64 s1.a1,.int .u64 s1.a2,.int .u64 s1.a3,.int .u64 s1.a4,.int .u64 s1.a5,.int .u64 s1.a6,.int .u64 s1.a7]]⟩))]) (body:=fun s=>SW s1 s.1 s.2) (s:=(([] : List Int),0)) _ ((hE ⟨rfl,r,r,trivial⟩ ⟨rfl,r,trivial⟩))<|?_
 rintro ⟨l2,x3⟩ v3x1 nn
 try dsimp only
 unfold SW
 refine A 6 ?_
 refine cD r ?_ ?_
 ·refine A 8 ?_
  refine cK fun hq=>Uk r r r hq<|bD fun s_e4 hs_e4=>WL (q:=s_e4) (l:=s1.toList) (en:=ZU) (j:=x3.toNat) (by simp) r r r hs_e4 r (fun _=>r)<|?_
  refine A 5 ?_
  refine lP (E:=fun (s : (List Int) × Int) (g : Nat)=>[(3,.osl 3 g 0 s.1.length),(4,.int .i64 x3),(5,.int .u64 s.2),(6,.optr 8192 0 0 0),(7,.int .i64 x3)]) (O:=fun s g=>[(3,some (g,⟨false,false,1,3,s.1.map Pa⟩)),(8192,some (0,⟨false,true,8,160,[.agg [.int .u64 s1.a0,.int .u64 s1.a1,.int .u64 s1.a2,.int .u64 s1.a3,.int .u64 s1.a4,.int .u64 s1.a5,.int .u64 s1.a6,.int .u64 s1.a7]]⟩))]) (body:=fun s=>SX x3 s.1 s.2) (s:=(l2,s_e4)) _ ((hE ⟨rfl,r,r,r,r,trivial⟩ ⟨rfl,r,trivial⟩))<|?_
  rintro ⟨l5,x6⟩ v3x2 nn
  try dsimp only
  unfold SX
  exact B
 ·exact B

def AhR (b : (List Int)) : D:=.sl (b.map Pa)
noncomputable def Adb : Dw.Spec:=Pe [] .val Re Rc (fun a=>UF a.1 a.2) AhR noE
theorem AgZ : Pd Tryz.prog 136 Adb:=by
 refine fn2 2 (Pk (l:=[(128,UQ),(139,Wm),(131,RH)]) (by simp [Wl,ZZ,SY])) Tryz.func136<|?_
 intro a
 unfold UF
 exact B

def AjT (b : (List Int)) : D:=.sl (b.map Pa)
noncomputable def AeN : Dw.Spec:=Pe [] (.row 1 3) Qs Qr (fun a=>Xa a) AjT noE
theorem AiH : Pd Tryz.prog 138 AeN:=by
 refine fn2 1 (Pv) Tryz.func138<|?_
 intro a
 unfold Xa
 exact B

def AlW (b : (List Int)) : D:=.sl (b.map Pa)
noncomputable def AgI : Dw.Spec:=Pe [] (.row 1 3) Sl Sk (fun a=>XM a) AlW noE
theorem AkT : Pd Tryz.prog 137 AgI:=by
 refine fn2 1 (Pk (l:=[(128,UQ),(131,RH)]) (by simp [Wl,SY])) Tryz.func137<|?_
 intro a
 unfold XM
 exact B

def Tj (a : Int × Int) : List D:=[.int .u64 a.1,.int .u64 a.2]
def Ti (ds : List D) : Int × Int:=(uI (ds.getD 0 .top),uI (ds.getD 1 .top))
theorem Agl (a : Int × Int) : Ti (Tj a) = a:=by simp [Ti,Tj,uI]
instance : Px Tj Ti:=⟨Agl⟩
def Aha (b : Int) : D:=.int .u64 b
noncomputable def Acu : Dw.Spec:=Pe [] .ground Tj Ti (fun a=>VQ a.1 a.2) Aha noE
theorem Agm : Pd Tryz.prog 130 Acu:=by
 refine fn2 2 (Pv) Tryz.func130<|?_
 intro a
 unfold VQ
 exact B

def QJ (a : OY × OY) : List D:=[PD a.1,PD a.2,.clo 130 []]
def QI (ds : List D) : OY × OY:=(Rh (ds.getD 0 .top),Rh (ds.getD 1 .top))
theorem US (a : OY × OY) : QI (QJ a) = a:=by simp [QI,QJ]
instance : Px QJ QI:=⟨US⟩
def AaZ (b : OY × OY × OY) : D:=PD b.1
def AaY (b : OY × OY × OY) : List D:=[PD b.2.1,PD b.2.2]
noncomputable def Sx : Dw.Spec:=Pe [(0,(8,160)),(1,(8,160))] (.ptr 8 160) QJ QI (fun a=>Qy a.1 a.2) AaZ AaY
theorem Aaq : Pd Tryz.prog 129 Sx:=by
 refine fn2 3 (Pk (l:=[(130,Acu)]) (by simp [Agm])) Tryz.func129<|?_
 rintro ⟨s1,t2⟩
 unfold Qy
 refine A 19 ?_
 refine lP (E:=fun (s : OY × Int) (g : Nat)=>[(0,.optr 8192 0 0 0),(1,.optr 8193 1 0 0),(2,.clo 130 []),(7,.optr 10 g 0 0),(11,.int .i64 s.2)]) (O:=fun s g=>[(10,some (g,⟨false,true,8,160,[.agg [.int .u64 s.1.a0,.int .u64 s.1.a1,.int .u64 s.1.a2,.int .u64 s.1.a3,.int .u64 s.1.a4,.int .u64 s.1.a5,.int .u64 s.1.a6,.int .u64 s.1.a7]]⟩)),(8192,some (0,⟨false,true,8,160,[.agg [.int .u64 s1.a0,.int .u64 s1.a1,.int .u64 s1.a2,.int .u64 s1.a3,.int .u64 s1.a4,.int .u64 s1.a5,.int .u64 s1.a6,.int .u64 s1.a7]]⟩)),(8193,some (1,⟨false,true,8,160,[.agg [.int .u64 t2.a0,.int .u64 t2.a1,.int .u64 t2.a2,.int .u64 t2.a3,.int .u64 t2.a4,.int .u64 t2.a5,.int .u64 t2.a6,.int .u64 t2.a7]]⟩))]) (body:=fun s=>Qm s1 t2 s.1 s.2) (s:=((OY.mk 0 0 0 0 0 0 0 0),0)) _ ((hE ⟨rfl,r,r,r,r,trivial⟩ ⟨rfl,r,r,trivial⟩))<|?_
 rintro ⟨x3,x4⟩ v10x1 nn
 try dsimp only
 unfold Qm
 refine A 6 ?_
 refine cD r ?_ ?_
 ·refine A 17 ?_
  refine cK fun hq=>Uk r r r hq<|bD fun s_e5 hs_e5=>WL (q:=s_e5) (l:=s1.toList) (en:=ZU) (j:=x4.toNat) (by simp) r r r hs_e5 r (fun _=>r)<|?_
  refine A 3 ?_
  refine cK fun hq=>Uk r r r hq<|bD fun t_e6 ht_e6=>WL (q:=t_e6) (l:=t2.toList) (en:=ZU) (j:=x4.toNat) (by simp) r r r ht_e6 r (fun _=>r)<|bD fun r7 hr7=>?_
  refine A 2 ?_
  refine cK fun hq=>Uk r r r hq<|bD fun x_o8 hx_o8=>AiA (q:=x_o8) (q':=r7) (l:=x3.toList) (en:=ZU) (j:=x4.toNat) (z':=.agg [.int .u64 ((x3.set x4.toNat r7).a0),.int .u64 ((x3.set x4.toNat r7).a1),.int .u64 ((x3.set x4.toNat r7).a2),.int .u64 ((x3.set x4.toNat r7).a3),.int .u64 ((x3.set x4.toNat r7).a4),.int .u64 ((x3.set x4.toNat r7).a5),.int .u64 ((x3.set x4.toNat r7).a6),.int .u64 ((x3.set x4.toNat r7).a7)]) (by simp) r r r r r hx_o8 r r (congrArg (fun l=>D.agg (l.map ZU)) (Rl x3 x4.toNat r7).symm)<|?_
  exact B
 ·exact B

def AiG (b : (List Int)) : D:=.sl (b.map Pa)
noncomputable def Abh : Dw.Spec:=Pe [] .val Rz Ry (fun a=>Th a.1 a.2) AiG noE
theorem Adc : Pd Tryz.prog 112 Abh:=by
 refine fn2 2 (Pk (l:=[(128,UQ),(536705,Sx),(131,RH)]) (by simp [Wl,Aaq,SY])) Tryz.func112<|?_
 rintro ⟨a1,b2⟩
 unfold Th
 refine A 8 ?_
 refine bD fun r3 hr3=>?_
 refine A 2 ?_
 refine bD fun r4 hr4=>?_
 refine A 1 ?_
 refine bD fun r5 hr5=>cP (r3,r4) rfl rfl (show _ = some Sx from by kernel_rfl) US rfl rfl (by simp) r hr5<|?_
 exact B

def Amc (b : (List Int)) : D:=.sl (b.map Pa)
noncomputable def AgL : Dw.Spec:=Pe [] .val Wd Wc (fun a=>AbB a.1 a.2) Amc noE
theorem Alb : Pd Tryz.prog 126 AgL:=by
 refine fn2 2 (Pk (l:=[(84,ZV),(136,Adb),(138,AeN),(137,AgI),(112,Abh)]) (by simp [AbY,AgZ,AiH,AkT,Adc])) Tryz.func126<|?_
 intro a
 unfold AbB
 exact B

def AgY (b : Int) : D:=.int .u64 b
noncomputable def Acs : Dw.Spec:=Pe [] .ground Tj Ti (fun a=>VP a.1 a.2) AgY noE
theorem Agk : Pd Tryz.prog 132 Acs:=by
 refine fn2 2 (Pv) Tryz.func132<|?_
 intro a
 unfold VP
 exact B

def QH (a : OY × OY) : List D:=[PD a.1,PD a.2,.clo 132 []]
def QG (ds : List D) : OY × OY:=(Rh (ds.getD 0 .top),Rh (ds.getD 1 .top))
theorem UR (a : OY × OY) : QG (QH a) = a:=by simp [QG,QH]
instance : Px QH QG:=⟨UR⟩
def AaX (b : OY × OY × OY) : D:=PD b.1
def AaW (b : OY × OY × OY) : List D:=[PD b.2.1,PD b.2.2]
noncomputable def Sw : Dw.Spec:=Pe [(0,(8,160)),(1,(8,160))] (.ptr 8 160) QH QG (fun a=>Qx a.1 a.2) AaX AaW
theorem Aap : Pd Tryz.prog 129 Sw:=by
 refine fn2 3 (Pk (l:=[(132,Acs)]) (by simp [Agk])) Tryz.func129<|?_
 rintro ⟨s1,t2⟩
 unfold Qx
 refine A 19 ?_
 refine lP (E:=fun (s : OY × Int) (g : Nat)=>[(0,.optr 8192 0 0 0),(1,.optr 8193 1 0 0),(2,.clo 132 []),(7,.optr 10 g 0 0),(11,.int .i64 s.2)]) (O:=fun s g=>[(10,some (g,⟨false,true,8,160,[.agg [.int .u64 s.1.a0,.int .u64 s.1.a1,.int .u64 s.1.a2,.int .u64 s.1.a3,.int .u64 s.1.a4,.int .u64 s.1.a5,.int .u64 s.1.a6,.int .u64 s.1.a7]]⟩)),(8192,some (0,⟨false,true,8,160,[.agg [.int .u64 s1.a0,.int .u64 s1.a1,.int .u64 s1.a2,.int .u64 s1.a3,.int .u64 s1.a4,.int .u64 s1.a5,.int .u64 s1.a6,.int .u64 s1.a7]]⟩)),(8193,some (1,⟨false,true,8,160,[.agg [.int .u64 t2.a0,.int .u64 t2.a1,.int .u64 t2.a2,.int .u64 t2.a3,.int .u64 t2.a4,.int .u64 t2.a5,.int .u64 t2.a6,.int .u64 t2.a7]]⟩))]) (body:=fun s=>Ql s1 t2 s.1 s.2) (s:=((OY.mk 0 0 0 0 0 0 0 0),0)) _ ((hE ⟨rfl,r,r,r,r,trivial⟩ ⟨rfl,r,r,trivial⟩))<|?_
 rintro ⟨x3,x4⟩ v10x1 nn
 try dsimp only
 unfold Ql
 refine A 6 ?_
 refine cD r ?_ ?_
 ·refine A 17 ?_
  refine cK fun hq=>Uk r r r hq<|bD fun s_e5 hs_e5=>WL (q:=s_e5) (l:=s1.toList) (en:=ZU) (j:=x4.toNat) (by simp) r r r hs_e5 r (fun _=>r)<|?_
  refine A 3 ?_
  refine cK fun hq=>Uk r r r hq<|bD fun t_e6 ht_e6=>WL (q:=t_e6) (l:=t2.toList) (en:=ZU) (j:=x4.toNat) (by simp) r r r ht_e6 r (fun _=>r)<|bD fun r7 hr7=>?_
  refine A 2 ?_
  refine cK fun hq=>Uk r r r hq<|bD fun x_o8 hx_o8=>AiA (q:=x_o8) (q':=r7) (l:=x3.toList) (en:=ZU) (j:=x4.toNat) (z':=.agg [.int .u64 ((x3.set x4.toNat r7).a0),.int .u64 ((x3.set x4.toNat r7).a1),.int .u64 ((x3.set x4.toNat r7).a2),.int .u64 ((x3.set x4.toNat r7).a3),.int .u64 ((x3.set x4.toNat r7).a4),.int .u64 ((x3.set x4.toNat r7).a5),.int .u64 ((x3.set x4.toNat r7).a6),.int .u64 ((x3.set x4.toNat r7).a7)]) (by simp) r r r r r hx_o8 r r (congrArg (fun l=>D.agg (l.map ZU)) (Rl x3 x4.toNat r7).symm)<|?_
  exact B
 ·exact B

def AiF (b : (List Int)) : D:=.sl (b.map Pa)
noncomputable def AdS : Dw.Spec:=Pe [] .val Rz Ry (fun a=>VO a.1 a.2) AiF noE
theorem AhQ : Pd Tryz.prog 113 AdS:=by
 refine fn2 2 (Pk (l:=[(128,UQ),(544897,Sw),(131,RH)]) (by simp [Wl,Aap,SY])) Tryz.func113<|?_
 rintro ⟨a1,b2⟩
 unfold VO
 refine A 8 ?_
 refine bD fun r3 hr3=>?_
 refine A 2 ?_
 refine bD fun r4 hr4=>?_
 refine A 1 ?_
 refine bD fun r5 hr5=>cP (r3,r4) rfl rfl (show _ = some Sw from by kernel_rfl) UR rfl rfl (by simp) r hr5<|?_
 exact B

def QW (a : (List Int) × (List Int) × Pg × Int) : List D:=[.sl (a.1.map Pa),.sl (a.2.1.map Pa),.fptr (Qv a.2.2.1) 0,.fptr (.int .i64 a.2.2.2) 0]
def QV (ds : List D) : (List Int) × (List Int) × Pg × Int:=((uL uI) (ds.getD 0 .top),(uL uI) (ds.getD 1 .top),VN (fpD (ds.getD 2 .top)),uI (fpD (ds.getD 3 .top)))
theorem Abl (a : (List Int) × (List Int) × Pg × Int) : QV (QW a) = a:=by simp [QV,QW,uI,fpD,PV (u:=uI) (en:=Pa) (fun _=>rfl)]
instance : Px QW QV:=⟨Abl⟩
def AbE (b : Bool × (List Int)) : D:=.bool b.1
def AbD (b : Bool × (List Int)) : List D:=[.sl (b.2.map Pa)]
noncomputable def Wi : Dw.Spec:=Pe [(1,(1,30))] .val QW QV (fun a=>RU a.1 a.2.1 a.2.2.1 a.2.2.2) AbE AbD
theorem Abm : Pd Tryz.prog 111 Wi:=by
 refine fn2 4 (Pk (l:=[(113,AdS),(112,Abh)]) (by simp [AhQ,Adc])) Tryz.func111<|?_
 rintro ⟨need1,cap2,cap3,cap4⟩
 unfold RU
 refine A 12 ?_
 refine bD fun x_x5 hx_x5=>?_
 refine A 2 ?_
 refine bD fun r6 hr6=>?_
 refine A 1 ?_
 refine bD fun r7 hr7=>?_
 refine A 1 ?_
 refine Xi (i:=0) (es':=[.sl (r7.map Pa)]) r r r r r r r (by first | trivial | (simp; done) | (simp; omega)) r r r r r r<|?_
 exact B

def PS (a : OX × Int × Pg × (List Int) × Pg × Int) : List D:=[PN a.1,.int .i64 a.2.1,.clo 127 [.fptr (Qv a.2.2.1) 0],.clo 111 [.sl (a.2.2.2.1.map Pa),.fptr (Qv a.2.2.2.2.1) 0,.fptr (.int .i64 a.2.2.2.2.2) 0]]
def Qi (ds : List D) : OX × Int × Pg × (List Int) × Pg × Int:=(SI (ds.getD 0 .top),uI (ds.getD 1 .top),VN (fpD (Ahb (ds.getD 2 .top) 0)),(uL uI) (Ahb (ds.getD 3 .top) 0),VN (fpD (Ahb (ds.getD 3 .top) 1)),uI (fpD (Ahb (ds.getD 3 .top) 2)))
theorem Tm (a : OX × Int × Pg × (List Int) × Pg × Int) : Qi (PS a) = a:=by simp [Qi,PS,uI,fpD,Ahb,PV (u:=uI) (en:=Pa) (fun _=>rfl)]
instance : Px PS Qi:=⟨Tm⟩
def Yo (b : Bool × (List Int)) : D:=.bool b.1
def Yn (b : Bool × (List Int)) : List D:=[.sl (b.2.map Pa)]
noncomputable def Rs : Dw.Spec:=Pe [(256,(1,30))] .val PS Qi (fun a=>Qd a.1 a.2.1 a.2.2.1 a.2.2.2.1 a.2.2.2.2.1 a.2.2.2.2.2) Yo Yn
theorem XU : Pd Tryz.prog 109 Rs:=by
 refine fn2 4 (Pk (l:=[(125,AgN),(127,Aah),(126,AgL),(111,Wi)]) (by simp [Alf,AdJ,Alb,Abm])) Tryz.func109<|?_
 rintro ⟨f1,k2,set3,visit4,visit5,visit6⟩
 unfold Qd
 refine A 11 ?_
 refine bD fun r7 hr7=>?_
 refine A 6 ?_
 refine lP (E:=fun (s : (List Int) × Int) (g : Nat × Nat)=>[(2,.clo 127 [.fptr (.agg [.sl (set3.Out.map (eL Pa))]) 0]),(3,.clo 111 [.optr 8448 256 0 0,.fptr (.agg [.sl (visit5.Out.map (eL Pa))]) 0,.fptr (.int .i64 visit6) 0]),(4,.optr 4 g.1 0 0),(13,.osl 13 g.2 0 r7.length),(14,.int .i64 (r7.length : Int)),(15,.int .i64 s.2)]) (O:=fun s g=>[(4,some (g.1,⟨false,true,3,40,[.agg [.int .i64 f1.Params,.sl (f1.Slots.map Pn),.sl (f1.Code.map Pm)]]⟩)),(13,some (g.2,⟨false,false,1,3,r7.map Pa⟩)),(8448,some (256,⟨false,true,1,30,[.sl (s.1.map Pa)]⟩))]) (body:=fun s=>PJ r7 f1 set3 visit5 visit6 s.1 s.2) (s:=(visit4,0)) (_,_) ((hE ⟨rfl,r,r,r,r,r,trivial⟩ ⟨rfl,r,r,trivial⟩))<|?_
 rintro ⟨x8,x9⟩ ⟨v4x1,v13x1⟩ nn
 try dsimp only
 unfold PJ
 exact B

def AgC (b : Int × Int × Bool) : D:=.tup [.int .i64 b.1,.int .i64 b.2.1,.bool b.2.2]
noncomputable def Acb : Dw.Spec:=Pe [] .ground Qk Qj (fun a=>Vg a.1 a.2) AgC noE
theorem AfJ : Pd Tryz.prog 83 Acb:=by
 refine fn2 2 (Pk (l:=[(82,XV),(110,AcC),(1879572589,Rs)]) (by simp [Abc,AgE,XU])) Tryz.func83<|?_
 rintro ⟨f1,l2⟩
 unfold Vg
 refine A 8 ?_
 refine Vx (E:=[(2,.optr 2 _ 0 0),(3,.fptr (.agg [.sl (l2.Out.map (eL Pa))]) 0)]) (O:=[(2,some (_,⟨false,true,3,40,[.agg [.int .i64 f1.Params,.sl (f1.Slots.map Pn),.sl (f1.Code.map Pm)]]⟩))]) ((AeH (g:=3) r (by first | rfl | (simp [cells,frp,PA,PG]; done)) (hE ⟨(by first | rfl | (simp [Ps,frp]; done) | (simp [Ps,frp,PA]; done) | (simp [Ps,frp,PA,nbq]; done) | (simp [Ps,lkO,frp,PA,frO]; done) | (simp [Ps,lkO,frp,PA,frO]; rfl) | (simp [Ps,lkO,frp,PA,frO,nbq]; done)),(by first | rfl | (simp [Ps,frp]; done) | (simp [Ps,frp,PA]; done) | (simp [Ps,frp,PA,nbq]; done) | (simp [Ps,lkO,frp,PA,frO]; done) | (simp [Ps,lkO,frp,PA,frO]; rfl) | (simp [Ps,lkO,frp,PA,frO,nbq]; done)),trivial⟩ ⟨(by first | rfl | (simp [Ps,frp]; done) | (simp [Ps,frp,PA]; done) | (simp [Ps,frp,PA,nbq]; done) | (simp [Ps,lkO,frp,PA,frO]; done) | (simp [Ps,lkO,frp,PA,frO]; rfl) | (simp [Ps,lkO,frp,PA,frO,nbq]; done)),trivial⟩))) fun nn=>?_
 refine A 5 ?_
 refine bD fun r3 hr3=>?_
 refine A 4 ?_
 refine cD r ?_ ?_
 ·exact B
 ·refine A 12 ?_
  refine lP (E:=fun (s : Int) (g : Nat)=>[(2,.optr 2 g 0 0),(3,.fptr (.agg [.sl (l2.Out.map (eL Pa))]) 0),(15,.int .i64 (f1.Code.length : Int)),(16,.int .i64 s)]) (O:=fun _ g=>[(2,some (g,⟨false,true,3,40,[.agg [.int .i64 f1.Params,.sl (f1.Slots.map Pn),.sl (f1.Code.map Pm)]]⟩))]) (body:=fun s=>Vh f1 l2 s) (s:=0) _ ((hE ⟨rfl,r,r,r,trivial⟩ ⟨rfl,trivial⟩))<|?_
  rintro x4 v2x1 nn
  try dsimp only
  unfold Vh
  refine A 6 ?_
  refine cD r ?_ ?_
  ·refine A 10 ?_
   refine Vx (E:=[(2,.optr 2 _ 0 0),(3,.fptr (.agg [.sl (l2.Out.map (eL Pa))]) 0),(7,.fptr (.int .i64 x4) 0),(15,.int .i64 (f1.Code.length : Int)),(16,.int .i64 x4)]) (O:=[(2,some (_,⟨false,true,3,40,[.agg [.int .i64 f1.Params,.sl (f1.Slots.map Pn),.sl (f1.Code.map Pm)]]⟩))]) ((AeH (g:=7) r (by first | rfl | (simp [cells,frp,PA,PG]; done)) (hE ⟨(by first | rfl | (simp [Ps,frp]; done) | (simp [Ps,frp,PA]; done) | (simp [Ps,frp,PA,nbq]; done) | (simp [Ps,lkO,frp,PA,frO]; done) | (simp [Ps,lkO,frp,PA,frO]; rfl) | (simp [Ps,lkO,frp,PA,frO,nbq]; done)),(by first | rfl | (simp [Ps,frp]; done) | (simp [Ps,frp,PA]; done) | (simp [Ps,frp,PA,nbq]; done) | (simp [Ps,lkO,frp,PA,frO]; done) | (simp [Ps,lkO,frp,PA,frO]; rfl) | (simp [Ps,lkO,frp,PA,frO,nbq]; done)),(by first | rfl | (simp [Ps,frp]; done) | (simp [Ps,frp,PA]; done) | (simp [Ps,frp,PA,nbq]; done) | (simp [Ps,lkO,frp,PA,frO]; done) | (simp [Ps,lkO,frp,PA,frO]; rfl) | (simp [Ps,lkO,frp,PA,frO,nbq]; done)),(by first | rfl | (simp [Ps,frp]; done) | (simp [Ps,frp,PA]; done) | (simp [Ps,frp,PA,nbq]; done) | (simp [Ps,lkO,frp,PA,frO]; done) | (simp [Ps,lkO,frp,PA,frO]; rfl) | (simp [Ps,lkO,frp,PA,frO,nbq]; done)),(by first | rfl | (simp [Ps,frp]; done) | (simp [Ps,frp,PA]; done) | (simp [Ps,frp,PA,nbq]; done) | (simp [Ps,lkO,frp,PA,frO]; done) | (simp [Ps,lkO,frp,PA,frO]; rfl) | (simp [Ps,lkO,frp,PA,frO,nbq]; done)),trivial⟩ ⟨(by first | rfl | (simp [Ps,frp]; done) | (simp [Ps,frp,PA]; done) | (simp [Ps,frp,PA,nbq]; done) | (simp [Ps,lkO,frp,PA,frO]; done) | (simp [Ps,lkO,frp,PA,frO]; rfl) | (simp [Ps,lkO,frp,PA,frO,nbq]; done)),trivial⟩))) fun nn=>?_
   refine A 10 ?_
   refine bD fun r5 hr5=>?_
   refine A 1 ?_
   refine mF (caps:=[.optr 8 _ 0 0,.fptr (.agg [.sl (l2.Out.map (eL Pa))]) 0,.fptr (.int .i64 x4) 0]) r r (by simp [Acn])<|bD fun r6 hr6=>cV (f1,x4,r5,[],l2,x4) rfl rfl (show _ = some Rs from by kernel_rfl) Tm rfl rfl (by simp) (by first | rfl | (simp only [OV]; rfl) | (simp only [OW]; rfl) | (simp only [OV,OW]; rfl) | simp [PS,PN,Qv,Qv]) hr6<|?_
   exact B
  ·exact B

def AgB (b : Int) : D:=.int .i64 b
noncomputable def Aca : Dw.Spec:=Pe [] .ground Qk Qj (fun a=>Vf a.1 a.2) AgB noE
theorem AfI : Pd Tryz.prog 59 Aca:=by
 refine fn2 2 (Pk (l:=[(82,XV),(83,Acb)]) (by simp [Abc,AfJ])) Tryz.func59<|?_
 intro a
 unfold Vf
 exact B

def Ra (a : Pp × Pg) : List D:=[Tx a.1,Qv a.2]
def QZ (ds : List D) : Pp × Pg:=(TE (ds.getD 0 .top),VN (ds.getD 1 .top))
theorem AcW (a : Pp × Pg) : QZ (Ra a) = a:=by simp [QZ,Ra]
instance : Px Ra QZ:=⟨AcW⟩
def AdG (b : Int) : D:=.int .i64 b
noncomputable def Zq : Dw.Spec:=Pe [] .ground Ra QZ (fun a=>Rq a.1 a.2) AdG noE
theorem AcX : Pd Tryz.prog 34 Zq:=by
 refine fn2 2 (Pk (l:=[(42,Vr),(59,Aca)]) (by simp [Zg,AfI])) Tryz.func34<|?_
 intro a
 unfold Rq
 exact B

def AjU (b : Bool) : D:=.bool b
noncomputable def AeP : Dw.Spec:=Pe [] .ground Sq Sp (fun a=>Abu a.1 a.2) AjU noE
theorem AiK : Pd Tryz.prog 115 AeP:=by
 refine fn2 2 (Pv) Tryz.func115<|?_
 intro a
 unfold Abu
 exact B

def Ahi (b : Bool) : D:=.bool b
noncomputable def Acx : Dw.Spec:=Pe [] .ground Sq Sp (fun a=>VR a.1 a.2) Ahi noE
theorem AgA : Pd Tryz.prog 85 Acx:=by
 refine fn2 2 (Pk (l:=[(114,Abi),(115,AeP)]) (by simp [Adh,AiK])) Tryz.func85<|?_
 intro a
 unfold VR
 exact B

def Sf (a : Pp × Pg × Int) : List D:=[Tx a.1,Qv a.2.1,.int .i64 a.2.2]
def Se (ds : List D) : Pp × Pg × Int:=(TE (ds.getD 0 .top),VN (ds.getD 1 .top),uI (ds.getD 2 .top))
theorem AcS (a : Pp × Pg × Int) : Se (Sf a) = a:=by simp [Se,Sf,uI]
instance : Px Sf Se:=⟨AcS⟩
def AdE (b : Int × Bool) : D:=.tup [.int .i64 b.1,.bool b.2]
noncomputable def Zo : Dw.Spec:=Pe [] .ground Sf Se (fun a=>Sd a.1 a.2.1 a.2.2) AdE noE
theorem AcT : Pd Tryz.prog 60 Zo:=by
 refine fn2 3 (Pk (l:=[(84,ZV),(86,TU),(85,Acx)]) (by simp [AbY,WN,AgA])) Tryz.func60<|?_
 rintro ⟨s1,l2,k3⟩
 unfold Sd
 refine A 14 ?_
 refine bD fun x_x4 hx_x4=>?_
 refine A 9 ?_
 refine bD fun r5 hr5=>?_
 refine A 8 ?_
 refine sC (E:=fun (_s : Unit) (g : Nat × Nat)=>[(2,.int .i64 k3),(3,.optr 3 g.1 0 0),(4,.optr 4 g.2 0 0),(9,.int .i64 r5.1)]) (O:=fun _ g=>[(3,some (g.1,⟨false,true,9,78,[.agg [.sl (s1.p.Funcs.map PN),.int .i64 s1.i,.int .i64 s1.align,.int .i64 s1.f.Params,.sl (s1.f.Slots.map Pn),.sl (s1.f.Code.map Pm),.int .i64 s1.y.Args,.int .i64 s1.y.Size,.sl (s1.y.Off.map Pa)]]⟩)),(4,some (g.2,⟨false,true,1,29,[.agg [.sl (l2.Out.map (eL Pa))]]⟩))]) (j:=fun _=>QC l2 k3 r5 s1) ?_ ?_
 ·exact B
 ·rintro ⟨⟩ ⟨v3x1,v4x1⟩ nn
  try dsimp only
  unfold QC
  refine A 6 ?_
  refine bD fun x_x8 hx_x8=>?_
  refine A 7 ?_
  refine lP (E:=fun (s : Int) (g : Nat)=>[(3,.optr 3 g 0 0),(9,.int .i64 r5.1),(52,.sl (x_x8.map Pa)),(53,.int .i64 (x_x8.length : Int)),(54,.int .i64 s)]) (O:=fun _ g=>[(3,some (g,⟨false,true,9,78,[.agg [.sl (s1.p.Funcs.map PN),.int .i64 s1.i,.int .i64 s1.align,.int .i64 s1.f.Params,.sl (s1.f.Slots.map Pn),.sl (s1.f.Code.map Pm),.int .i64 s1.y.Args,.int .i64 s1.y.Size,.sl (s1.y.Off.map Pa)]]⟩))]) (body:=fun s=>SC x_x8 r5 s1 s) (s:=0) _ ((hE ⟨rfl,r,r,r,r,trivial⟩ ⟨rfl,trivial⟩))<|?_
  rintro x9 v3x2 nn
  try dsimp only
  unfold SC
  exact B

def AdF (b : Int × Int × Bool) : D:=.tup [.int .i64 b.1,.int .i64 b.2.1,.bool b.2.2]
noncomputable def Zp : Dw.Spec:=Pe [] .ground Ra QZ (fun a=>Rp a.1 a.2) AdF noE
theorem AcU : Pd Tryz.prog 35 Zp:=by
 refine fn2 2 (Pk (l:=[(60,Zo)]) (by simp [AcT])) Tryz.func35<|?_
 rintro ⟨s1,l2⟩
 unfold Rp
 refine A 20 ?_
 refine lP (E:=fun (s : Int) (g : Nat × Nat)=>[(2,.optr 2 g.1 0 0),(3,.optr 3 g.2 0 0),(13,.int .i64 (s1.f.Code.length : Int)),(14,.int .i64 s)]) (O:=fun _ g=>[(2,some (g.1,⟨false,true,9,78,[.agg [.sl (s1.p.Funcs.map PN),.int .i64 s1.i,.int .i64 s1.align,.int .i64 s1.f.Params,.sl (s1.f.Slots.map Pn),.sl (s1.f.Code.map Pm),.int .i64 s1.y.Args,.int .i64 s1.y.Size,.sl (s1.y.Off.map Pa)]]⟩)),(3,some (g.2,⟨false,true,1,29,[.agg [.sl (l2.Out.map (eL Pa))]]⟩))]) (body:=fun s=>SD s1 l2 s) (s:=0) (_,_) ((hE ⟨rfl,r,r,r,trivial⟩ ⟨rfl,r,trivial⟩))<|?_
 rintro x3 ⟨v2x1,v3x1⟩ nn
 try dsimp only
 unfold SD
 exact B

def Wo (a : Ph × Int × Int × Pg × Pf) : List D:=[Rv a.1,.int .i64 a.2.1,.int .i64 a.2.2.1,Qv a.2.2.2.1,Qh a.2.2.2.2]
def Wn (ds : List D) : Ph × Int × Int × Pg × Pf:=(Vy (ds.getD 0 .top),uI (ds.getD 1 .top),uI (ds.getD 2 .top),VN (ds.getD 3 .top),Aet (ds.getD 4 .top))
theorem AhY (a : Ph × Int × Int × Pg × Pf) : Wn (Wo a) = a:=by simp [Wn,Wo,uI]
instance : Px Wo Wn:=⟨AhY⟩
def AiS (b : Int) : D:=.int .i64 b
noncomputable def Aed : Dw.Spec:=Pe [] .ground Wo Wn (fun a=>VS a.1 a.2.1 a.2.2.1 a.2.2.2.1 a.2.2.2.2) AiS noE
theorem AhZ : Pd Tryz.prog 12 Aed:=by
 refine fn2 5 (Pk (l:=[(34,Zq),(35,Zp)]) (by simp [AcX,AcU])) Tryz.func12<|?_
 intro a
 unfold VS
 exact B

def Qu (a : (List Int)) : List D:=[.sl (a.map eU8)]
def Qt (ds : List D) : (List Int):=(uL uI) (ds.getD 0 .top)
theorem TY (a : (List Int)) : Qt (Qu a) = a:=by simp [Qt,Qu,PV (u:=uI) (en:=eU8) (fun _=>rfl)]
instance : Px Qu Qt:=⟨TY⟩
def ZX (b : Bool) : D:=.bool b
noncomputable def ZY : Dw.Spec:=Pe [] .ground Qu Qt (fun a=>Qn a) ZX noE
theorem Zl : Pd Tryz.prog 5 ZY:=by
 refine fn2 1 (Pk (l:=[(8,AeQ),(9,AeR),(12,Aed),(17,WT)]) (by simp [AiQ,AiR,AhZ,YB])) Tryz.func5<|?_
 intro codes1
 unfold Qn
 refine A 8 ?_
 refine bD fun r2 hr2=>?_
 refine A 4 ?_
 refine cD r ?_ ?_
 ·exact B
 ·refine A 5 ?_
  refine bD fun r3 hr3=>Aiz (rs:=[Rv r3.1,.int .i64 r3.2.1,.int .i64 r3.2.2.1,Qv r3.2.2.2.1,Qh r3.2.2.2.2.1,Pz r3.2.2.2.2.2]) (z:=Pz r3.2.2.2.2.2) codes1 r r r Aec r r (by simp) r hr3 r r<|?_
  exact B

end Go.Proofs.YtnldnldmgceooaaGreatDoor
