/-
  Programs on typed data, and the proofs that the code does what they say; written by a program (dx.py).
-/
import Derived.Test.YtnldnldmgceooaaGreatDoorProg
import Derived.Test.YtnldnldmgceooaaGreatDoorDd
import Derived.KernelRfl
import Derived.Test.YtnldnldmgceooaaGreatDoorSh
import Derived.Test.YtnldnldmgceooaaGreatDoorDxP
import Derived.Test.YtnldnldmgceooaaGreatDoorDxF1
import Derived.Test.YtnldnldmgceooaaGreatDoorDxF2
import Derived.Test.YtnldnldmgceooaaGreatDoorDxF3
import Derived.Test.YtnldnldmgceooaaGreatDoorDxF4
namespace Go.Proofs.YtnldnldmgceooaaGreatDoor
open Go Go.Dw Go.Proofs
set_option maxRecDepth 100000
set_option maxHeartbeats 4000000
open Go.Dw renaming QU → bD,PN → cK,AcW → bS,AcY → cV,Acy → cD,Aah → hE,AcX → cP,Aez → lP,AaZ → sC,AmM → mF,rf → r
def SE (a : OY) : List D:=[PD a]
def SD (ds : List D) : OY:=Rh (ds.getD 0 .top)
theorem Aea (a : OY) : SD (SE a) = a:=by simp [SD,SE]
instance : Px SE SD:=⟨Aea⟩
def AeB (b : (List Int) × OY) : D:=.sl (b.1.map OZ)
def AeA (b : (List Int) × OY) : List D:=[PD b.2]
noncomputable def RJ : Dw.Spec:=Pf [(0,(8,160))] (.row 1 3) SE SD (fun a=>Qq a) AeB AeA
theorem Td : Pd Tryz.prog 131 RJ:=by
 refine fn2 1 (Pk (l:=[(140,AlY)]) (by simp [ApP])) Tryz.func131<|?_
 intro s1
 unfold Qq
 refine A 18 ?_
 refine lP (E:=fun (s : (List Int) × Int) (g : Nat)=>[(3,.osl 3 g 0 s.1.length),(6,.optr 8192 0 0 0),(7,.int .i64 s.2)]) (O:=fun s g=>[(3,some (g,⟨false,false,1,3,s.1.map OZ⟩)),(8192,some (0,⟨false,true,8,160,[.agg [.int .u64 s1.a0,.int .u64 s1.a1,.int .u64 s1.a2,.int .u64 s1.a3,.int .u64 s1.a4,.int .u64 s1.a5,.int .u64 s1.a6,.int .u64 s1.a7]]⟩))]) (body:=fun s=>Tb s1 s.1 s.2) (s:=(([] : List Int),0)) _ ((hE ⟨rfl,r,r,trivial⟩ ⟨rfl,r,trivial⟩))<|?_
 rintro ⟨l2,x3⟩ v3x1 nn
 try dsimp only
 unfold Tb
 refine A 6 ?_
 refine cD r ?_ ?_
 ·refine A 8 ?_
  refine cK fun hq=>Uo r r r hq<|bD fun s_e4 hs_e4=>WQ (q:=s_e4) (l:=s1.toList) (en:=Aax) (j:=x3.toNat) (by simp) r r r hs_e4 r (fun _=>r)<|?_
  refine A 5 ?_
  refine lP (E:=fun (s : (List Int) × Int) (g : Nat)=>[(3,.osl 3 g 0 s.1.length),(4,.int .i64 x3),(5,.int .u64 s.2),(6,.optr 8192 0 0 0),(7,.int .i64 x3)]) (O:=fun s g=>[(3,some (g,⟨false,false,1,3,s.1.map OZ⟩)),(8192,some (0,⟨false,true,8,160,[.agg [.int .u64 s1.a0,.int .u64 s1.a1,.int .u64 s1.a2,.int .u64 s1.a3,.int .u64 s1.a4,.int .u64 s1.a5,.int .u64 s1.a6,.int .u64 s1.a7]]⟩))]) (body:=fun s=>Tc x3 s.1 s.2) (s:=(l2,s_e4)) _ ((hE ⟨rfl,r,r,r,r,trivial⟩ ⟨rfl,r,trivial⟩))<|?_
  rintro ⟨l5,x6⟩ v3x2 nn
  try dsimp only
  unfold Tc
  exact B
 ·exact B

def Aiy (b : (List Int)) : D:=.sl (b.map OZ)
noncomputable def AdE : Dw.Spec:=Pf [] .val Re Rc (fun a=>UZ a.1 a.2) Aiy noE
theorem AhO : Pd Tryz.prog 136 AdE:=by
 refine fn2 2 (Pk (l:=[(128,Vi),(139,WC),(131,RJ)]) (by simp [WB,AaB,Td])) Tryz.func136<|?_
 intro a
 unfold UZ
 exact B

def AkA (b : (List Int)) : D:=.sl (b.map OZ)
noncomputable def Afw : Dw.Spec:=Pf [] (.row 1 3) Qs Qr (fun a=>Xm a) AkA noE
theorem Ajp : Pd Tryz.prog 138 Afw:=by
 refine fn2 1 (Pv) Tryz.func138<|?_
 intro a
 unfold Xm
 exact B

def AmL (b : (List Int)) : D:=.sl (b.map OZ)
noncomputable def Ahz : Dw.Spec:=Pf [] (.row 1 3) So Sn (fun a=>Ye a) AmL noE
theorem AlL : Pd Tryz.prog 137 Ahz:=by
 refine fn2 1 (Pk (l:=[(128,Vi),(131,RJ)]) (by simp [WB,Td])) Tryz.func137<|?_
 intro a
 unfold Ye
 exact B

def Tn (a : Int × Int) : List D:=[.int .u64 a.1,.int .u64 a.2]
def Tm (ds : List D) : Int × Int:=(uI (ds.getD 0 .top),uI (ds.getD 1 .top))
theorem AgY (a : Int × Int) : Tm (Tn a) = a:=by simp [Tm,Tn,uI]
instance : Px Tn Tm:=⟨AgY⟩
def AhP (b : Int) : D:=.int .u64 b
noncomputable def Adc : Dw.Spec:=Pf [] .ground Tn Tm (fun a=>We a.1 a.2) AhP noE
theorem AgZ : Pd Tryz.prog 130 Adc:=by
 refine fn2 2 (Pv) Tryz.func130<|?_
 intro a
 unfold We
 exact B

def QJ (a : OY × OY) : List D:=[PD a.1,PD a.2,.clo 130 []]
def QI (ds : List D) : OY × OY:=(Rh (ds.getD 0 .top),Rh (ds.getD 1 .top))
theorem Vk (a : OY × OY) : QI (QJ a) = a:=by simp [QI,QJ]
instance : Px QJ QI:=⟨Vk⟩
def AbE (b : OY × OY × OY) : D:=PD b.1
def AbC (b : OY × OY × OY) : List D:=[PD b.2.1,PD b.2.2]
noncomputable def SC : Dw.Spec:=Pf [(0,(8,160)),(1,(8,160))] (.ptr 8 160) QJ QI (fun a=>Qx a.1 a.2) AbE AbC
theorem AaP : Pd Tryz.prog 129 SC:=by
 refine fn2 3 (Pk (l:=[(130,Adc)]) (by simp [AgZ])) Tryz.func129<|?_
 rintro ⟨s1,t2⟩
 unfold Qx
 refine A 19 ?_
 refine lP (E:=fun (s : OY × Int) (g : Nat)=>[(0,.optr 8192 0 0 0),(1,.optr 8193 1 0 0),(2,.clo 130 []),(7,.optr 10 g 0 0),(11,.int .i64 s.2)]) (O:=fun s g=>[(10,some (g,⟨false,true,8,160,[.agg [.int .u64 s.1.a0,.int .u64 s.1.a1,.int .u64 s.1.a2,.int .u64 s.1.a3,.int .u64 s.1.a4,.int .u64 s.1.a5,.int .u64 s.1.a6,.int .u64 s.1.a7]]⟩)),(8192,some (0,⟨false,true,8,160,[.agg [.int .u64 s1.a0,.int .u64 s1.a1,.int .u64 s1.a2,.int .u64 s1.a3,.int .u64 s1.a4,.int .u64 s1.a5,.int .u64 s1.a6,.int .u64 s1.a7]]⟩)),(8193,some (1,⟨false,true,8,160,[.agg [.int .u64 t2.a0,.int .u64 t2.a1,.int .u64 t2.a2,.int .u64 t2.a3,.int .u64 t2.a4,.int .u64 t2.a5,.int .u64 t2.a6,.int .u64 t2.a7]]⟩))]) (body:=fun s=>Qn s1 t2 s.1 s.2) (s:=((OY.mk 0 0 0 0 0 0 0 0),0)) _ ((hE ⟨rfl,r,r,r,r,trivial⟩ ⟨rfl,r,r,trivial⟩))<|?_
 rintro ⟨x3,x4⟩ v10x1 nn
 try dsimp only
 unfold Qn
 refine A 6 ?_
 refine cD r ?_ ?_
 ·refine A 17 ?_
  refine cK fun hq=>Uo r r r hq<|bD fun s_e5 hs_e5=>WQ (q:=s_e5) (l:=s1.toList) (en:=Aax) (j:=x4.toNat) (by simp) r r r hs_e5 r (fun _=>r)<|?_
  refine A 3 ?_
  refine cK fun hq=>Uo r r r hq<|bD fun t_e6 ht_e6=>WQ (q:=t_e6) (l:=t2.toList) (en:=Aax) (j:=x4.toNat) (by simp) r r r ht_e6 r (fun _=>r)<|bD fun r7 hr7=>?_
  refine A 2 ?_
  refine cK fun hq=>Uo r r r hq<|bD fun x_o8 hx_o8=>AiD (q:=x_o8) (q':=r7) (l:=x3.toList) (en:=Aax) (j:=x4.toNat) (z':=.agg [.int .u64 ((x3.set x4.toNat r7).a0),.int .u64 ((x3.set x4.toNat r7).a1),.int .u64 ((x3.set x4.toNat r7).a2),.int .u64 ((x3.set x4.toNat r7).a3),.int .u64 ((x3.set x4.toNat r7).a4),.int .u64 ((x3.set x4.toNat r7).a5),.int .u64 ((x3.set x4.toNat r7).a6),.int .u64 ((x3.set x4.toNat r7).a7)]) (by simp) r r r r r hx_o8 r r (congrArg (fun l=>D.agg (l.map Aax)) (Rl x3 x4.toNat r7).symm)<|?_
  exact B
 ·exact B

def Ajo (b : (List Int)) : D:=.sl (b.map OZ)
noncomputable def AbK : Dw.Spec:=Pf [] .val Rz Ry (fun a=>Tl a.1 a.2) Ajo noE
theorem AdF : Pd Tryz.prog 112 AbK:=by
 refine fn2 2 (Pk (l:=[(128,Vi),(536705,SC),(131,RJ)]) (by simp [WB,AaP,Td])) Tryz.func112<|?_
 rintro ⟨a1,b2⟩
 unfold Tl
 refine A 8 ?_
 refine bD fun r3 hr3=>?_
 refine A 2 ?_
 refine bD fun r4 hr4=>?_
 refine A 1 ?_
 refine bD fun r5 hr5=>cP (r3,r4) rfl rfl (show _ = some SC from by kernel_rfl) Vk rfl rfl (by simp) r hr5<|?_
 exact B

def AmS (b : (List Int)) : D:=.sl (b.map OZ)
noncomputable def AhC : Dw.Spec:=Pf [] .val Ws Wq (fun a=>Ach a.1 a.2) AmS noE
theorem AlR : Pd Tryz.prog 126 AhC:=by
 refine fn2 2 (Pk (l:=[(84,Aay),(136,AdE),(138,Afw),(137,Ahz),(112,AbK)]) (by simp [AcH,AhO,Ajp,AlL,AdF])) Tryz.func126<|?_
 intro a
 unfold Ach
 exact B

def AhN (b : Int) : D:=.int .u64 b
noncomputable def Adb : Dw.Spec:=Pf [] .ground Tn Tm (fun a=>Wd a.1 a.2) AhN noE
theorem AgX : Pd Tryz.prog 132 Adb:=by
 refine fn2 2 (Pv) Tryz.func132<|?_
 intro a
 unfold Wd
 exact B

def QH (a : OY × OY) : List D:=[PD a.1,PD a.2,.clo 132 []]
def QG (ds : List D) : OY × OY:=(Rh (ds.getD 0 .top),Rh (ds.getD 1 .top))
theorem Vj (a : OY × OY) : QG (QH a) = a:=by simp [QG,QH]
instance : Px QH QG:=⟨Vj⟩
def AbA (b : OY × OY × OY) : D:=PD b.1
def Abz (b : OY × OY × OY) : List D:=[PD b.2.1,PD b.2.2]
noncomputable def SB : Dw.Spec:=Pf [(0,(8,160)),(1,(8,160))] (.ptr 8 160) QH QG (fun a=>Qw a.1 a.2) AbA Abz
theorem AaO : Pd Tryz.prog 129 SB:=by
 refine fn2 3 (Pk (l:=[(132,Adb)]) (by simp [AgX])) Tryz.func129<|?_
 rintro ⟨s1,t2⟩
 unfold Qw
 refine A 19 ?_
 refine lP (E:=fun (s : OY × Int) (g : Nat)=>[(0,.optr 8192 0 0 0),(1,.optr 8193 1 0 0),(2,.clo 132 []),(7,.optr 10 g 0 0),(11,.int .i64 s.2)]) (O:=fun s g=>[(10,some (g,⟨false,true,8,160,[.agg [.int .u64 s.1.a0,.int .u64 s.1.a1,.int .u64 s.1.a2,.int .u64 s.1.a3,.int .u64 s.1.a4,.int .u64 s.1.a5,.int .u64 s.1.a6,.int .u64 s.1.a7]]⟩)),(8192,some (0,⟨false,true,8,160,[.agg [.int .u64 s1.a0,.int .u64 s1.a1,.int .u64 s1.a2,.int .u64 s1.a3,.int .u64 s1.a4,.int .u64 s1.a5,.int .u64 s1.a6,.int .u64 s1.a7]]⟩)),(8193,some (1,⟨false,true,8,160,[.agg [.int .u64 t2.a0,.int .u64 t2.a1,.int .u64 t2.a2,.int .u64 t2.a3,.int .u64 t2.a4,.int .u64 t2.a5,.int .u64 t2.a6,.int .u64 t2.a7]]⟩))]) (body:=fun s=>Qm s1 t2 s.1 s.2) (s:=((OY.mk 0 0 0 0 0 0 0 0),0)) _ ((hE ⟨rfl,r,r,r,r,trivial⟩ ⟨rfl,r,r,trivial⟩))<|?_
 rintro ⟨x3,x4⟩ v10x1 nn
 try dsimp only
 unfold Qm
 refine A 6 ?_
 refine cD r ?_ ?_
 ·refine A 17 ?_
  refine cK fun hq=>Uo r r r hq<|bD fun s_e5 hs_e5=>WQ (q:=s_e5) (l:=s1.toList) (en:=Aax) (j:=x4.toNat) (by simp) r r r hs_e5 r (fun _=>r)<|?_
  refine A 3 ?_
  refine cK fun hq=>Uo r r r hq<|bD fun t_e6 ht_e6=>WQ (q:=t_e6) (l:=t2.toList) (en:=Aax) (j:=x4.toNat) (by simp) r r r ht_e6 r (fun _=>r)<|bD fun r7 hr7=>?_
  refine A 2 ?_
  refine cK fun hq=>Uo r r r hq<|bD fun x_o8 hx_o8=>AiD (q:=x_o8) (q':=r7) (l:=x3.toList) (en:=Aax) (j:=x4.toNat) (z':=.agg [.int .u64 ((x3.set x4.toNat r7).a0),.int .u64 ((x3.set x4.toNat r7).a1),.int .u64 ((x3.set x4.toNat r7).a2),.int .u64 ((x3.set x4.toNat r7).a3),.int .u64 ((x3.set x4.toNat r7).a4),.int .u64 ((x3.set x4.toNat r7).a5),.int .u64 ((x3.set x4.toNat r7).a6),.int .u64 ((x3.set x4.toNat r7).a7)]) (by simp) r r r r r hx_o8 r r (congrArg (fun l=>D.agg (l.map Aax)) (Rl x3 x4.toNat r7).symm)<|?_
  exact B
 ·exact B

def Ajn (b : (List Int)) : D:=.sl (b.map OZ)
noncomputable def Aex : Dw.Spec:=Pf [] .val Rz Ry (fun a=>Wc a.1 a.2) Ajn noE
theorem Aix : Pd Tryz.prog 113 Aex:=by
 refine fn2 2 (Pk (l:=[(128,Vi),(544897,SB),(131,RJ)]) (by simp [WB,AaO,Td])) Tryz.func113<|?_
 rintro ⟨a1,b2⟩
 unfold Wc
 refine A 8 ?_
 refine bD fun r3 hr3=>?_
 refine A 2 ?_
 refine bD fun r4 hr4=>?_
 refine A 1 ?_
 refine bD fun r5 hr5=>cP (r3,r4) rfl rfl (show _ = some SB from by kernel_rfl) Vj rfl rfl (by simp) r hr5<|?_
 exact B

def QW (a : (List Int) × (List Int) × Pg × Int) : List D:=[.sl (a.1.map OZ),.sl (a.2.1.map OZ),.fptr (Qi a.2.2.1) 0,.fptr (.int .i64 a.2.2.2) 0]
def QV (ds : List D) : (List Int) × (List Int) × Pg × Int:=((uL uI) (ds.getD 0 .top),(uL uI) (ds.getD 1 .top),UW (fpD (ds.getD 2 .top)),uI (fpD (ds.getD 3 .top)))
theorem AbO (a : (List Int) × (List Int) × Pg × Int) : QV (QW a) = a:=by simp [QV,QW,uI,fpD,PV (u:=uI) (en:=OZ) (fun _=>rfl)]
instance : Px QW QV:=⟨AbO⟩
def Ack (b : Bool × (List Int)) : D:=.bool b.1
def Acj (b : Bool × (List Int)) : List D:=[.sl (b.2.map OZ)]
noncomputable def Wy : Dw.Spec:=Pf [(1,(1,30))] .val QW QV (fun a=>RW a.1 a.2.1 a.2.2.1 a.2.2.2) Ack Acj
theorem AbP : Pd Tryz.prog 111 Wy:=by
 refine fn2 4 (Pk (l:=[(113,Aex),(112,AbK)]) (by simp [Aix,AdF])) Tryz.func111<|?_
 rintro ⟨need1,cap2,cap3,cap4⟩
 unfold RW
 refine A 12 ?_
 refine bD fun x_x5 hx_x5=>?_
 refine A 2 ?_
 refine bD fun r6 hr6=>?_
 refine A 1 ?_
 refine bD fun r7 hr7=>?_
 refine A 1 ?_
 refine Xl (i:=0) (es':=[.sl (r7.map OZ)]) r r r r r r r (by first | trivial | (simp; done) | (simp; omega)) r r r r r r<|?_
 exact B

def PT (a : OX × Int × Pg × (List Int) × Pg × Int) : List D:=[PI a.1,.int .i64 a.2.1,.clo 127 [.fptr (Qi a.2.2.1) 0],.clo 111 [.sl (a.2.2.2.1.map OZ),.fptr (Qi a.2.2.2.2.1) 0,.fptr (.int .i64 a.2.2.2.2.2) 0]]
def Qj (ds : List D) : OX × Int × Pg × (List Int) × Pg × Int:=(Ss (ds.getD 0 .top),uI (ds.getD 1 .top),UW (fpD (Ahg (ds.getD 2 .top) 0)),(uL uI) (Ahg (ds.getD 3 .top) 0),UW (fpD (Ahg (ds.getD 3 .top) 1)),uI (fpD (Ahg (ds.getD 3 .top) 2)))
theorem Ts (a : OX × Int × Pg × (List Int) × Pg × Int) : Qj (PT a) = a:=by simp [Qj,PT,uI,fpD,Ahg,PV (u:=uI) (en:=OZ) (fun _=>rfl)]
instance : Px PT Qj:=⟨Ts⟩
def YF (b : Bool × (List Int)) : D:=.bool b.1
def YE (b : Bool × (List Int)) : List D:=[.sl (b.2.map OZ)]
noncomputable def Rs : Dw.Spec:=Pf [(256,(1,30))] .val PT Qj (fun a=>Qe a.1 a.2.1 a.2.2.1 a.2.2.2.1 a.2.2.2.2.1 a.2.2.2.2.2) YF YE
theorem Ym : Pd Tryz.prog 109 Rs:=by
 refine fn2 4 (Pk (l:=[(125,AhE),(127,AaG),(126,AhC),(111,Wy)]) (by simp [AlX,Aen,AlR,AbP])) Tryz.func109<|?_
 rintro ⟨f1,k2,set3,visit4,visit5,visit6⟩
 unfold Qe
 refine A 11 ?_
 refine bD fun r7 hr7=>?_
 refine A 6 ?_
 refine lP (E:=fun (s : (List Int) × Int) (g : Nat × Nat)=>[(2,.clo 127 [.fptr (.agg [.sl (set3.Out.map (eL OZ))]) 0]),(3,.clo 111 [.optr 8448 256 0 0,.fptr (.agg [.sl (visit5.Out.map (eL OZ))]) 0,.fptr (.int .i64 visit6) 0]),(4,.optr 4 g.1 0 0),(13,.osl 13 g.2 0 r7.length),(14,.int .i64 (r7.length : Int)),(15,.int .i64 s.2)]) (O:=fun s g=>[(4,some (g.1,⟨false,true,3,40,[.agg [.int .i64 f1.Params,.sl (f1.Slots.map Pn),.sl (f1.Code.map Pm)]]⟩)),(13,some (g.2,⟨false,false,1,3,r7.map OZ⟩)),(8448,some (256,⟨false,true,1,30,[.sl (s.1.map OZ)]⟩))]) (body:=fun s=>PL r7 f1 set3 visit5 visit6 s.1 s.2) (s:=(visit4,0)) (_,_) ((hE ⟨rfl,r,r,r,r,r,trivial⟩ ⟨rfl,r,r,trivial⟩))<|?_
 rintro ⟨x8,x9⟩ ⟨v4x1,v13x1⟩ nn
 try dsimp only
 unfold PL
 exact B

def Ahu (b : Int × Int × Bool) : D:=.tup [.int .i64 b.1,.int .i64 b.2.1,.bool b.2.2]
noncomputable def AcK : Dw.Spec:=Pf [] .ground Ql Qk (fun a=>Vw a.1 a.2) Ahu noE
theorem Agu : Pd Tryz.prog 83 AcK:=by
 refine fn2 2 (Pk (l:=[(82,Yn),(110,Adm),(1879572589,Rs)]) (by simp [AbH,Ahw,Ym])) Tryz.func83<|?_
 rintro ⟨f1,l2⟩
 unfold Vw
 refine A 8 ?_
 refine VC (E:=[(2,.optr 2 _ 0 0),(3,.fptr (.agg [.sl (l2.Out.map (eL OZ))]) 0)]) (O:=[(2,some (_,⟨false,true,3,40,[.agg [.int .i64 f1.Params,.sl (f1.Slots.map Pn),.sl (f1.Code.map Pm)]]⟩))]) ((AeN (g:=3) r (by first | rfl | (simp [cells,frp,PA,PG]; done)) (hE ⟨(by first | rfl | (simp [Ps,frp]; done) | (simp [Ps,frp,PA]; done) | (simp [Ps,frp,PA,nbq]; done) | (simp [Ps,lkO,frp,PA,frO]; done) | (simp [Ps,lkO,frp,PA,frO]; rfl) | (simp [Ps,lkO,frp,PA,frO,nbq]; done)),(by first | rfl | (simp [Ps,frp]; done) | (simp [Ps,frp,PA]; done) | (simp [Ps,frp,PA,nbq]; done) | (simp [Ps,lkO,frp,PA,frO]; done) | (simp [Ps,lkO,frp,PA,frO]; rfl) | (simp [Ps,lkO,frp,PA,frO,nbq]; done)),trivial⟩ ⟨(by first | rfl | (simp [Ps,frp]; done) | (simp [Ps,frp,PA]; done) | (simp [Ps,frp,PA,nbq]; done) | (simp [Ps,lkO,frp,PA,frO]; done) | (simp [Ps,lkO,frp,PA,frO]; rfl) | (simp [Ps,lkO,frp,PA,frO,nbq]; done)),trivial⟩))) fun nn=>?_
 refine A 5 ?_
 refine bD fun r3 hr3=>?_
 refine A 4 ?_
 refine cD r ?_ ?_
 ·exact B
 ·refine A 12 ?_
  refine lP (E:=fun (s : Int) (g : Nat)=>[(2,.optr 2 g 0 0),(3,.fptr (.agg [.sl (l2.Out.map (eL OZ))]) 0),(15,.int .i64 (f1.Code.length : Int)),(16,.int .i64 s)]) (O:=fun _ g=>[(2,some (g,⟨false,true,3,40,[.agg [.int .i64 f1.Params,.sl (f1.Slots.map Pn),.sl (f1.Code.map Pm)]]⟩))]) (body:=fun s=>Vx f1 l2 s) (s:=0) _ ((hE ⟨rfl,r,r,r,trivial⟩ ⟨rfl,trivial⟩))<|?_
  rintro x4 v2x1 nn
  try dsimp only
  unfold Vx
  refine A 6 ?_
  refine cD r ?_ ?_
  ·refine A 10 ?_
   refine VC (E:=[(2,.optr 2 _ 0 0),(3,.fptr (.agg [.sl (l2.Out.map (eL OZ))]) 0),(7,.fptr (.int .i64 x4) 0),(15,.int .i64 (f1.Code.length : Int)),(16,.int .i64 x4)]) (O:=[(2,some (_,⟨false,true,3,40,[.agg [.int .i64 f1.Params,.sl (f1.Slots.map Pn),.sl (f1.Code.map Pm)]]⟩))]) ((AeN (g:=7) r (by first | rfl | (simp [cells,frp,PA,PG]; done)) (hE ⟨(by first | rfl | (simp [Ps,frp]; done) | (simp [Ps,frp,PA]; done) | (simp [Ps,frp,PA,nbq]; done) | (simp [Ps,lkO,frp,PA,frO]; done) | (simp [Ps,lkO,frp,PA,frO]; rfl) | (simp [Ps,lkO,frp,PA,frO,nbq]; done)),(by first | rfl | (simp [Ps,frp]; done) | (simp [Ps,frp,PA]; done) | (simp [Ps,frp,PA,nbq]; done) | (simp [Ps,lkO,frp,PA,frO]; done) | (simp [Ps,lkO,frp,PA,frO]; rfl) | (simp [Ps,lkO,frp,PA,frO,nbq]; done)),(by first | rfl | (simp [Ps,frp]; done) | (simp [Ps,frp,PA]; done) | (simp [Ps,frp,PA,nbq]; done) | (simp [Ps,lkO,frp,PA,frO]; done) | (simp [Ps,lkO,frp,PA,frO]; rfl) | (simp [Ps,lkO,frp,PA,frO,nbq]; done)),(by first | rfl | (simp [Ps,frp]; done) | (simp [Ps,frp,PA]; done) | (simp [Ps,frp,PA,nbq]; done) | (simp [Ps,lkO,frp,PA,frO]; done) | (simp [Ps,lkO,frp,PA,frO]; rfl) | (simp [Ps,lkO,frp,PA,frO,nbq]; done)),(by first | rfl | (simp [Ps,frp]; done) | (simp [Ps,frp,PA]; done) | (simp [Ps,frp,PA,nbq]; done) | (simp [Ps,lkO,frp,PA,frO]; done) | (simp [Ps,lkO,frp,PA,frO]; rfl) | (simp [Ps,lkO,frp,PA,frO,nbq]; done)),trivial⟩ ⟨(by first | rfl | (simp [Ps,frp]; done) | (simp [Ps,frp,PA]; done) | (simp [Ps,frp,PA,nbq]; done) | (simp [Ps,lkO,frp,PA,frO]; done) | (simp [Ps,lkO,frp,PA,frO]; rfl) | (simp [Ps,lkO,frp,PA,frO,nbq]; done)),trivial⟩))) fun nn=>?_
   refine A 10 ?_
   refine bD fun r5 hr5=>?_
   refine A 1 ?_
   refine mF (caps:=[.optr 8 _ 0 0,.fptr (.agg [.sl (l2.Out.map (eL OZ))]) 0,.fptr (.int .i64 x4) 0]) r r (by simp [Acx])<|bD fun r6 hr6=>cV (f1,x4,r5,[],l2,x4) rfl rfl (show _ = some Rs from by kernel_rfl) Ts rfl rfl (by simp) (by first | rfl | (simp only [OV]; rfl) | (simp only [OW]; rfl) | (simp only [OV,OW]; rfl) | simp [PT,PI,Qi,Qi]) hr6<|?_
   exact B
  ·exact B

def Ahs (b : Int) : D:=.int .i64 b
noncomputable def AcJ : Dw.Spec:=Pf [] .ground Ql Qk (fun a=>Vv a.1 a.2) Ahs noE
theorem Agt : Pd Tryz.prog 59 AcJ:=by
 refine fn2 2 (Pk (l:=[(82,Yn),(83,AcK)]) (by simp [AbH,Agu])) Tryz.func59<|?_
 intro a
 unfold Vv
 exact B

def Ra (a : Pr × Pg) : List D:=[TB a.1,Qi a.2]
def QZ (ds : List D) : Pr × Pg:=(TL (ds.getD 0 .top),UW (ds.getD 1 .top))
theorem Adz (a : Pr × Pg) : QZ (Ra a) = a:=by simp [QZ,Ra]
instance : Px Ra QZ:=⟨Adz⟩
def Aek (b : Int) : D:=.int .i64 b
noncomputable def VI : Dw.Spec:=Pf [] .ground Ra QZ (fun a=>Rq a.1 a.2) Aek noE
theorem ZC : Pd Tryz.prog 34 VI:=by
 refine fn2 2 (Pk (l:=[(42,VJ),(59,AcJ)]) (by simp [ZD,Agt])) Tryz.func34<|?_
 intro a
 unfold Rq
 exact B

def AkB (b : Bool) : D:=.bool b
noncomputable def Afy : Dw.Spec:=Pf [] .ground Sv Su (fun a=>Aca a.1 a.2) AkB noE
theorem Ajs : Pd Tryz.prog 115 Afy:=by
 refine fn2 2 (Pv) Tryz.func115<|?_
 intro a
 unfold Aca
 exact B

def AhV (b : Bool) : D:=.bool b
noncomputable def Adh : Dw.Spec:=Pf [] .ground Sv Su (fun a=>Wf a.1 a.2) AhV noE
theorem Ahr : Pd Tryz.prog 85 Adh:=by
 refine fn2 2 (Pk (l:=[(114,AbL),(115,Afy)]) (by simp [AdJ,Ajs])) Tryz.func85<|?_
 intro a
 unfold Wf
 exact B

def Si (a : Pr × Pg × Int) : List D:=[TB a.1,Qi a.2.1,.int .i64 a.2.2]
def Sh (ds : List D) : Pr × Pg × Int:=(TL (ds.getD 0 .top),UW (ds.getD 1 .top),uI (ds.getD 2 .top))
theorem Adw (a : Pr × Pg × Int) : Sh (Si a) = a:=by simp [Sh,Si,uI]
instance : Px Si Sh:=⟨Adw⟩
def Aei (b : Int × Bool) : D:=.tup [.int .i64 b.1,.bool b.2]
noncomputable def ZL : Dw.Spec:=Pf [] .ground Si Sh (fun a=>Sg a.1 a.2.1 a.2.2) Aei noE
theorem Adx : Pd Tryz.prog 60 ZL:=by
 refine fn2 3 (Pk (l:=[(84,Aay),(86,Ui),(85,Adh)]) (by simp [AcH,Xa,Ahr])) Tryz.func60<|?_
 rintro ⟨s1,l2,k3⟩
 unfold Sg
 refine A 14 ?_
 refine bD fun x_x4 hx_x4=>?_
 refine A 9 ?_
 refine bD fun r5 hr5=>?_
 refine A 8 ?_
 refine sC (E:=fun (_s : Unit) (g : Nat × Nat)=>[(2,.int .i64 k3),(3,.optr 3 g.1 0 0),(4,.optr 4 g.2 0 0),(9,.int .i64 r5.1)]) (O:=fun _ g=>[(3,some (g.1,⟨false,true,9,78,[.agg [.sl (s1.p.Funcs.map PI),.int .i64 s1.i,.int .i64 s1.align,.int .i64 s1.f.Params,.sl (s1.f.Slots.map Pn),.sl (s1.f.Code.map Pm),.int .i64 s1.y.Args,.int .i64 s1.y.Size,.sl (s1.y.Off.map OZ)]]⟩)),(4,some (g.2,⟨false,true,1,29,[.agg [.sl (l2.Out.map (eL OZ))]]⟩))]) (j:=fun _=>QB l2 k3 r5 s1) ?_ ?_
 ·exact B
 ·rintro ⟨⟩ ⟨v3x1,v4x1⟩ nn
  try dsimp only
  unfold QB
  refine A 6 ?_
  refine bD fun x_x8 hx_x8=>?_
  refine A 7 ?_
  refine lP (E:=fun (s : Int) (g : Nat)=>[(3,.optr 3 g 0 0),(9,.int .i64 r5.1),(52,.sl (x_x8.map OZ)),(53,.int .i64 (x_x8.length : Int)),(54,.int .i64 s)]) (O:=fun _ g=>[(3,some (g,⟨false,true,9,78,[.agg [.sl (s1.p.Funcs.map PI),.int .i64 s1.i,.int .i64 s1.align,.int .i64 s1.f.Params,.sl (s1.f.Slots.map Pn),.sl (s1.f.Code.map Pm),.int .i64 s1.y.Args,.int .i64 s1.y.Size,.sl (s1.y.Off.map OZ)]]⟩))]) (body:=fun s=>SH x_x8 r5 s1 s) (s:=0) _ ((hE ⟨rfl,r,r,r,r,trivial⟩ ⟨rfl,trivial⟩))<|?_
  rintro x9 v3x2 nn
  try dsimp only
  unfold SH
  exact B

def Aej (b : Int × Int × Bool) : D:=.tup [.int .i64 b.1,.int .i64 b.2.1,.bool b.2.2]
noncomputable def VH : Dw.Spec:=Pf [] .ground Ra QZ (fun a=>Rp a.1 a.2) Aej noE
theorem ZA : Pd Tryz.prog 35 VH:=by
 refine fn2 2 (Pk (l:=[(60,ZL)]) (by simp [Adx])) Tryz.func35<|?_
 rintro ⟨s1,l2⟩
 unfold Rp
 refine A 20 ?_
 refine lP (E:=fun (s : Int) (g : Nat × Nat)=>[(2,.optr 2 g.1 0 0),(3,.optr 3 g.2 0 0),(13,.int .i64 (s1.f.Code.length : Int)),(14,.int .i64 s)]) (O:=fun _ g=>[(2,some (g.1,⟨false,true,9,78,[.agg [.sl (s1.p.Funcs.map PI),.int .i64 s1.i,.int .i64 s1.align,.int .i64 s1.f.Params,.sl (s1.f.Slots.map Pn),.sl (s1.f.Code.map Pm),.int .i64 s1.y.Args,.int .i64 s1.y.Size,.sl (s1.y.Off.map OZ)]]⟩)),(3,some (g.2,⟨false,true,1,29,[.agg [.sl (l2.Out.map (eL OZ))]]⟩))]) (body:=fun s=>SI s1 l2 s) (s:=0) (_,_) ((hE ⟨rfl,r,r,r,trivial⟩ ⟨rfl,r,trivial⟩))<|?_
 rintro x3 ⟨v2x1,v3x1⟩ nn
 try dsimp only
 unfold SI
 exact B

def RG (a : Ph × Int × Int × Pg × Pc) : List D:=[Rv a.1,.int .i64 a.2.1,.int .i64 a.2.2.1,Qi a.2.2.2.1,PR a.2.2.2.2]
def RF (ds : List D) : Ph × Int × Int × Pg × Pc:=(VQ (ds.getD 0 .top),uI (ds.getD 1 .top),uI (ds.getD 2 .top),UW (ds.getD 3 .top),AbZ (ds.getD 4 .top))
theorem AiJ (a : Ph × Int × Int × Pg × Pc) : RF (RG a) = a:=by simp [RF,RG,uI]
instance : Px RG RF:=⟨AiJ⟩
def AjB (b : Int × Int × Bool) : D:=.tup [.int .i64 b.1,.int .i64 b.2.1,.bool b.2.2]
noncomputable def AeM : Dw.Spec:=Pf [] .ground RG RF (fun a=>Yl a.1 a.2.1 a.2.2.1 a.2.2.2.1 a.2.2.2.2) AjB noE
theorem AiK : Pd Tryz.prog 18 AeM:=by
 refine fn2 5 (Pk (l:=[(34,VI),(35,VH)]) (by simp [ZC,ZA])) Tryz.func18<|?_
 intro a
 unfold Yl
 exact B

def AjF (b : Bool) : D:=.bool b
noncomputable def AeP : Dw.Spec:=Pf [] .ground TU TT (fun a=>Wi a.1 a.2) AjF noE
theorem AiP : Pd Tryz.prog 43 AeP:=by
 refine fn2 2 (Pk (l:=[(38,Xd)]) (by simp [YK])) Tryz.func43<|?_
 intro a
 unfold Wi
 exact B

def AlA (b : Int) : D:=.int .i64 b
noncomputable def Aav : Dw.Spec:=Pf [] .ground UH UG (fun a=>VP a.1 a.2.1 a.2.2.1 a.2.2.2) AlA noE
theorem AbY : Pd Tryz.prog 21 Aav:=by
 refine fn2 4 (Pk (l:=[(11,AaA),(24,Yu),(43,AeP)]) (by simp [AcL,Aau,AiP])) Tryz.func21<|?_
 rintro ⟨p1,i2,align3,y4⟩
 unfold VP
 refine A 12 ?_
 refine bD fun r5 hr5=>?_
 refine A 16 ?_
 refine cD r ?_ ?_
 ·exact B
 ·refine A 7 ?_
  refine bD fun x_x6 hx_x6=>?_
  refine A 6 ?_
  refine sC (E:=fun (_s : Unit) (g : Nat × Nat)=>[(2,.int .i64 align3),(7,.optr 7 g.1 0 0),(9,.optr 9 g.2 0 0),(11,.sl (x_x6.Slots.map Pn))]) (O:=fun _ g=>[(7,some (g.1,⟨false,true,3,32,[.agg [.int .i64 y4.Args,.int .i64 y4.Size,.sl (y4.Off.map OZ)]]⟩)),(9,some (g.2,⟨false,true,3,32,[.agg [.int .i64 r5.1.Args,.int .i64 r5.1.Size,.sl (r5.1.Off.map OZ)]]⟩))]) (j:=fun _=>Zw x_x6 y4 align3 r5) ?_ ?_
  ·exact B
  ·rintro ⟨⟩ ⟨v7x1,v9x1⟩ nn
   try dsimp only
   unfold Zw
   refine A 7 ?_
   refine lP (E:=fun (s : Int) (g : Nat × Nat)=>[(2,.int .i64 align3),(7,.optr 7 g.1 0 0),(9,.optr 9 g.2 0 0),(11,.sl (x_x6.Slots.map Pn)),(12,.int .i64 s)]) (O:=fun _ g=>[(7,some (g.1,⟨false,true,3,32,[.agg [.int .i64 y4.Args,.int .i64 y4.Size,.sl (y4.Off.map OZ)]]⟩)),(9,some (g.2,⟨false,true,3,32,[.agg [.int .i64 r5.1.Args,.int .i64 r5.1.Size,.sl (r5.1.Off.map OZ)]]⟩))]) (body:=fun s=>Zv x_x6 y4 align3 r5 s) (s:=0) (_,_) ((hE ⟨rfl,r,r,r,r,trivial⟩ ⟨rfl,r,trivial⟩))<|?_
   rintro k8 ⟨v7x2,v9x2⟩ nn
   try dsimp only
   unfold Zv
   exact B

def XX (a : OX × Pg × Pc × Int) : List D:=[PI a.1,Qi a.2.1,PR a.2.2.1,.int .i64 a.2.2.2]
def XW (ds : List D) : OX × Pg × Pc × Int:=(Ss (ds.getD 0 .top),UW (ds.getD 1 .top),AbZ (ds.getD 2 .top),uI (ds.getD 3 .top))
theorem Akg (a : OX × Pg × Pc × Int) : XW (XX a) = a:=by simp [XW,XX,uI]
instance : Px XX XW:=⟨Akg⟩
def AlB (b : Int × Bool) : D:=.tup [.int .i64 b.1,.bool b.2]
noncomputable def AfU : Dw.Spec:=Pf [] .ground XX XW (fun a=>ZY a.1 a.2.1 a.2.2.1 a.2.2.2) AlB noE
theorem Akh : Pd Tryz.prog 41 AfU:=by
 refine fn2 4 (Pk (l:=[(14,TG),(16,Abj)]) (by simp [UJ,Ado])) Tryz.func41<|?_
 rintro ⟨f1,l2,y3,k4⟩
 unfold ZY
 refine A 14 ?_
 refine bD fun x_x5 hx_x5=>?_
 refine A 9 ?_
 refine bD fun r6 hr6=>?_
 refine A 8 ?_
 refine sC (E:=fun (_s : Unit) (g : Nat × Nat × Nat)=>[(3,.int .i64 k4),(4,.optr 4 g.1 0 0),(5,.optr 5 g.2.1 0 0),(6,.optr 6 g.2.2 0 0),(11,.int .i64 r6.1)]) (O:=fun _ g=>[(4,some (g.1,⟨false,true,3,40,[.agg [.int .i64 f1.Params,.sl (f1.Slots.map Pn),.sl (f1.Code.map Pm)]]⟩)),(5,some (g.2.1,⟨false,true,1,29,[.agg [.sl (l2.Out.map (eL OZ))]]⟩)),(6,some (g.2.2,⟨false,true,3,32,[.agg [.int .i64 y3.Args,.int .i64 y3.Size,.sl (y3.Off.map OZ)]]⟩))]) (j:=fun _=>Uy l2 k4 r6 y3 f1) ?_ ?_
 ·exact B
 ·rintro ⟨⟩ ⟨v4x1,v5x1,v6x1⟩ nn
  try dsimp only
  unfold Uy
  refine A 7 ?_
  refine lP (E:=fun (s : Int) (g : Nat × Nat × Nat)=>[(3,.int .i64 k4),(4,.optr 4 g.1 0 0),(5,.optr 5 g.2.1 0 0),(6,.optr 6 g.2.2 0 0),(11,.int .i64 r6.1),(13,.int .i64 s)]) (O:=fun _ g=>[(4,some (g.1,⟨false,true,3,40,[.agg [.int .i64 f1.Params,.sl (f1.Slots.map Pn),.sl (f1.Code.map Pm)]]⟩)),(5,some (g.2.1,⟨false,true,1,29,[.agg [.sl (l2.Out.map (eL OZ))]]⟩)),(6,some (g.2.2,⟨false,true,3,32,[.agg [.int .i64 y3.Args,.int .i64 y3.Size,.sl (y3.Off.map OZ)]]⟩))]) (body:=fun s=>Zx l2 k4 r6 y3 f1 s) (s:=0) (_,_,_) ((hE ⟨rfl,r,r,r,r,r,trivial⟩ ⟨rfl,r,r,trivial⟩))<|?_
  rintro i9 ⟨v4x2,v5x2,v6x2⟩ nn
  try dsimp only
  unfold Zx
  exact B

def Alz (b : Int × Int × Bool) : D:=.tup [.int .i64 b.1,.int .i64 b.2.1,.bool b.2.2]
noncomputable def AcA : Dw.Spec:=Pf [] .ground RG RF (fun a=>Xu a.1 a.2.1 a.2.2.1 a.2.2.2.1 a.2.2.2.2) Alz noE
theorem Afc : Pd Tryz.prog 19 AcA:=by
 refine fn2 5 (Pk (l:=[(21,Aav),(36,Aan),(41,AfU)]) (by simp [AbY,AbX,Akh])) Tryz.func19<|?_
 rintro ⟨p1,i2,align3,l4,y5⟩
 unfold Xu
 refine A 10 ?_
 refine sC (E:=fun (_s : Unit) (g : Nat × Nat × Nat)=>[(1,.int .i64 i2),(5,.optr 5 g.1 0 0),(8,.optr 8 g.2.1 0 0),(9,.optr 9 g.2.2 0 0)]) (O:=fun _ g=>[(5,some (g.1,⟨false,true,1,26,[.agg [.sl (p1.Funcs.map PI)]]⟩)),(8,some (g.2.1,⟨false,true,1,29,[.agg [.sl (l4.Out.map (eL OZ))]]⟩)),(9,some (g.2.2,⟨false,true,3,32,[.agg [.int .i64 y5.Args,.int .i64 y5.Size,.sl (y5.Off.map OZ)]]⟩))]) (j:=fun _=>Wx p1 i2 l4 y5) ?_ ?_
 ·exact B
 ·rintro ⟨⟩ ⟨v5x1,v8x1,v9x1⟩ nn
  try dsimp only
  unfold Wx
  refine A 7 ?_
  refine lP (E:=fun (s : Int) (g : Nat × Nat × Nat)=>[(1,.int .i64 i2),(5,.optr 5 g.1 0 0),(8,.optr 8 g.2.1 0 0),(9,.optr 9 g.2.2 0 0),(13,.int .i64 s)]) (O:=fun _ g=>[(5,some (g.1,⟨false,true,1,26,[.agg [.sl (p1.Funcs.map PI)]]⟩)),(8,some (g.2.1,⟨false,true,1,29,[.agg [.sl (l4.Out.map (eL OZ))]]⟩)),(9,some (g.2.2,⟨false,true,3,32,[.agg [.int .i64 y5.Args,.int .i64 y5.Size,.sl (y5.Off.map OZ)]]⟩))]) (body:=fun s=>Zu p1 i2 l4 y5 s) (s:=0) (_,_,_) ((hE ⟨rfl,r,r,r,r,trivial⟩ ⟨rfl,r,r,trivial⟩))<|?_
  rintro k9 ⟨v5x2,v8x2,v9x2⟩ nn
  try dsimp only
  unfold Zu
  exact B

def AjA (b : Int) : D:=.int .i64 b
noncomputable def AeL : Dw.Spec:=Pf [] .ground RG RF (fun a=>Yk a.1 a.2.1 a.2.2.1 a.2.2.2.1 a.2.2.2.2) AjA noE
theorem AiI : Pd Tryz.prog 12 AeL:=by
 refine fn2 5 (Pk (l:=[(34,VI),(35,VH)]) (by simp [ZC,ZA])) Tryz.func12<|?_
 intro a
 unfold Yk
 exact B

def Aly (b : Int) : D:=.int .i64 b
noncomputable def AfT : Dw.Spec:=Pf [] .ground RG RF (fun a=>ZX a.1 a.2.1 a.2.2.1 a.2.2.2.1 a.2.2.2.2) Aly noE
theorem Akf : Pd Tryz.prog 13 AfT:=by
 refine fn2 5 (Pk (l:=[(21,Aav),(36,Aan),(19,AcA)]) (by simp [AbY,AbX,Afc])) Tryz.func13<|?_
 intro a
 unfold ZX
 exact B

def TD (a : (List Int) × Pc × Pg) : List D:=[.sl (a.1.map eU8),PR a.2.1,Qi a.2.2]
def TC (ds : List D) : (List Int) × Pc × Pg:=((uL uI) (ds.getD 0 .top),AbZ (ds.getD 1 .top),UW (ds.getD 2 .top))
theorem Aba (a : (List Int) × Pc × Pg) : TC (TD a) = a:=by simp [TC,TD,PV (u:=uI) (en:=eU8) (fun _=>rfl)]
instance : Px TD TC:=⟨Aba⟩
def Aga (b : Bool) : D:=.bool b
noncomputable def Agb : Dw.Spec:=Pf [] .ground TD TC (fun a=>TV a.1 a.2.1 a.2.2) Aga noE
theorem Afp : Pd Tryz.prog 6 Agb:=by
 refine fn2 3 (Pk (l:=[(8,Afz),(9,AfA),(18,AeM),(19,AcA),(12,AeL),(13,AfT),(20,AbN),(21,Aav)]) (by simp [Ajy,Ajz,AiK,Afc,AiI,Akf,AdL,AbY])) Tryz.func6<|?_
 rintro ⟨codes1,raw2,live3⟩
 unfold TV
 refine A 7 ?_
 refine sC (E:=fun (_s : Unit) (g : Nat × Nat)=>[(0,.sl (codes1.map eU8)),(4,.optr 4 g.1 0 0),(5,.optr 5 g.2 0 0)]) (O:=fun _ g=>[(4,some (g.1,⟨false,true,3,32,[.agg [.int .i64 raw2.Args,.int .i64 raw2.Size,.sl (raw2.Off.map OZ)]]⟩)),(5,some (g.2,⟨false,true,1,29,[.agg [.sl (live3.Out.map (eL OZ))]]⟩))]) (j:=fun _=>Uh codes1 raw2 live3) ?_ ?_
 ·refine sC (E:=fun (s : Bool) (g : Nat × Nat)=>[(0,.sl (codes1.map eU8)),(4,.optr 4 g.1 0 0),(5,.optr 5 g.2 0 0),(36,.bool s)]) (O:=fun _ g=>[(4,some (g.1,⟨false,true,3,32,[.agg [.int .i64 raw2.Args,.int .i64 raw2.Size,.sl (raw2.Off.map OZ)]]⟩)),(5,some (g.2,⟨false,true,1,29,[.agg [.sl (live3.Out.map (eL OZ))]]⟩))]) (j:=fun s=>QE raw2 live3 codes1 s) ?_ ?_
  ·exact B
  ·rintro x4 ⟨v4x1,v5x1⟩ nn
   try dsimp only
   unfold QE
   exact B
 ·rintro ⟨⟩ ⟨v4x2,v5x2⟩ nn
  try dsimp only
  unfold Uh
  refine A 3 ?_
  refine bD fun r6 hr6=>AiC (rs:=[Rv r6.1,.int .i64 r6.2.1,.int .i64 r6.2.2.1,Qi r6.2.2.2.1,PR r6.2.2.2.2.1,Pz r6.2.2.2.2.2]) (z:=Pz r6.2.2.2.2.2) codes1 r r r AeK r r (by simp) r hr6 r r<|?_
  refine A 23 ?_
  refine bS ([r6.2.2.2.2.1,raw2] : List Pc) PR r r r (by simp) r r r<|?_
  refine A 5 ?_
  refine lP (E:=fun (s : Int) (g : Nat × Nat × Nat × Nat)=>[(5,.optr 5 g.1 0 0),(7,.optr 7 g.2.1 0 0),(8,.int .i64 r6.2.1),(9,.int .i64 r6.2.2.1),(10,.optr 10 g.2.2.1 0 0),(58,.osl 58 g.2.2.2 0 (([r6.2.2.2.2.1,raw2] : List Pc).length)),(59,.int .i64 (([r6.2.2.2.2.1,raw2] : List Pc).length : Int)),(60,.int .i64 s)]) (O:=fun _ g=>[(5,some (g.1,⟨false,true,1,29,[.agg [.sl (live3.Out.map (eL OZ))]]⟩)),(7,some (g.2.1,⟨false,true,1,26,[.agg [.sl (r6.1.Funcs.map PI)]]⟩)),(10,some (g.2.2.1,⟨false,true,1,29,[.agg [.sl (r6.2.2.2.1.Out.map (eL OZ))]]⟩)),(58,some (g.2.2.2,⟨false,false,3,32,([r6.2.2.2.2.1,raw2] : List Pc).map PR⟩))]) (body:=fun s=>Uf r6 raw2 live3 s) (s:=0) (_,_,_,_) ((hE ⟨rfl,r,r,r,r,r,r,r,trivial⟩ ⟨rfl,r,r,r,trivial⟩))<|?_
  rintro x7 ⟨v5x3,v7x3,v10x3,v58x3⟩ nn
  try dsimp only
  unfold Uf
  refine A 6 ?_
  refine cD r ?_ ?_
  ·refine A 7 ?_
   refine bD fun x_e8 hx_e8=>?_
   refine A 9 ?_
   refine bS ([r6.2.2.2.1,live3] : List Pg) Qi r r r (by simp) r r r<|?_
   refine A 5 ?_
   refine lP (E:=fun (s : Int) (g : Nat × Nat × Nat × Nat × Nat × Nat)=>[(5,.optr 5 g.1 0 0),(7,.optr 7 g.2.1 0 0),(8,.int .i64 r6.2.1),(9,.int .i64 r6.2.2.1),(10,.optr 10 g.2.2.1 0 0),(14,.optr 14 g.2.2.2.1 0 0),(58,.osl 58 g.2.2.2.2.1 0 (([r6.2.2.2.2.1,raw2] : List Pc).length)),(59,.int .i64 (([r6.2.2.2.2.1,raw2] : List Pc).length : Int)),(60,.int .i64 x7),(66,.osl 66 g.2.2.2.2.2 0 (([r6.2.2.2.1,live3] : List Pg).length)),(67,.int .i64 (([r6.2.2.2.1,live3] : List Pg).length : Int)),(68,.int .i64 s)]) (O:=fun _ g=>[(5,some (g.1,⟨false,true,1,29,[.agg [.sl (live3.Out.map (eL OZ))]]⟩)),(7,some (g.2.1,⟨false,true,1,26,[.agg [.sl (r6.1.Funcs.map PI)]]⟩)),(10,some (g.2.2.1,⟨false,true,1,29,[.agg [.sl (r6.2.2.2.1.Out.map (eL OZ))]]⟩)),(14,some (g.2.2.2.1,⟨false,true,3,32,[.agg [.int .i64 x_e8.Args,.int .i64 x_e8.Size,.sl (x_e8.Off.map OZ)]]⟩)),(58,some (g.2.2.2.2.1,⟨false,false,3,32,([r6.2.2.2.2.1,raw2] : List Pc).map PR⟩)),(66,some (g.2.2.2.2.2,⟨false,false,1,29,([r6.2.2.2.1,live3] : List Pg).map Qi⟩))]) (body:=fun s=>Ug r6 live3 x_e8 x7 s) (s:=0) (_,_,_,_,_,_) ((hE ⟨rfl,r,r,r,r,r,r,r,r,r,r,r,trivial⟩ ⟨rfl,r,r,r,r,r,trivial⟩))<|?_
   rintro x9 ⟨v5x4,v7x4,v10x4,v14x4,v58x4,v66x4⟩ nn
   try dsimp only
   unfold Ug
   exact B
  ·exact B

end Go.Proofs.YtnldnldmgceooaaGreatDoor
