/-
  Programs on typed data, and the proofs that the code does what they say; written by a program (dx.py).
-/
import Derived.Test.YtnldnldmgceooaaGreatDoorProg
import Derived.Test.YtnldnldmgceooaaGreatDoorDd
import Derived.KernelRfl
import Derived.Test.YtnldnldmgceooaaGreatDoorSh
import Derived.Test.YtnldnldmgceooaaGreatDoorDxP
import Derived.Test.YtnldnldmgceooaaGreatDoorDxF1
import Derived.Test.YtnldnldmgceooaaGreatDoorDxF2
import Derived.Test.YtnldnldmgceooaaGreatDoorDxF3
import Derived.Test.YtnldnldmgceooaaGreatDoorDxF4
namespace Go.Proofs.YtnldnldmgceooaaGreatDoor
open Go Go.Dw Go.Proofs
set_option maxRecDepth 100000
set_option maxHeartbeats 4000000
open Go.Dw renaming QU → bD,PN → cK,AcY → cV,Acy → cD,Aah → hE,AcX → cP,Aez → lP,AaZ → sC,AmM → mF,rf → r
def SJ (a : OY) : List D:=[PI a]
def SI (ds : List D) : OY:=Rm (ds.getD 0 .top)
theorem AdO (a : OY) : SI (SJ a) = a:=by simp [SI,SJ]
instance : Px SJ SI:=⟨AdO⟩
def Aek (b : (List Int) × OY) : D:=.sl (b.1.map Pa)
def Aej (b : (List Int) × OY) : List D:=[PI b.2]
noncomputable def RR : Dw.Spec:=Pf [(0,(8,160))] (.row 1 3) SJ SI (fun a=>Qt a) Aek Aej
theorem Ti : Pd Tryz.prog 131 RR:=by
 refine fn2 1 (Pk (l:=[(140,AlY)]) (by simp [Apx])) Tryz.func131<|?_
 intro s1
 unfold Qt
 refine A 18 ?_
 refine lP (E:=fun (s : (List Int) × Int) (g : Nat)=>[(3,.osl 3 g 0 s.1.length),(6,.optr 8192 0 0 0),(7,.int .i64 s.2)]) (O:=fun s g=>[(3,some (g,⟨false,false,1,3,s.1.map Pa⟩)),(8192,some (0,⟨false,true,8,160,[.agg [.int .u64 s1.a0,.int .u64 s1.a1,.int .u64 s1.a2,.int .u64 s1.a3,.int .u64 s1.a4,.int .u64 s1.a5,.int .u64 s1.a6,.int .u64 s1.a7]]⟩))]) (body:=fun s=>Tg s1 s.1 s.2) (s:=(([] : List Int),0)) _ ((hE ⟨rfl,r,r,trivial⟩ ⟨rfl,r,trivial⟩))<|?_
 rintro ⟨l2,x3⟩ v3x1 nn
 try dsimp only
 unfold Tg
 refine A 6 ?_
 refine cD r ?_ ?_
 ·refine A 8 ?_
  refine cK fun hq=>Uo r r r hq<|bD fun s_e4 hs_e4=>WQ (q:=s_e4) (l:=s1.toList) (en:=Aaw) (j:=x3.toNat) (by simp) r r r hs_e4 r (fun _=>r)<|?_
  refine A 5 ?_
  refine lP (E:=fun (s : (List Int) × Int) (g : Nat)=>[(3,.osl 3 g 0 s.1.length),(4,.int .i64 x3),(5,.int .u64 s.2),(6,.optr 8192 0 0 0),(7,.int .i64 x3)]) (O:=fun s g=>[(3,some (g,⟨false,false,1,3,s.1.map Pa⟩)),(8192,some (0,⟨false,true,8,160,[.agg [.int .u64 s1.a0,.int .u64 s1.a1,.int .u64 s1.a2,.int .u64 s1.a3,.int .u64 s1.a4,.int .u64 s1.a5,.int .u64 s1.a6,.int .u64 s1.a7]]⟩))]) (body:=fun s=>Th x3 s.1 s.2) (s:=(l2,s_e4)) _ ((hE ⟨rfl,r,r,r,r,trivial⟩ ⟨rfl,r,trivial⟩))<|?_
  rintro ⟨l5,x6⟩ v3x2 nn
  try dsimp only
  unfold Th
  exact B
 ·exact B

def Aid (b : (List Int)) : D:=.sl (b.map Pa)
noncomputable def Adp : Dw.Spec:=Pf [] .val Rj Ri (fun a=>UU a.1 a.2) Aid noE
theorem Aho : Pd Tryz.prog 136 Adp:=by
 refine fn2 2 (Pk (l:=[(128,Vf),(139,WR),(131,RR)]) (by simp [WO,AaD,Ti])) Tryz.func136<|?_
 intro a
 unfold UU
 exact B

def Akf (b : (List Int)) : D:=.sl (b.map Pa)
noncomputable def Afc : Dw.Spec:=Pf [] (.row 1 3) Qw Qv (fun a=>XD a) Akf noE
theorem AiS : Pd Tryz.prog 138 Afc:=by
 refine fn2 1 (Pv) Tryz.func138<|?_
 intro a
 unfold XD
 exact B

def Amk (b : (List Int)) : D:=.sl (b.map Pa)
noncomputable def AgX : Dw.Spec:=Pf [] (.row 1 3) Sx Sw (fun a=>Yl a) Amk noE
theorem Alh : Pd Tryz.prog 137 AgX:=by
 refine fn2 1 (Pk (l:=[(128,Vf),(131,RR)]) (by simp [WO,Ti])) Tryz.func137<|?_
 intro a
 unfold Yl
 exact B

def Tv (a : Int × Int) : List D:=[.int .u64 a.1,.int .u64 a.2]
def Tu (ds : List D) : Int × Int:=(uI (ds.getD 0 .top),uI (ds.getD 1 .top))
theorem AgA (a : Int × Int) : Tu (Tv a) = a:=by simp [Tu,Tv,uI]
instance : Px Tv Tu:=⟨AgA⟩
def Ahr (b : Int) : D:=.int .u64 b
noncomputable def AcO : Dw.Spec:=Pf [] .ground Tv Tu (fun a=>Wn a.1 a.2) Ahr noE
theorem AgB : Pd Tryz.prog 130 AcO:=by
 refine fn2 2 (Pv) Tryz.func130<|?_
 intro a
 unfold Wn
 exact B

def QN (a : OY × OY) : List D:=[PI a.1,PI a.2,.clo 130 []]
def QM (ds : List D) : OY × OY:=(Rm (ds.getD 0 .top),Rm (ds.getD 1 .top))
theorem Vh (a : OY × OY) : QM (QN a) = a:=by simp [QM,QN]
instance : Px QN QM:=⟨Vh⟩
def Abt (b : OY × OY × OY) : D:=PI b.1
def Abs (b : OY × OY × OY) : List D:=[PI b.2.1,PI b.2.2]
noncomputable def SH : Dw.Spec:=Pf [(0,(8,160)),(1,(8,160))] (.ptr 8 160) QN QM (fun a=>QC a.1 a.2) Abt Abs
theorem AaQ : Pd Tryz.prog 129 SH:=by
 refine fn2 3 (Pk (l:=[(130,AcO)]) (by simp [AgB])) Tryz.func129<|?_
 rintro ⟨s1,t2⟩
 unfold QC
 refine A 19 ?_
 refine lP (E:=fun (s : OY × Int) (g : Nat)=>[(0,.optr 8192 0 0 0),(1,.optr 8193 1 0 0),(2,.clo 130 []),(7,.optr 10 g 0 0),(11,.int .i64 s.2)]) (O:=fun s g=>[(10,some (g,⟨false,true,8,160,[.agg [.int .u64 s.1.a0,.int .u64 s.1.a1,.int .u64 s.1.a2,.int .u64 s.1.a3,.int .u64 s.1.a4,.int .u64 s.1.a5,.int .u64 s.1.a6,.int .u64 s.1.a7]]⟩)),(8192,some (0,⟨false,true,8,160,[.agg [.int .u64 s1.a0,.int .u64 s1.a1,.int .u64 s1.a2,.int .u64 s1.a3,.int .u64 s1.a4,.int .u64 s1.a5,.int .u64 s1.a6,.int .u64 s1.a7]]⟩)),(8193,some (1,⟨false,true,8,160,[.agg [.int .u64 t2.a0,.int .u64 t2.a1,.int .u64 t2.a2,.int .u64 t2.a3,.int .u64 t2.a4,.int .u64 t2.a5,.int .u64 t2.a6,.int .u64 t2.a7]]⟩))]) (body:=fun s=>Qo s1 t2 s.1 s.2) (s:=((OY.mk 0 0 0 0 0 0 0 0),0)) _ ((hE ⟨rfl,r,r,r,r,trivial⟩ ⟨rfl,r,r,trivial⟩))<|?_
 rintro ⟨x3,x4⟩ v10x1 nn
 try dsimp only
 unfold Qo
 refine A 6 ?_
 refine cD r ?_ ?_
 ·refine A 17 ?_
  refine cK fun hq=>Uo r r r hq<|bD fun s_e5 hs_e5=>WQ (q:=s_e5) (l:=s1.toList) (en:=Aaw) (j:=x4.toNat) (by simp) r r r hs_e5 r (fun _=>r)<|?_
  refine A 3 ?_
  refine cK fun hq=>Uo r r r hq<|bD fun t_e6 ht_e6=>WQ (q:=t_e6) (l:=t2.toList) (en:=Aaw) (j:=x4.toNat) (by simp) r r r ht_e6 r (fun _=>r)<|bD fun r7 hr7=>?_
  refine A 2 ?_
  refine cK fun hq=>Uo r r r hq<|bD fun x_o8 hx_o8=>AiD (q:=x_o8) (q':=r7) (l:=x3.toList) (en:=Aaw) (j:=x4.toNat) (z':=.agg [.int .u64 ((x3.set x4.toNat r7).a0),.int .u64 ((x3.set x4.toNat r7).a1),.int .u64 ((x3.set x4.toNat r7).a2),.int .u64 ((x3.set x4.toNat r7).a3),.int .u64 ((x3.set x4.toNat r7).a4),.int .u64 ((x3.set x4.toNat r7).a5),.int .u64 ((x3.set x4.toNat r7).a6),.int .u64 ((x3.set x4.toNat r7).a7)]) (by simp) r r r r r hx_o8 r r (congrArg (fun l=>D.agg (l.map Aaw)) (Rr x3 x4.toNat r7).symm)<|?_
  exact B
 ·exact B

def AiR (b : (List Int)) : D:=.sl (b.map Pa)
noncomputable def Abz : Dw.Spec:=Pf [] .val RI RG (fun a=>Tt a.1 a.2) AiR noE
theorem Adq : Pd Tryz.prog 112 Abz:=by
 refine fn2 2 (Pk (l:=[(128,Vf),(536705,SH),(131,RR)]) (by simp [WO,AaQ,Ti])) Tryz.func112<|?_
 rintro ⟨a1,b2⟩
 unfold Tt
 refine A 8 ?_
 refine bD fun r3 hr3=>?_
 refine A 2 ?_
 refine bD fun r4 hr4=>?_
 refine A 1 ?_
 refine bD fun r5 hr5=>cP (r3,r4) rfl rfl (show _ = some SH from by kernel_rfl) Vh rfl rfl (by simp) r hr5<|?_
 exact B

def Amq (b : (List Int)) : D:=.sl (b.map Pa)
noncomputable def Aha : Dw.Spec:=Pf [] .val WB WA (fun a=>AbY a.1 a.2) Amq noE
theorem Aln : Pd Tryz.prog 126 Aha:=by
 refine fn2 2 (Pk (l:=[(84,Aax),(136,Adp),(138,Afc),(137,AgX),(112,Abz)]) (by simp [Acs,Aho,AiS,Alh,Adq])) Tryz.func126<|?_
 intro a
 unfold AbY
 exact B

def Ahn (b : Int) : D:=.int .u64 b
noncomputable def AcN : Dw.Spec:=Pf [] .ground Tv Tu (fun a=>Wm a.1 a.2) Ahn noE
theorem Agz : Pd Tryz.prog 132 AcN:=by
 refine fn2 2 (Pv) Tryz.func132<|?_
 intro a
 unfold Wm
 exact B

def QL (a : OY × OY) : List D:=[PI a.1,PI a.2,.clo 132 []]
def QK (ds : List D) : OY × OY:=(Rm (ds.getD 0 .top),Rm (ds.getD 1 .top))
theorem Vg (a : OY × OY) : QK (QL a) = a:=by simp [QK,QL]
instance : Px QL QK:=⟨Vg⟩
def Abr (b : OY × OY × OY) : D:=PI b.1
def Abp (b : OY × OY × OY) : List D:=[PI b.2.1,PI b.2.2]
noncomputable def SG : Dw.Spec:=Pf [(0,(8,160)),(1,(8,160))] (.ptr 8 160) QL QK (fun a=>QB a.1 a.2) Abr Abp
theorem AaP : Pd Tryz.prog 129 SG:=by
 refine fn2 3 (Pk (l:=[(132,AcN)]) (by simp [Agz])) Tryz.func129<|?_
 rintro ⟨s1,t2⟩
 unfold QB
 refine A 19 ?_
 refine lP (E:=fun (s : OY × Int) (g : Nat)=>[(0,.optr 8192 0 0 0),(1,.optr 8193 1 0 0),(2,.clo 132 []),(7,.optr 10 g 0 0),(11,.int .i64 s.2)]) (O:=fun s g=>[(10,some (g,⟨false,true,8,160,[.agg [.int .u64 s.1.a0,.int .u64 s.1.a1,.int .u64 s.1.a2,.int .u64 s.1.a3,.int .u64 s.1.a4,.int .u64 s.1.a5,.int .u64 s.1.a6,.int .u64 s.1.a7]]⟩)),(8192,some (0,⟨false,true,8,160,[.agg [.int .u64 s1.a0,.int .u64 s1.a1,.int .u64 s1.a2,.int .u64 s1.a3,.int .u64 s1.a4,.int .u64 s1.a5,.int .u64 s1.a6,.int .u64 s1.a7]]⟩)),(8193,some (1,⟨false,true,8,160,[.agg [.int .u64 t2.a0,.int .u64 t2.a1,.int .u64 t2.a2,.int .u64 t2.a3,.int .u64 t2.a4,.int .u64 t2.a5,.int .u64 t2.a6,.int .u64 t2.a7]]⟩))]) (body:=fun s=>Qn s1 t2 s.1 s.2) (s:=((OY.mk 0 0 0 0 0 0 0 0),0)) _ ((hE ⟨rfl,r,r,r,r,trivial⟩ ⟨rfl,r,r,trivial⟩))<|?_
 rintro ⟨x3,x4⟩ v10x1 nn
 try dsimp only
 unfold Qn
 refine A 6 ?_
 refine cD r ?_ ?_
 ·refine A 17 ?_
  refine cK fun hq=>Uo r r r hq<|bD fun s_e5 hs_e5=>WQ (q:=s_e5) (l:=s1.toList) (en:=Aaw) (j:=x4.toNat) (by simp) r r r hs_e5 r (fun _=>r)<|?_
  refine A 3 ?_
  refine cK fun hq=>Uo r r r hq<|bD fun t_e6 ht_e6=>WQ (q:=t_e6) (l:=t2.toList) (en:=Aaw) (j:=x4.toNat) (by simp) r r r ht_e6 r (fun _=>r)<|bD fun r7 hr7=>?_
  refine A 2 ?_
  refine cK fun hq=>Uo r r r hq<|bD fun x_o8 hx_o8=>AiD (q:=x_o8) (q':=r7) (l:=x3.toList) (en:=Aaw) (j:=x4.toNat) (z':=.agg [.int .u64 ((x3.set x4.toNat r7).a0),.int .u64 ((x3.set x4.toNat r7).a1),.int .u64 ((x3.set x4.toNat r7).a2),.int .u64 ((x3.set x4.toNat r7).a3),.int .u64 ((x3.set x4.toNat r7).a4),.int .u64 ((x3.set x4.toNat r7).a5),.int .u64 ((x3.set x4.toNat r7).a6),.int .u64 ((x3.set x4.toNat r7).a7)]) (by simp) r r r r r hx_o8 r r (congrArg (fun l=>D.agg (l.map Aaw)) (Rr x3 x4.toNat r7).symm)<|?_
  exact B
 ·exact B

def AiQ (b : (List Int)) : D:=.sl (b.map Pa)
noncomputable def Aei : Dw.Spec:=Pf [] .val RI RG (fun a=>Wl a.1 a.2) AiQ noE
theorem Aic : Pd Tryz.prog 113 Aei:=by
 refine fn2 2 (Pk (l:=[(128,Vf),(544897,SG),(131,RR)]) (by simp [WO,AaP,Ti])) Tryz.func113<|?_
 rintro ⟨a1,b2⟩
 unfold Wl
 refine A 8 ?_
 refine bD fun r3 hr3=>?_
 refine A 2 ?_
 refine bD fun r4 hr4=>?_
 refine A 1 ?_
 refine bD fun r5 hr5=>cP (r3,r4) rfl rfl (show _ = some SG from by kernel_rfl) Vg rfl rfl (by simp) r hr5<|?_
 exact B

def Ra (a : (List Int) × (List Int) × Ph × Int) : List D:=[.sl (a.1.map Pa),.sl (a.2.1.map Pa),.fptr (Qz a.2.2.1) 0,.fptr (.int .i64 a.2.2.2) 0]
def QZ (ds : List D) : (List Int) × (List Int) × Ph × Int:=((uL uI) (ds.getD 0 .top),(uL uI) (ds.getD 1 .top),Wj (fpD (ds.getD 2 .top)),uI (fpD (ds.getD 3 .top)))
theorem AbG (a : (List Int) × (List Int) × Ph × Int) : QZ (Ra a) = a:=by simp [QZ,Ra,uI,fpD,PV (u:=uI) (en:=Pa) (fun _=>rfl)]
instance : Px Ra QZ:=⟨AbG⟩
def Acb (b : Bool × (List Int)) : D:=.bool b.1
def Aca (b : Bool × (List Int)) : List D:=[.sl (b.2.map Pa)]
noncomputable def WM : Dw.Spec:=Pf [(1,(1,30))] .val Ra QZ (fun a=>Sg a.1 a.2.1 a.2.2.1 a.2.2.2) Acb Aca
theorem AbH : Pd Tryz.prog 111 WM:=by
 refine fn2 4 (Pk (l:=[(113,Aei),(112,Abz)]) (by simp [Aic,Adq])) Tryz.func111<|?_
 rintro ⟨need1,cap2,cap3,cap4⟩
 unfold Sg
 refine A 12 ?_
 refine bD fun x_x5 hx_x5=>?_
 refine A 2 ?_
 refine bD fun r6 hr6=>?_
 refine A 1 ?_
 refine bD fun r7 hr7=>?_
 refine A 1 ?_
 refine Xl (i:=0) (es':=[.sl (r7.map Pa)]) r r r r r r r (by first | trivial | (simp; done) | (simp; omega)) r r r r r r<|?_
 exact B

def PS (a : OX × Int × Ph × (List Int) × Ph × Int) : List D:=[PM a.1,.int .i64 a.2.1,.clo 127 [.fptr (Qz a.2.2.1) 0],.clo 111 [.sl (a.2.2.2.1.map Pa),.fptr (Qz a.2.2.2.2.1) 0,.fptr (.int .i64 a.2.2.2.2.2) 0]]
def Qj (ds : List D) : OX × Int × Ph × (List Int) × Ph × Int:=(SS (ds.getD 0 .top),uI (ds.getD 1 .top),Wj (fpD (Ahg (ds.getD 2 .top) 0)),(uL uI) (Ahg (ds.getD 3 .top) 0),Wj (fpD (Ahg (ds.getD 3 .top) 1)),uI (fpD (Ahg (ds.getD 3 .top) 2)))
theorem Ty (a : OX × Int × Ph × (List Int) × Ph × Int) : Qj (PS a) = a:=by simp [Qj,PS,uI,fpD,Ahg,PV (u:=uI) (en:=Pa) (fun _=>rfl)]
instance : Px PS Qj:=⟨Ty⟩
def YT (b : Bool × (List Int)) : D:=.bool b.1
def YS (b : Bool × (List Int)) : List D:=[.sl (b.2.map Pa)]
noncomputable def Rz : Dw.Spec:=Pf [(256,(1,30))] .val PS Qj (fun a=>Qd a.1 a.2.1 a.2.2.1 a.2.2.2.1 a.2.2.2.2.1 a.2.2.2.2.2) YT YS
theorem Yu : Pd Tryz.prog 109 Rz:=by
 refine fn2 4 (Pk (l:=[(125,Ahc),(127,AaI),(126,Aha),(111,WM)]) (by simp [Alv,Aea,Aln,AbH])) Tryz.func109<|?_
 rintro ⟨f1,k2,set3,visit4,visit5,visit6⟩
 unfold Qd
 refine A 11 ?_
 refine bD fun r7 hr7=>?_
 refine A 6 ?_
 refine lP (E:=fun (s : (List Int) × Int) (g : Nat × Nat)=>[(2,.clo 127 [.fptr (.agg [.sl (set3.Out.map (eL Pa))]) 0]),(3,.clo 111 [.optr 8448 256 0 0,.fptr (.agg [.sl (visit5.Out.map (eL Pa))]) 0,.fptr (.int .i64 visit6) 0]),(4,.optr 4 g.1 0 0),(13,.osl 13 g.2 0 r7.length),(14,.int .i64 (r7.length : Int)),(15,.int .i64 s.2)]) (O:=fun s g=>[(4,some (g.1,⟨false,true,3,40,[.agg [.int .i64 f1.Params,.sl (f1.Slots.map Po),.sl (f1.Code.map Pn)]]⟩)),(13,some (g.2,⟨false,false,1,3,r7.map Pa⟩)),(8448,some (256,⟨false,true,1,30,[.sl (s.1.map Pa)]⟩))]) (body:=fun s=>PL r7 f1 set3 visit5 visit6 s.1 s.2) (s:=(visit4,0)) (_,_) ((hE ⟨rfl,r,r,r,r,r,trivial⟩ ⟨rfl,r,r,trivial⟩))<|?_
 rintro ⟨x8,x9⟩ ⟨v4x1,v13x1⟩ nn
 try dsimp only
 unfold PL
 exact B

def AgR (b : Int × Int × Bool) : D:=.tup [.int .i64 b.1,.int .i64 b.2.1,.bool b.2.2]
noncomputable def Acz : Dw.Spec:=Pf [] .ground Ql Qk (fun a=>Vt a.1 a.2) AgR noE
theorem AfZ : Pd Tryz.prog 83 Acz:=by
 refine fn2 2 (Pk (l:=[(82,Yv),(110,AcZ),(1879572589,Rz)]) (by simp [Abx,AgU,Yu])) Tryz.func83<|?_
 rintro ⟨f1,l2⟩
 unfold Vt
 refine A 8 ?_
 refine VC (E:=[(2,.optr 2 _ 0 0),(3,.fptr (.agg [.sl (l2.Out.map (eL Pa))]) 0)]) (O:=[(2,some (_,⟨false,true,3,40,[.agg [.int .i64 f1.Params,.sl (f1.Slots.map Po),.sl (f1.Code.map Pn)]]⟩))]) ((AeN (g:=3) r (by first | rfl | (simp [cells,frp,PA,PG]; done)) (hE ⟨(by first | rfl | (simp [Ps,frp]; done) | (simp [Ps,frp,PA]; done) | (simp [Ps,frp,PA,nbq]; done) | (simp [Ps,lkO,frp,PA,frO]; done) | (simp [Ps,lkO,frp,PA,frO]; rfl) | (simp [Ps,lkO,frp,PA,frO,nbq]; done)),(by first | rfl | (simp [Ps,frp]; done) | (simp [Ps,frp,PA]; done) | (simp [Ps,frp,PA,nbq]; done) | (simp [Ps,lkO,frp,PA,frO]; done) | (simp [Ps,lkO,frp,PA,frO]; rfl) | (simp [Ps,lkO,frp,PA,frO,nbq]; done)),trivial⟩ ⟨(by first | rfl | (simp [Ps,frp]; done) | (simp [Ps,frp,PA]; done) | (simp [Ps,frp,PA,nbq]; done) | (simp [Ps,lkO,frp,PA,frO]; done) | (simp [Ps,lkO,frp,PA,frO]; rfl) | (simp [Ps,lkO,frp,PA,frO,nbq]; done)),trivial⟩))) fun nn=>?_
 refine A 5 ?_
 refine bD fun r3 hr3=>?_
 refine A 4 ?_
 refine cD r ?_ ?_
 ·exact B
 ·refine A 12 ?_
  refine lP (E:=fun (s : Int) (g : Nat)=>[(2,.optr 2 g 0 0),(3,.fptr (.agg [.sl (l2.Out.map (eL Pa))]) 0),(15,.int .i64 (f1.Code.length : Int)),(16,.int .i64 s)]) (O:=fun _ g=>[(2,some (g,⟨false,true,3,40,[.agg [.int .i64 f1.Params,.sl (f1.Slots.map Po),.sl (f1.Code.map Pn)]]⟩))]) (body:=fun s=>Vu f1 l2 s) (s:=0) _ ((hE ⟨rfl,r,r,r,trivial⟩ ⟨rfl,trivial⟩))<|?_
  rintro x4 v2x1 nn
  try dsimp only
  unfold Vu
  refine A 6 ?_
  refine cD r ?_ ?_
  ·refine A 10 ?_
   refine VC (E:=[(2,.optr 2 _ 0 0),(3,.fptr (.agg [.sl (l2.Out.map (eL Pa))]) 0),(7,.fptr (.int .i64 x4) 0),(15,.int .i64 (f1.Code.length : Int)),(16,.int .i64 x4)]) (O:=[(2,some (_,⟨false,true,3,40,[.agg [.int .i64 f1.Params,.sl (f1.Slots.map Po),.sl (f1.Code.map Pn)]]⟩))]) ((AeN (g:=7) r (by first | rfl | (simp [cells,frp,PA,PG]; done)) (hE ⟨(by first | rfl | (simp [Ps,frp]; done) | (simp [Ps,frp,PA]; done) | (simp [Ps,frp,PA,nbq]; done) | (simp [Ps,lkO,frp,PA,frO]; done) | (simp [Ps,lkO,frp,PA,frO]; rfl) | (simp [Ps,lkO,frp,PA,frO,nbq]; done)),(by first | rfl | (simp [Ps,frp]; done) | (simp [Ps,frp,PA]; done) | (simp [Ps,frp,PA,nbq]; done) | (simp [Ps,lkO,frp,PA,frO]; done) | (simp [Ps,lkO,frp,PA,frO]; rfl) | (simp [Ps,lkO,frp,PA,frO,nbq]; done)),(by first | rfl | (simp [Ps,frp]; done) | (simp [Ps,frp,PA]; done) | (simp [Ps,frp,PA,nbq]; done) | (simp [Ps,lkO,frp,PA,frO]; done) | (simp [Ps,lkO,frp,PA,frO]; rfl) | (simp [Ps,lkO,frp,PA,frO,nbq]; done)),(by first | rfl | (simp [Ps,frp]; done) | (simp [Ps,frp,PA]; done) | (simp [Ps,frp,PA,nbq]; done) | (simp [Ps,lkO,frp,PA,frO]; done) | (simp [Ps,lkO,frp,PA,frO]; rfl) | (simp [Ps,lkO,frp,PA,frO,nbq]; done)),(by first | rfl | (simp [Ps,frp]; done) | (simp [Ps,frp,PA]; done) | (simp [Ps,frp,PA,nbq]; done) | (simp [Ps,lkO,frp,PA,frO]; done) | (simp [Ps,lkO,frp,PA,frO]; rfl) | (simp [Ps,lkO,frp,PA,frO,nbq]; done)),trivial⟩ ⟨(by first | rfl | (simp [Ps,frp]; done) | (simp [Ps,frp,PA]; done) | (simp [Ps,frp,PA,nbq]; done) | (simp [Ps,lkO,frp,PA,frO]; done) | (simp [Ps,lkO,frp,PA,frO]; rfl) | (simp [Ps,lkO,frp,PA,frO,nbq]; done)),trivial⟩))) fun nn=>?_
   refine A 10 ?_
   refine bD fun r5 hr5=>?_
   refine A 1 ?_
   refine mF (caps:=[.optr 8 _ 0 0,.fptr (.agg [.sl (l2.Out.map (eL Pa))]) 0,.fptr (.int .i64 x4) 0]) r r (by simp [Acx])<|bD fun r6 hr6=>cV (f1,x4,r5,[],l2,x4) rfl rfl (show _ = some Rz from by kernel_rfl) Ty rfl rfl (by simp) (by first | rfl | (simp only [OV]; rfl) | (simp only [OW]; rfl) | (simp only [OV,OW]; rfl) | simp [PS,PM,Qz,Qz]) hr6<|?_
   exact B
  ·exact B

def AgQ (b : Int) : D:=.int .i64 b
noncomputable def Acw : Dw.Spec:=Pf [] .ground Ql Qk (fun a=>Vs a.1 a.2) AgQ noE
theorem AfY : Pd Tryz.prog 59 Acw:=by
 refine fn2 2 (Pk (l:=[(82,Yv),(83,Acz)]) (by simp [Abx,AfZ])) Tryz.func59<|?_
 intro a
 unfold Vs
 exact B

def Rg (a : Pp × Ph) : List D:=[TN a.1,Qz a.2]
def Rf (ds : List D) : Pp × Ph:=(TS (ds.getD 0 .top),Wj (ds.getD 1 .top))
theorem Adm (a : Pp × Ph) : Rf (Rg a) = a:=by simp [Rf,Rg]
instance : Px Rg Rf:=⟨Adm⟩
def AdX (b : Int) : D:=.int .i64 b
noncomputable def VM : Dw.Spec:=Pf [] .ground Rg Rf (fun a=>Rx a.1 a.2) AdX noE
theorem ZE : Pd Tryz.prog 34 VM:=by
 refine fn2 2 (Pk (l:=[(42,VN),(59,Acw)]) (by simp [ZF,AfY])) Tryz.func34<|?_
 intro a
 unfold Rx
 exact B

def Akg (b : Bool) : D:=.bool b
noncomputable def Afe : Dw.Spec:=Pf [] .ground SC SB (fun a=>AbT a.1 a.2) Akg noE
theorem AiV : Pd Tryz.prog 115 Afe:=by
 refine fn2 2 (Pv) Tryz.func115<|?_
 intro a
 unfold AbT
 exact B

def Ahy (b : Bool) : D:=.bool b
noncomputable def AcR : Dw.Spec:=Pf [] .ground SC SB (fun a=>Wo a.1 a.2) Ahy noE
theorem AgP : Pd Tryz.prog 85 AcR:=by
 refine fn2 2 (Pk (l:=[(114,AbC),(115,Afe)]) (by simp [Adu,AiV])) Tryz.func85<|?_
 intro a
 unfold Wo
 exact B

def Sr (a : Pp × Ph × Int) : List D:=[TN a.1,Qz a.2.1,.int .i64 a.2.2]
def Sq (ds : List D) : Pp × Ph × Int:=(TS (ds.getD 0 .top),Wj (ds.getD 1 .top),uI (ds.getD 2 .top))
theorem Adj (a : Pp × Ph × Int) : Sq (Sr a) = a:=by simp [Sq,Sr,uI]
instance : Px Sr Sq:=⟨Adj⟩
def AdV (b : Int × Bool) : D:=.tup [.int .i64 b.1,.bool b.2]
noncomputable def ZQ : Dw.Spec:=Pf [] .ground Sr Sq (fun a=>Sp a.1 a.2.1 a.2.2) AdV noE
theorem Adk : Pd Tryz.prog 60 ZQ:=by
 refine fn2 3 (Pk (l:=[(84,Aax),(86,Uj),(85,AcR)]) (by simp [Acs,Xs,AgP])) Tryz.func60<|?_
 rintro ⟨s1,l2,k3⟩
 unfold Sp
 refine A 14 ?_
 refine bD fun x_x4 hx_x4=>?_
 refine A 9 ?_
 refine bD fun r5 hr5=>?_
 refine A 8 ?_
 refine sC (E:=fun (_s : Unit) (g : Nat × Nat)=>[(2,.int .i64 k3),(3,.optr 3 g.1 0 0),(4,.optr 4 g.2 0 0),(9,.int .i64 r5.1)]) (O:=fun _ g=>[(3,some (g.1,⟨false,true,9,78,[.agg [.sl (s1.p.Funcs.map PM),.int .i64 s1.i,.int .i64 s1.align,.int .i64 s1.f.Params,.sl (s1.f.Slots.map Po),.sl (s1.f.Code.map Pn),.int .i64 s1.y.Args,.int .i64 s1.y.Size,.sl (s1.y.Off.map Pa)]]⟩)),(4,some (g.2,⟨false,true,1,29,[.agg [.sl (l2.Out.map (eL Pa))]]⟩))]) (j:=fun _=>QG l2 k3 r5 s1) ?_ ?_
 ·exact B
 ·rintro ⟨⟩ ⟨v3x1,v4x1⟩ nn
  try dsimp only
  unfold QG
  refine A 6 ?_
  refine bD fun x_x8 hx_x8=>?_
  refine A 7 ?_
  refine lP (E:=fun (s : Int) (g : Nat)=>[(3,.optr 3 g 0 0),(9,.int .i64 r5.1),(52,.sl (x_x8.map Pa)),(53,.int .i64 (x_x8.length : Int)),(54,.int .i64 s)]) (O:=fun _ g=>[(3,some (g,⟨false,true,9,78,[.agg [.sl (s1.p.Funcs.map PM),.int .i64 s1.i,.int .i64 s1.align,.int .i64 s1.f.Params,.sl (s1.f.Slots.map Po),.sl (s1.f.Code.map Pn),.int .i64 s1.y.Args,.int .i64 s1.y.Size,.sl (s1.y.Off.map Pa)]]⟩))]) (body:=fun s=>SM x_x8 r5 s1 s) (s:=0) _ ((hE ⟨rfl,r,r,r,r,trivial⟩ ⟨rfl,trivial⟩))<|?_
  rintro x9 v3x2 nn
  try dsimp only
  unfold SM
  exact B

def AdW (b : Int × Int × Bool) : D:=.tup [.int .i64 b.1,.int .i64 b.2.1,.bool b.2.2]
noncomputable def VL : Dw.Spec:=Pf [] .ground Rg Rf (fun a=>Rv a.1 a.2) AdW noE
theorem ZC : Pd Tryz.prog 35 VL:=by
 refine fn2 2 (Pk (l:=[(60,ZQ)]) (by simp [Adk])) Tryz.func35<|?_
 rintro ⟨s1,l2⟩
 unfold Rv
 refine A 20 ?_
 refine lP (E:=fun (s : Int) (g : Nat × Nat)=>[(2,.optr 2 g.1 0 0),(3,.optr 3 g.2 0 0),(13,.int .i64 (s1.f.Code.length : Int)),(14,.int .i64 s)]) (O:=fun _ g=>[(2,some (g.1,⟨false,true,9,78,[.agg [.sl (s1.p.Funcs.map PM),.int .i64 s1.i,.int .i64 s1.align,.int .i64 s1.f.Params,.sl (s1.f.Slots.map Po),.sl (s1.f.Code.map Pn),.int .i64 s1.y.Args,.int .i64 s1.y.Size,.sl (s1.y.Off.map Pa)]]⟩)),(3,some (g.2,⟨false,true,1,29,[.agg [.sl (l2.Out.map (eL Pa))]]⟩))]) (body:=fun s=>SN s1 l2 s) (s:=0) (_,_) ((hE ⟨rfl,r,r,r,trivial⟩ ⟨rfl,r,trivial⟩))<|?_
 rintro x3 ⟨v2x1,v3x1⟩ nn
 try dsimp only
 unfold SN
 exact B

def UF (a : Pj × Int × Int × Ph × Pg) : List D:=[RE a.1,.int .i64 a.2.1,.int .i64 a.2.2.1,Qz a.2.2.2.1,Qh a.2.2.2.2]
def UE (ds : List D) : Pj × Int × Int × Ph × Pg:=(VV (ds.getD 0 .top),uI (ds.getD 1 .top),uI (ds.getD 2 .top),Wj (ds.getD 3 .top),AeI (ds.getD 4 .top))
theorem Ail (a : Pj × Int × Int × Ph × Pg) : UE (UF a) = a:=by simp [UE,UF,uI]
instance : Px UF UE:=⟨Ail⟩
def Aje (b : Int × Int × Bool) : D:=.tup [.int .i64 b.1,.int .i64 b.2.1,.bool b.2.2]
noncomputable def Aet : Dw.Spec:=Pf [] .ground UF UE (fun a=>Yt a.1 a.2.1 a.2.2.1 a.2.2.2.1 a.2.2.2.2) Aje noE
theorem Aim : Pd Tryz.prog 18 Aet:=by
 refine fn2 5 (Pk (l:=[(34,VM),(35,VL)]) (by simp [ZE,ZC])) Tryz.func18<|?_
 intro a
 unfold Yt
 exact B

def Ajd (b : Int) : D:=.int .i64 b
noncomputable def Aes : Dw.Spec:=Pf [] .ground UF UE (fun a=>Ys a.1 a.2.1 a.2.2.1 a.2.2.2.1 a.2.2.2.2) Ajd noE
theorem Aik : Pd Tryz.prog 12 Aes:=by
 refine fn2 5 (Pk (l:=[(34,VM),(35,VL)]) (by simp [ZE,ZC])) Tryz.func12<|?_
 intro a
 unfold Ys
 exact B

def Qs (a : (List Int)) : List D:=[.sl (a.map eU8)]
def Qr (ds : List D) : (List Int):=(uL uI) (ds.getD 0 .top)
theorem TZ (a : (List Int)) : Qr (Qs a) = a:=by simp [Qr,Qs,PV (u:=uI) (en:=eU8) (fun _=>rfl)]
instance : Px Qs Qr:=⟨TZ⟩
def ZM (b : Bool) : D:=.bool b
noncomputable def ZN : Dw.Spec:=Pf [] .ground Qs Qr (fun a=>Qi a) ZM noE
theorem ZJ : Pd Tryz.prog 7 ZN:=by
 refine fn2 1 (Pk (l:=[(8,Aff),(9,Afg),(10,Yn),(22,AbQ),(24,YI),(23,AbR),(25,AbS),(18,Aet),(11,Aaz),(12,Aes)]) (by simp [Ajb,Ajc,Abw,AdE,Aau,AdJ,AdK,Aim,AcA,Aik])) Tryz.func7<|?_
 intro codes1
 unfold Qi
 refine A 8 ?_
 refine bD fun r2 hr2=>?_
 refine A 4 ?_
 refine cD r ?_ ?_
 ·exact B
 ·refine A 5 ?_
  refine bD fun r3 hr3=>AiC (rs:=[RE r3.1,.int .i64 r3.2.1,.int .i64 r3.2.2.1,Qz r3.2.2.2.1,Qh r3.2.2.2.2.1,Pz r3.2.2.2.2.2]) (z:=Pz r3.2.2.2.2.2) codes1 r r r Aer r r (by simp) r hr3 r r<|?_
  refine A 23 ?_
  refine bD fun x_x4 hx_x4=>?_
  refine A 10 ?_
  refine bD fun r5 hr5=>?_
  refine A 9 ?_
  refine bD fun r6 hr6=>?_
  refine A 15 ?_
  refine bD fun r7 hr7=>?_
  refine A 1 ?_
  refine bD fun r8 hr8=>?_
  refine A 14 ?_
  refine bD fun r9 hr9=>?_
  refine A 9 ?_
  refine sC (E:=fun (_s : Unit) (g : Nat × Nat × Nat)=>[(3,.optr 3 g.1 0 0),(4,.int .i64 r3.2.1),(5,.int .i64 r3.2.2.1),(10,.optr 10 g.2.1 0 0),(15,.optr 15 g.2.2 0 0)]) (O:=fun _ g=>[(3,some (g.1,⟨false,true,1,26,[.agg [.sl (r3.1.Funcs.map PM)]]⟩)),(10,some (g.2.1,⟨false,true,1,29,[.agg [.sl (r5.1.Out.map (eL Pa))]]⟩)),(15,some (g.2.2,⟨false,true,3,32,[.agg [.int .i64 r9.1.Args,.int .i64 r9.1.Size,.sl (r9.1.Off.map Pa)]]⟩))]) (j:=fun _=>Qx r3 r5 r9) ?_ ?_
  ·exact B
  ·rintro ⟨⟩ ⟨v3x1,v10x1,v15x1⟩ nn
   try dsimp only
   unfold Qx
   exact B

end Go.Proofs.YtnldnldmgceooaaGreatDoor
