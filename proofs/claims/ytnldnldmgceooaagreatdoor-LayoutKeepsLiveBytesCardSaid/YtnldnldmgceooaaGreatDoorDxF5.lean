/-
  Programs on typed data, and the proofs that the code does what they say; written by a program (dx.py).
-/
import Derived.Test.YtnldnldmgceooaaGreatDoorProg
import Derived.Test.YtnldnldmgceooaaGreatDoorDd
import Derived.KernelRfl
import Derived.Test.YtnldnldmgceooaaGreatDoorSh
import Derived.Test.YtnldnldmgceooaaGreatDoorDxP
import Derived.Test.YtnldnldmgceooaaGreatDoorDxF1
import Derived.Test.YtnldnldmgceooaaGreatDoorDxF2
import Derived.Test.YtnldnldmgceooaaGreatDoorDxF3
import Derived.Test.YtnldnldmgceooaaGreatDoorDxF4
namespace Go.Proofs.YtnldnldmgceooaaGreatDoor
open Go Go.Dw Go.Proofs
set_option maxRecDepth 100000
set_option maxHeartbeats 4000000
open Go.Dw renaming QW → bD,PO → cK,Adu → cV,AcT → cD,AaE → hE,Adt → cP,AeY → lP,Abu → sC,Wz → bC,Anl → mF,rf → r
def SJ (a : OY) : List D:=[PD a]
def SI (ds : List D) : OY:=Rn (ds.getD 0 .top)
theorem AdZ (a : OY) : SI (SJ a) = a:=by simp [SI,SJ]
instance : Px SJ SI:=⟨AdZ⟩
def Aex (b : (List Int) × OY) : D:=.sl (b.1.map Pa)
def Aew (b : (List Int) × OY) : List D:=[PD b.2]
noncomputable def RO : Dw.Spec:=Pf [(0,(8,160))] (.row 1 3) SJ SI (fun a=>Qs a) Aex Aew
theorem Tk : Pd Tryz.prog 131 RO:=by
 refine fn2 1 (Pk (l:=[(140,Amx)]) (by simp [ApK])) Tryz.func131<|?_
 intro s1
 unfold Qs
 refine A 18 ?_
 refine lP (E:=fun (s : (List Int) × Int) (g : Nat)=>[(3,.osl 3 g 0 s.1.length),(6,.optr 8192 0 0 0),(7,.int .i64 s.2)]) (O:=fun s g=>[(3,some (g,⟨false,false,1,3,s.1.map Pa⟩)),(8192,some (0,⟨false,true,8,160,[.agg [.int .u64 s1.a0,.int .u64 s1.a1,.int .u64 s1.a2,.int .u64 s1.a3,.int .u64 s1.a4,.int .u64 s1.a5,.int .u64 s1.a6,.int .u64 s1.a7]]⟩))]) (body:=fun s=>Ti s1 s.1 s.2) (s:=(([] : List Int),0)) _ ((hE ⟨rfl,r,r,trivial⟩ ⟨rfl,r,trivial⟩))<|?_
 rintro ⟨l2,x3⟩ v3x1 nn
 try dsimp only
 unfold Ti
 refine A 6 ?_
 refine cD r ?_ ?_
 ·refine A 8 ?_
  refine cK fun hq=>Uy r r r hq<|bD fun s_e4 hs_e4=>WZ (q:=s_e4) (l:=s1.toList) (en:=Aat) (j:=x3.toNat) (by simp) r r r hs_e4 r (fun _=>r)<|?_
  refine A 5 ?_
  refine lP (E:=fun (s : (List Int) × Int) (g : Nat)=>[(3,.osl 3 g 0 s.1.length),(4,.int .i64 x3),(5,.int .u64 s.2),(6,.optr 8192 0 0 0),(7,.int .i64 x3)]) (O:=fun s g=>[(3,some (g,⟨false,false,1,3,s.1.map Pa⟩)),(8192,some (0,⟨false,true,8,160,[.agg [.int .u64 s1.a0,.int .u64 s1.a1,.int .u64 s1.a2,.int .u64 s1.a3,.int .u64 s1.a4,.int .u64 s1.a5,.int .u64 s1.a6,.int .u64 s1.a7]]⟩))]) (body:=fun s=>Tj x3 s.1 s.2) (s:=(l2,s_e4)) _ ((hE ⟨rfl,r,r,r,r,trivial⟩ ⟨rfl,r,trivial⟩))<|?_
  rintro ⟨l5,x6⟩ v3x2 nn
  try dsimp only
  unfold Tj
  exact B
 ·exact B

def Ais (b : (List Int)) : D:=.sl (b.map Pa)
noncomputable def AdE : Dw.Spec:=Pf [] .val Rk Rj (fun a=>UU a.1 a.2) Ais noE
theorem AhD : Pd Tryz.prog 136 AdE:=by
 refine fn2 2 (Pk (l:=[(128,Ve),(139,WE),(131,RO)]) (by simp [WD,Aay,Tk])) Tryz.func136<|?_
 intro a
 unfold UU
 exact B

def Akt (b : (List Int)) : D:=.sl (b.map Pa)
noncomputable def Aft : Dw.Spec:=Pf [] (.row 1 3) Qu Qt (fun a=>Xm a) Akt noE
theorem Ajj : Pd Tryz.prog 138 Aft:=by
 refine fn2 1 (Pv) Tryz.func138<|?_
 intro a
 unfold Xm
 exact B

def AmD (b : (List Int)) : D:=.sl (b.map Pa)
noncomputable def Ahn : Dw.Spec:=Pf [] (.row 1 3) Ss Sr (fun a=>Yd a) AmD noE
theorem Alz : Pd Tryz.prog 137 Ahn:=by
 refine fn2 1 (Pk (l:=[(128,Ve),(131,RO)]) (by simp [WD,Tk])) Tryz.func137<|?_
 intro a
 unfold Yd
 exact B

def Tw (a : Int × Int) : List D:=[.int .u64 a.1,.int .u64 a.2]
def Tv (ds : List D) : Int × Int:=(uI (ds.getD 0 .top),uI (ds.getD 1 .top))
theorem AgR (a : Int × Int) : Tv (Tw a) = a:=by simp [Tv,Tw,uI]
instance : Px Tw Tv:=⟨AgR⟩
def AhE (b : Int) : D:=.int .u64 b
noncomputable def AcY : Dw.Spec:=Pf [] .ground Tw Tv (fun a=>Wb a.1 a.2) AhE noE
theorem AgS : Pd Tryz.prog 130 AcY:=by
 refine fn2 2 (Pv) Tryz.func130<|?_
 intro a
 unfold Wb
 exact B

def QN (a : OY × OY) : List D:=[PD a.1,PD a.2,.clo 130 []]
def QM (ds : List D) : OY × OY:=(Rn (ds.getD 0 .top),Rn (ds.getD 1 .top))
theorem Vg (a : OY × OY) : QM (QN a) = a:=by simp [QM,QN]
instance : Px QN QM:=⟨Vg⟩
def Aby (b : OY × OY × OY) : D:=PD b.1
def Abx (b : OY × OY × OY) : List D:=[PD b.2.1,PD b.2.2]
noncomputable def SG : Dw.Spec:=Pf [(0,(8,160)),(1,(8,160))] (.ptr 8 160) QN QM (fun a=>Qz a.1 a.2) Aby Abx
theorem AaR : Pd Tryz.prog 129 SG:=by
 refine fn2 3 (Pk (l:=[(130,AcY)]) (by simp [AgS])) Tryz.func129<|?_
 rintro ⟨s1,t2⟩
 unfold Qz
 refine A 19 ?_
 refine lP (E:=fun (s : OY × Int) (g : Nat)=>[(0,.optr 8192 0 0 0),(1,.optr 8193 1 0 0),(2,.clo 130 []),(7,.optr 10 g 0 0),(11,.int .i64 s.2)]) (O:=fun s g=>[(10,some (g,⟨false,true,8,160,[.agg [.int .u64 s.1.a0,.int .u64 s.1.a1,.int .u64 s.1.a2,.int .u64 s.1.a3,.int .u64 s.1.a4,.int .u64 s.1.a5,.int .u64 s.1.a6,.int .u64 s.1.a7]]⟩)),(8192,some (0,⟨false,true,8,160,[.agg [.int .u64 s1.a0,.int .u64 s1.a1,.int .u64 s1.a2,.int .u64 s1.a3,.int .u64 s1.a4,.int .u64 s1.a5,.int .u64 s1.a6,.int .u64 s1.a7]]⟩)),(8193,some (1,⟨false,true,8,160,[.agg [.int .u64 t2.a0,.int .u64 t2.a1,.int .u64 t2.a2,.int .u64 t2.a3,.int .u64 t2.a4,.int .u64 t2.a5,.int .u64 t2.a6,.int .u64 t2.a7]]⟩))]) (body:=fun s=>Qo s1 t2 s.1 s.2) (s:=((OY.mk 0 0 0 0 0 0 0 0),0)) _ ((hE ⟨rfl,r,r,r,r,trivial⟩ ⟨rfl,r,r,trivial⟩))<|?_
 rintro ⟨x3,x4⟩ v10x1 nn
 try dsimp only
 unfold Qo
 refine A 6 ?_
 refine cD r ?_ ?_
 ·refine A 17 ?_
  refine cK fun hq=>Uy r r r hq<|bD fun s_e5 hs_e5=>WZ (q:=s_e5) (l:=s1.toList) (en:=Aat) (j:=x4.toNat) (by simp) r r r hs_e5 r (fun _=>r)<|?_
  refine A 3 ?_
  refine cK fun hq=>Uy r r r hq<|bD fun t_e6 ht_e6=>WZ (q:=t_e6) (l:=t2.toList) (en:=Aat) (j:=x4.toNat) (by simp) r r r ht_e6 r (fun _=>r)<|bD fun r7 hr7=>?_
  refine A 2 ?_
  refine cK fun hq=>Uy r r r hq<|bD fun x_o8 hx_o8=>Ajc (q:=x_o8) (q':=r7) (l:=x3.toList) (en:=Aat) (j:=x4.toNat) (z':=.agg [.int .u64 ((x3.set x4.toNat r7).a0),.int .u64 ((x3.set x4.toNat r7).a1),.int .u64 ((x3.set x4.toNat r7).a2),.int .u64 ((x3.set x4.toNat r7).a3),.int .u64 ((x3.set x4.toNat r7).a4),.int .u64 ((x3.set x4.toNat r7).a5),.int .u64 ((x3.set x4.toNat r7).a6),.int .u64 ((x3.set x4.toNat r7).a7)]) (by simp) r r r r r hx_o8 r r (congrArg (fun l=>D.agg (l.map Aat)) (Rq x3 x4.toNat r7).symm)<|?_
  exact B
 ·exact B

def Aji (b : (List Int)) : D:=.sl (b.map Pa)
noncomputable def AbI : Dw.Spec:=Pf [] .val RE RD (fun a=>Tu a.1 a.2) Aji noE
theorem AdF : Pd Tryz.prog 112 AbI:=by
 refine fn2 2 (Pk (l:=[(128,Ve),(536705,SG),(131,RO)]) (by simp [WD,AaR,Tk])) Tryz.func112<|?_
 rintro ⟨a1,b2⟩
 unfold Tu
 refine A 8 ?_
 refine bD fun r3 hr3=>?_
 refine A 2 ?_
 refine bD fun r4 hr4=>?_
 refine A 1 ?_
 refine bD fun r5 hr5=>cP (r3,r4) rfl rfl (show _ = some SG from by kernel_rfl) Vg rfl rfl (by simp) r hr5<|?_
 exact B

def AmJ (b : (List Int)) : D:=.sl (b.map Pa)
noncomputable def Ahq : Dw.Spec:=Pf [] .val Wt Ws (fun a=>Acg a.1 a.2) AmJ noE
theorem AlH : Pd Tryz.prog 126 Ahq:=by
 refine fn2 2 (Pk (l:=[(84,Aau),(136,AdE),(138,Aft),(137,Ahn),(112,AbI)]) (by simp [AcE,AhD,Ajj,Alz,AdF])) Tryz.func126<|?_
 intro a
 unfold Acg
 exact B

def AhC (b : Int) : D:=.int .u64 b
noncomputable def AcX : Dw.Spec:=Pf [] .ground Tw Tv (fun a=>Wa a.1 a.2) AhC noE
theorem AgQ : Pd Tryz.prog 132 AcX:=by
 refine fn2 2 (Pv) Tryz.func132<|?_
 intro a
 unfold Wa
 exact B

def QL (a : OY × OY) : List D:=[PD a.1,PD a.2,.clo 132 []]
def QK (ds : List D) : OY × OY:=(Rn (ds.getD 0 .top),Rn (ds.getD 1 .top))
theorem Vf (a : OY × OY) : QK (QL a) = a:=by simp [QK,QL]
instance : Px QL QK:=⟨Vf⟩
def Abw (b : OY × OY × OY) : D:=PD b.1
def Abv (b : OY × OY × OY) : List D:=[PD b.2.1,PD b.2.2]
noncomputable def SF : Dw.Spec:=Pf [(0,(8,160)),(1,(8,160))] (.ptr 8 160) QL QK (fun a=>Qy a.1 a.2) Abw Abv
theorem AaQ : Pd Tryz.prog 129 SF:=by
 refine fn2 3 (Pk (l:=[(132,AcX)]) (by simp [AgQ])) Tryz.func129<|?_
 rintro ⟨s1,t2⟩
 unfold Qy
 refine A 19 ?_
 refine lP (E:=fun (s : OY × Int) (g : Nat)=>[(0,.optr 8192 0 0 0),(1,.optr 8193 1 0 0),(2,.clo 132 []),(7,.optr 10 g 0 0),(11,.int .i64 s.2)]) (O:=fun s g=>[(10,some (g,⟨false,true,8,160,[.agg [.int .u64 s.1.a0,.int .u64 s.1.a1,.int .u64 s.1.a2,.int .u64 s.1.a3,.int .u64 s.1.a4,.int .u64 s.1.a5,.int .u64 s.1.a6,.int .u64 s.1.a7]]⟩)),(8192,some (0,⟨false,true,8,160,[.agg [.int .u64 s1.a0,.int .u64 s1.a1,.int .u64 s1.a2,.int .u64 s1.a3,.int .u64 s1.a4,.int .u64 s1.a5,.int .u64 s1.a6,.int .u64 s1.a7]]⟩)),(8193,some (1,⟨false,true,8,160,[.agg [.int .u64 t2.a0,.int .u64 t2.a1,.int .u64 t2.a2,.int .u64 t2.a3,.int .u64 t2.a4,.int .u64 t2.a5,.int .u64 t2.a6,.int .u64 t2.a7]]⟩))]) (body:=fun s=>Qn s1 t2 s.1 s.2) (s:=((OY.mk 0 0 0 0 0 0 0 0),0)) _ ((hE ⟨rfl,r,r,r,r,trivial⟩ ⟨rfl,r,r,trivial⟩))<|?_
 rintro ⟨x3,x4⟩ v10x1 nn
 try dsimp only
 unfold Qn
 refine A 6 ?_
 refine cD r ?_ ?_
 ·refine A 17 ?_
  refine cK fun hq=>Uy r r r hq<|bD fun s_e5 hs_e5=>WZ (q:=s_e5) (l:=s1.toList) (en:=Aat) (j:=x4.toNat) (by simp) r r r hs_e5 r (fun _=>r)<|?_
  refine A 3 ?_
  refine cK fun hq=>Uy r r r hq<|bD fun t_e6 ht_e6=>WZ (q:=t_e6) (l:=t2.toList) (en:=Aat) (j:=x4.toNat) (by simp) r r r ht_e6 r (fun _=>r)<|bD fun r7 hr7=>?_
  refine A 2 ?_
  refine cK fun hq=>Uy r r r hq<|bD fun x_o8 hx_o8=>Ajc (q:=x_o8) (q':=r7) (l:=x3.toList) (en:=Aat) (j:=x4.toNat) (z':=.agg [.int .u64 ((x3.set x4.toNat r7).a0),.int .u64 ((x3.set x4.toNat r7).a1),.int .u64 ((x3.set x4.toNat r7).a2),.int .u64 ((x3.set x4.toNat r7).a3),.int .u64 ((x3.set x4.toNat r7).a4),.int .u64 ((x3.set x4.toNat r7).a5),.int .u64 ((x3.set x4.toNat r7).a6),.int .u64 ((x3.set x4.toNat r7).a7)]) (by simp) r r r r r hx_o8 r r (congrArg (fun l=>D.agg (l.map Aat)) (Rq x3 x4.toNat r7).symm)<|?_
  exact B
 ·exact B

def Ajh (b : (List Int)) : D:=.sl (b.map Pa)
noncomputable def Aev : Dw.Spec:=Pf [] .val RE RD (fun a=>VZ a.1 a.2) Ajh noE
theorem Air : Pd Tryz.prog 113 Aev:=by
 refine fn2 2 (Pk (l:=[(128,Ve),(544897,SF),(131,RO)]) (by simp [WD,AaQ,Tk])) Tryz.func113<|?_
 rintro ⟨a1,b2⟩
 unfold VZ
 refine A 8 ?_
 refine bD fun r3 hr3=>?_
 refine A 2 ?_
 refine bD fun r4 hr4=>?_
 refine A 1 ?_
 refine bD fun r5 hr5=>cP (r3,r4) rfl rfl (show _ = some SF from by kernel_rfl) Vf rfl rfl (by simp) r hr5<|?_
 exact B

def Re (a : (List Int) × (List Int) × Pg × Int) : List D:=[.sl (a.1.map Pa),.sl (a.2.1.map Pa),.fptr (Qv a.2.2.1) 0,.fptr (.int .i64 a.2.2.2) 0]
def Rc (ds : List D) : (List Int) × (List Int) × Pg × Int:=((uL uI) (ds.getD 0 .top),(uL uI) (ds.getD 1 .top),VA (fpD (ds.getD 2 .top)),uI (fpD (ds.getD 3 .top)))
theorem AbO (a : (List Int) × (List Int) × Pg × Int) : Rc (Re a) = a:=by simp [Rc,Re,uI,fpD,PX (u:=uI) (en:=Pa) (fun _=>rfl)]
instance : Px Re Rc:=⟨AbO⟩
def Ack (b : Bool × (List Int)) : D:=.bool b.1
def Acj (b : Bool × (List Int)) : List D:=[.sl (b.2.map Pa)]
noncomputable def WA : Dw.Spec:=Pf [(1,(1,30))] .val Re Rc (fun a=>Sb a.1 a.2.1 a.2.2.1 a.2.2.2) Ack Acj
theorem AbP : Pd Tryz.prog 111 WA:=by
 refine fn2 4 (Pk (l:=[(113,Aev),(112,AbI)]) (by simp [Air,AdF])) Tryz.func111<|?_
 rintro ⟨need1,cap2,cap3,cap4⟩
 unfold Sb
 refine A 12 ?_
 refine bD fun x_x5 hx_x5=>?_
 refine A 2 ?_
 refine bD fun r6 hr6=>?_
 refine A 1 ?_
 refine bD fun r7 hr7=>?_
 refine A 1 ?_
 refine Xu (i:=0) (es':=[.sl (r7.map Pa)]) r r r r r r r (by first | trivial | (simp; done) | (simp; omega)) r r r r r r<|?_
 exact B

def PU (a : OX × Int × Pg × (List Int) × Pg × Int) : List D:=[PL a.1,.int .i64 a.2.1,.clo 127 [.fptr (Qv a.2.2.1) 0],.clo 111 [.sl (a.2.2.2.1.map Pa),.fptr (Qv a.2.2.2.2.1) 0,.fptr (.int .i64 a.2.2.2.2.2) 0]]
def Qk (ds : List D) : OX × Int × Pg × (List Int) × Pg × Int:=(Sy (ds.getD 0 .top),uI (ds.getD 1 .top),VA (fpD (AhF (ds.getD 2 .top) 0)),(uL uI) (AhF (ds.getD 3 .top) 0),VA (fpD (AhF (ds.getD 3 .top) 1)),uI (fpD (AhF (ds.getD 3 .top) 2)))
theorem Tz (a : OX × Int × Pg × (List Int) × Pg × Int) : Qk (PU a) = a:=by simp [Qk,PU,uI,fpD,AhF,PX (u:=uI) (en:=Pa) (fun _=>rfl)]
instance : Px PU Qk:=⟨Tz⟩
def YF (b : Bool × (List Int)) : D:=.bool b.1
def YE (b : Bool × (List Int)) : List D:=[.sl (b.2.map Pa)]
noncomputable def Ry : Dw.Spec:=Pf [(256,(1,30))] .val PU Qk (fun a=>Qf a.1 a.2.1 a.2.2.1 a.2.2.2.1 a.2.2.2.2.1 a.2.2.2.2.2) YF YE
theorem Ym : Pd Tryz.prog 109 Ry:=by
 refine fn2 4 (Pk (l:=[(125,Ahs),(127,AaG),(126,Ahq),(111,WA)]) (by simp [AlM,Ael,AlH,AbP])) Tryz.func109<|?_
 rintro ⟨f1,k2,set3,visit4,visit5,visit6⟩
 unfold Qf
 refine A 11 ?_
 refine bD fun r7 hr7=>?_
 refine A 6 ?_
 refine lP (E:=fun (s : (List Int) × Int) (g : Nat × Nat)=>[(2,.clo 127 [.fptr (.agg [.sl (set3.Out.map (eL Pa))]) 0]),(3,.clo 111 [.optr 8448 256 0 0,.fptr (.agg [.sl (visit5.Out.map (eL Pa))]) 0,.fptr (.int .i64 visit6) 0]),(4,.optr 4 g.1 0 0),(13,.osl 13 g.2 0 r7.length),(14,.int .i64 (r7.length : Int)),(15,.int .i64 s.2)]) (O:=fun s g=>[(4,some (g.1,⟨false,true,3,40,[.agg [.int .i64 f1.Params,.sl (f1.Slots.map Pn),.sl (f1.Code.map Pm)]]⟩)),(13,some (g.2,⟨false,false,1,3,r7.map Pa⟩)),(8448,some (256,⟨false,true,1,30,[.sl (s.1.map Pa)]⟩))]) (body:=fun s=>PK r7 f1 set3 visit5 visit6 s.1 s.2) (s:=(visit4,0)) (_,_) ((hE ⟨rfl,r,r,r,r,r,trivial⟩ ⟨rfl,r,r,trivial⟩))<|?_
 rintro ⟨x8,x9⟩ ⟨v4x1,v13x1⟩ nn
 try dsimp only
 unfold PK
 exact B

def Ahi (b : Int × Int × Bool) : D:=.tup [.int .i64 b.1,.int .i64 b.2.1,.bool b.2.2]
noncomputable def AcH : Dw.Spec:=Pf [] .ground Qm Ql (fun a=>Vt a.1 a.2) Ahi noE
theorem Ago : Pd Tryz.prog 83 AcH:=by
 refine fn2 2 (Pk (l:=[(82,Yn),(110,Adh),(1879572589,Ry)]) (by simp [AbD,Ahk,Ym])) Tryz.func83<|?_
 rintro ⟨f1,l2⟩
 unfold Vt
 refine A 8 ?_
 refine VL (E:=[(2,.optr 2 _ 0 0),(3,.fptr (.agg [.sl (l2.Out.map (eL Pa))]) 0)]) (O:=[(2,some (_,⟨false,true,3,40,[.agg [.int .i64 f1.Params,.sl (f1.Slots.map Pn),.sl (f1.Code.map Pm)]]⟩))]) ((Afl (g:=3) r (by first | rfl | (simp [cells,frp,PA,PH]; done)) (hE ⟨(by first | rfl | (simp [Ps,frp]; done) | (simp [Ps,frp,PA]; done) | (simp [Ps,frp,PA,nbq]; done) | (simp [Ps,lkO,frp,PA,frO]; done) | (simp [Ps,lkO,frp,PA,frO]; rfl) | (simp [Ps,lkO,frp,PA,frO,nbq]; done)),(by first | rfl | (simp [Ps,frp]; done) | (simp [Ps,frp,PA]; done) | (simp [Ps,frp,PA,nbq]; done) | (simp [Ps,lkO,frp,PA,frO]; done) | (simp [Ps,lkO,frp,PA,frO]; rfl) | (simp [Ps,lkO,frp,PA,frO,nbq]; done)),trivial⟩ ⟨(by first | rfl | (simp [Ps,frp]; done) | (simp [Ps,frp,PA]; done) | (simp [Ps,frp,PA,nbq]; done) | (simp [Ps,lkO,frp,PA,frO]; done) | (simp [Ps,lkO,frp,PA,frO]; rfl) | (simp [Ps,lkO,frp,PA,frO,nbq]; done)),trivial⟩))) fun nn=>?_
 refine A 5 ?_
 refine bD fun r3 hr3=>?_
 refine A 4 ?_
 refine cD r ?_ ?_
 ·exact B
 ·refine A 12 ?_
  refine lP (E:=fun (s : Int) (g : Nat)=>[(2,.optr 2 g 0 0),(3,.fptr (.agg [.sl (l2.Out.map (eL Pa))]) 0),(15,.int .i64 (f1.Code.length : Int)),(16,.int .i64 s)]) (O:=fun _ g=>[(2,some (g,⟨false,true,3,40,[.agg [.int .i64 f1.Params,.sl (f1.Slots.map Pn),.sl (f1.Code.map Pm)]]⟩))]) (body:=fun s=>Vu f1 l2 s) (s:=0) _ ((hE ⟨rfl,r,r,r,trivial⟩ ⟨rfl,trivial⟩))<|?_
  rintro x4 v2x1 nn
  try dsimp only
  unfold Vu
  refine A 6 ?_
  refine cD r ?_ ?_
  ·refine A 10 ?_
   refine VL (E:=[(2,.optr 2 _ 0 0),(3,.fptr (.agg [.sl (l2.Out.map (eL Pa))]) 0),(7,.fptr (.int .i64 x4) 0),(15,.int .i64 (f1.Code.length : Int)),(16,.int .i64 x4)]) (O:=[(2,some (_,⟨false,true,3,40,[.agg [.int .i64 f1.Params,.sl (f1.Slots.map Pn),.sl (f1.Code.map Pm)]]⟩))]) ((Afl (g:=7) r (by first | rfl | (simp [cells,frp,PA,PH]; done)) (hE ⟨(by first | rfl | (simp [Ps,frp]; done) | (simp [Ps,frp,PA]; done) | (simp [Ps,frp,PA,nbq]; done) | (simp [Ps,lkO,frp,PA,frO]; done) | (simp [Ps,lkO,frp,PA,frO]; rfl) | (simp [Ps,lkO,frp,PA,frO,nbq]; done)),(by first | rfl | (simp [Ps,frp]; done) | (simp [Ps,frp,PA]; done) | (simp [Ps,frp,PA,nbq]; done) | (simp [Ps,lkO,frp,PA,frO]; done) | (simp [Ps,lkO,frp,PA,frO]; rfl) | (simp [Ps,lkO,frp,PA,frO,nbq]; done)),(by first | rfl | (simp [Ps,frp]; done) | (simp [Ps,frp,PA]; done) | (simp [Ps,frp,PA,nbq]; done) | (simp [Ps,lkO,frp,PA,frO]; done) | (simp [Ps,lkO,frp,PA,frO]; rfl) | (simp [Ps,lkO,frp,PA,frO,nbq]; done)),(by first | rfl | (simp [Ps,frp]; done) | (simp [Ps,frp,PA]; done) | (simp [Ps,frp,PA,nbq]; done) | (simp [Ps,lkO,frp,PA,frO]; done) | (simp [Ps,lkO,frp,PA,frO]; rfl) | (simp [Ps,lkO,frp,PA,frO,nbq]; done)),(by first | rfl | (simp [Ps,frp]; done) | (simp [Ps,frp,PA]; done) | (simp [Ps,frp,PA,nbq]; done) | (simp [Ps,lkO,frp,PA,frO]; done) | (simp [Ps,lkO,frp,PA,frO]; rfl) | (simp [Ps,lkO,frp,PA,frO,nbq]; done)),trivial⟩ ⟨(by first | rfl | (simp [Ps,frp]; done) | (simp [Ps,frp,PA]; done) | (simp [Ps,frp,PA,nbq]; done) | (simp [Ps,lkO,frp,PA,frO]; done) | (simp [Ps,lkO,frp,PA,frO]; rfl) | (simp [Ps,lkO,frp,PA,frO,nbq]; done)),trivial⟩))) fun nn=>?_
   refine A 10 ?_
   refine bD fun r5 hr5=>?_
   refine A 1 ?_
   refine mF (caps:=[.optr 8 _ 0 0,.fptr (.agg [.sl (l2.Out.map (eL Pa))]) 0,.fptr (.int .i64 x4) 0]) r r (by simp [AcS])<|bD fun r6 hr6=>cV (f1,x4,r5,[],l2,x4) rfl rfl (show _ = some Ry from by kernel_rfl) Tz rfl rfl (by simp) (by first | rfl | (simp only [OV]; rfl) | (simp only [OW]; rfl) | (simp only [OV,OW]; rfl) | simp [PU,PL,Qv,Qv]) hr6<|?_
   exact B
  ·exact B

def Ahh (b : Int) : D:=.int .i64 b
noncomputable def AcG : Dw.Spec:=Pf [] .ground Qm Ql (fun a=>Vs a.1 a.2) Ahh noE
theorem Agn : Pd Tryz.prog 59 AcG:=by
 refine fn2 2 (Pk (l:=[(82,Yn),(83,AcH)]) (by simp [AbD,Ago])) Tryz.func59<|?_
 intro a
 unfold Vs
 exact B

def Rh (a : Pr × Pg) : List D:=[TJ a.1,Qv a.2]
def Rg (ds : List D) : Pr × Pg:=(TQ (ds.getD 0 .top),VA (ds.getD 1 .top))
theorem Adz (a : Pr × Pg) : Rg (Rh a) = a:=by simp [Rg,Rh]
instance : Px Rh Rg:=⟨Adz⟩
def Aei (b : Int) : D:=.int .i64 b
noncomputable def ZL : Dw.Spec:=Pf [] .ground Rh Rg (fun a=>Rv a.1 a.2) Aei noE
theorem AdA : Pd Tryz.prog 34 ZL:=by
 refine fn2 2 (Pk (l:=[(42,VE),(59,AcG)]) (by simp [ZB,Agn])) Tryz.func34<|?_
 intro a
 unfold Rv
 exact B

def Aku (b : Bool) : D:=.bool b
noncomputable def Afv : Dw.Spec:=Pf [] .ground SA Sz (fun a=>AbY a.1 a.2) Aku noE
theorem Ajm : Pd Tryz.prog 115 Afv:=by
 refine fn2 2 (Pv) Tryz.func115<|?_
 intro a
 unfold AbY
 exact B

def AhM (b : Bool) : D:=.bool b
noncomputable def Adc : Dw.Spec:=Pf [] .ground SA Sz (fun a=>Wc a.1 a.2) AhM noE
theorem Ahg : Pd Tryz.prog 85 Adc:=by
 refine fn2 2 (Pk (l:=[(114,AbJ),(115,Afv)]) (by simp [AdJ,Ajm])) Tryz.func85<|?_
 intro a
 unfold Wc
 exact B

def Sm (a : Pr × Pg × Int) : List D:=[TJ a.1,Qv a.2.1,.int .i64 a.2.2]
def Sl (ds : List D) : Pr × Pg × Int:=(TQ (ds.getD 0 .top),VA (ds.getD 1 .top),uI (ds.getD 2 .top))
theorem Adv (a : Pr × Pg × Int) : Sl (Sm a) = a:=by simp [Sl,Sm,uI]
instance : Px Sm Sl:=⟨Adv⟩
def Aeg (b : Int × Bool) : D:=.tup [.int .i64 b.1,.bool b.2]
noncomputable def ZJ : Dw.Spec:=Pf [] .ground Sm Sl (fun a=>Sk a.1 a.2.1 a.2.2) Aeg noE
theorem Adw : Pd Tryz.prog 60 ZJ:=by
 refine fn2 3 (Pk (l:=[(84,Aau),(86,Ui),(85,Adc)]) (by simp [AcE,Xb,Ahg])) Tryz.func60<|?_
 rintro ⟨s1,l2,k3⟩
 unfold Sk
 refine A 14 ?_
 refine bD fun x_x4 hx_x4=>?_
 refine A 9 ?_
 refine bD fun r5 hr5=>?_
 refine A 8 ?_
 refine sC (E:=fun (_s : Unit) (g : Nat × Nat)=>[(2,.int .i64 k3),(3,.optr 3 g.1 0 0),(4,.optr 4 g.2 0 0),(9,.int .i64 r5.1)]) (O:=fun _ g=>[(3,some (g.1,⟨false,true,9,78,[.agg [.sl (s1.p.Funcs.map PL),.int .i64 s1.i,.int .i64 s1.align,.int .i64 s1.f.Params,.sl (s1.f.Slots.map Pn),.sl (s1.f.Code.map Pm),.int .i64 s1.y.Args,.int .i64 s1.y.Size,.sl (s1.y.Off.map Pa)]]⟩)),(4,some (g.2,⟨false,true,1,29,[.agg [.sl (l2.Out.map (eL Pa))]]⟩))]) (j:=fun _=>QD l2 k3 r5 s1) ?_ ?_
 ·exact B
 ·rintro ⟨⟩ ⟨v3x1,v4x1⟩ nn
  try dsimp only
  unfold QD
  refine A 6 ?_
  refine bD fun x_x8 hx_x8=>?_
  refine A 7 ?_
  refine lP (E:=fun (s : Int) (g : Nat)=>[(3,.optr 3 g 0 0),(9,.int .i64 r5.1),(52,.sl (x_x8.map Pa)),(53,.int .i64 (x_x8.length : Int)),(54,.int .i64 s)]) (O:=fun _ g=>[(3,some (g,⟨false,true,9,78,[.agg [.sl (s1.p.Funcs.map PL),.int .i64 s1.i,.int .i64 s1.align,.int .i64 s1.f.Params,.sl (s1.f.Slots.map Pn),.sl (s1.f.Code.map Pm),.int .i64 s1.y.Args,.int .i64 s1.y.Size,.sl (s1.y.Off.map Pa)]]⟩))]) (body:=fun s=>SM x_x8 r5 s1 s) (s:=0) _ ((hE ⟨rfl,r,r,r,r,trivial⟩ ⟨rfl,trivial⟩))<|?_
  rintro x9 v3x2 nn
  try dsimp only
  unfold SM
  exact B

def Aeh (b : Int × Int × Bool) : D:=.tup [.int .i64 b.1,.int .i64 b.2.1,.bool b.2.2]
noncomputable def ZK : Dw.Spec:=Pf [] .ground Rh Rg (fun a=>Ru a.1 a.2) Aeh noE
theorem Adx : Pd Tryz.prog 35 ZK:=by
 refine fn2 2 (Pk (l:=[(60,ZJ)]) (by simp [Adw])) Tryz.func35<|?_
 rintro ⟨s1,l2⟩
 unfold Ru
 refine A 20 ?_
 refine lP (E:=fun (s : Int) (g : Nat × Nat)=>[(2,.optr 2 g.1 0 0),(3,.optr 3 g.2 0 0),(13,.int .i64 (s1.f.Code.length : Int)),(14,.int .i64 s)]) (O:=fun _ g=>[(2,some (g.1,⟨false,true,9,78,[.agg [.sl (s1.p.Funcs.map PL),.int .i64 s1.i,.int .i64 s1.align,.int .i64 s1.f.Params,.sl (s1.f.Slots.map Pn),.sl (s1.f.Code.map Pm),.int .i64 s1.y.Args,.int .i64 s1.y.Size,.sl (s1.y.Off.map Pa)]]⟩)),(3,some (g.2,⟨false,true,1,29,[.agg [.sl (l2.Out.map (eL Pa))]]⟩))]) (body:=fun s=>SN s1 l2 s) (s:=0) (_,_) ((hE ⟨rfl,r,r,r,trivial⟩ ⟨rfl,r,trivial⟩))<|?_
 rintro x3 ⟨v2x1,v3x1⟩ nn
 try dsimp only
 unfold SN
 exact B

def SY (a : Ph × Int × Int × Pg × Pe) : List D:=[RB a.1,.int .i64 a.2.1,.int .i64 a.2.2.1,Qv a.2.2.2.1,Qh a.2.2.2.2]
def SX (ds : List D) : Ph × Int × Int × Pg × Pe:=(VM (ds.getD 0 .top),uI (ds.getD 1 .top),uI (ds.getD 2 .top),VA (ds.getD 3 .top),AcU (ds.getD 4 .top))
theorem Aiz (a : Ph × Int × Int × Pg × Pe) : SX (SY a) = a:=by simp [SX,SY,uI]
instance : Px SY SX:=⟨Aiz⟩
def Aju (b : Int) : D:=.int .i64 b
noncomputable def AeG : Dw.Spec:=Pf [] .ground SY SX (fun a=>Yl a.1 a.2.1 a.2.2.1 a.2.2.2.1 a.2.2.2.2) Aju noE
theorem AiA : Pd Tryz.prog 12 AeG:=by
 refine fn2 5 (Pk (l:=[(34,ZL),(35,ZK)]) (by simp [AdA,Adx])) Tryz.func12<|?_
 intro a
 unfold Yl
 exact B

def Ajy (b : Bool) : D:=.bool b
noncomputable def AeK : Dw.Spec:=Pf [] .ground TZ TY (fun a=>Wi a.1 a.2) Ajy noE
theorem AiG : Pd Tryz.prog 43 AeK:=by
 refine fn2 2 (Pk (l:=[(38,Xe)]) (by simp [YL])) Tryz.func43<|?_
 intro a
 unfold Wi
 exact B

def Alk (b : Int) : D:=.int .i64 b
noncomputable def Acx : Dw.Spec:=Pf [] .ground UH UG (fun a=>Xs a.1 a.2.1 a.2.2.1 a.2.2.2) Alk noE
theorem AeV : Pd Tryz.prog 21 Acx:=by
 refine fn2 4 (Pk (l:=[(11,Aax),(24,Yu),(43,AeK)]) (by simp [AcI,Aaq,AiG])) Tryz.func21<|?_
 rintro ⟨p1,i2,align3,y4⟩
 unfold Xs
 refine A 12 ?_
 refine bD fun r5 hr5=>?_
 refine A 16 ?_
 refine cD r ?_ ?_
 ·exact B
 ·refine A 7 ?_
  refine bD fun x_x6 hx_x6=>?_
  refine A 6 ?_
  refine sC (E:=fun (_s : Unit) (g : Nat × Nat)=>[(2,.int .i64 align3),(7,.optr 7 g.1 0 0),(9,.optr 9 g.2 0 0),(11,.sl (x_x6.Slots.map Pn))]) (O:=fun _ g=>[(7,some (g.1,⟨false,true,3,32,[.agg [.int .i64 y4.Args,.int .i64 y4.Size,.sl (y4.Off.map Pa)]]⟩)),(9,some (g.2,⟨false,true,3,32,[.agg [.int .i64 r5.1.Args,.int .i64 r5.1.Size,.sl (r5.1.Off.map Pa)]]⟩))]) (j:=fun _=>Zv x_x6 y4 align3 r5) ?_ ?_
  ·exact B
  ·rintro ⟨⟩ ⟨v7x1,v9x1⟩ nn
   try dsimp only
   unfold Zv
   refine A 7 ?_
   refine lP (E:=fun (s : Int) (g : Nat × Nat)=>[(2,.int .i64 align3),(7,.optr 7 g.1 0 0),(9,.optr 9 g.2 0 0),(11,.sl (x_x6.Slots.map Pn)),(12,.int .i64 s)]) (O:=fun _ g=>[(7,some (g.1,⟨false,true,3,32,[.agg [.int .i64 y4.Args,.int .i64 y4.Size,.sl (y4.Off.map Pa)]]⟩)),(9,some (g.2,⟨false,true,3,32,[.agg [.int .i64 r5.1.Args,.int .i64 r5.1.Size,.sl (r5.1.Off.map Pa)]]⟩))]) (body:=fun s=>Zu x_x6 y4 align3 r5 s) (s:=0) (_,_) ((hE ⟨rfl,r,r,r,r,trivial⟩ ⟨rfl,r,trivial⟩))<|?_
   rintro k8 ⟨v7x2,v9x2⟩ nn
   try dsimp only
   unfold Zu
   exact B

def XV (a : OX × Pg × Pe × Int) : List D:=[PL a.1,Qv a.2.1,Qh a.2.2.1,.int .i64 a.2.2.2]
def XU (ds : List D) : OX × Pg × Pe × Int:=(Sy (ds.getD 0 .top),VA (ds.getD 1 .top),AcU (ds.getD 2 .top),uI (ds.getD 3 .top))
theorem Aka (a : OX × Pg × Pe × Int) : XU (XV a) = a:=by simp [XU,XV,uI]
instance : Px XV XU:=⟨Aka⟩
def Alm (b : Int × Bool) : D:=.tup [.int .i64 b.1,.bool b.2]
noncomputable def AfP : Dw.Spec:=Pf [] .ground XV XU (fun a=>ZY a.1 a.2.1 a.2.2.1 a.2.2.2) Alm noE
theorem Akb : Pd Tryz.prog 41 AfP:=by
 refine fn2 4 (Pk (l:=[(14,Sv),(16,XD)]) (by simp [Tb,Aaw])) Tryz.func41<|?_
 rintro ⟨f1,l2,y3,k4⟩
 unfold ZY
 refine A 14 ?_
 refine bD fun x_x5 hx_x5=>?_
 refine A 9 ?_
 refine bD fun r6 hr6=>?_
 refine A 8 ?_
 refine sC (E:=fun (_s : Unit) (g : Nat × Nat × Nat)=>[(3,.int .i64 k4),(4,.optr 4 g.1 0 0),(5,.optr 5 g.2.1 0 0),(6,.optr 6 g.2.2 0 0),(11,.int .i64 r6.1)]) (O:=fun _ g=>[(4,some (g.1,⟨false,true,3,40,[.agg [.int .i64 f1.Params,.sl (f1.Slots.map Pn),.sl (f1.Code.map Pm)]]⟩)),(5,some (g.2.1,⟨false,true,1,29,[.agg [.sl (l2.Out.map (eL Pa))]]⟩)),(6,some (g.2.2,⟨false,true,3,32,[.agg [.int .i64 y3.Args,.int .i64 y3.Size,.sl (y3.Off.map Pa)]]⟩))]) (j:=fun _=>Ux l2 k4 r6 y3 f1) ?_ ?_
 ·exact B
 ·rintro ⟨⟩ ⟨v4x1,v5x1,v6x1⟩ nn
  try dsimp only
  unfold Ux
  refine A 7 ?_
  refine lP (E:=fun (s : Int) (g : Nat × Nat × Nat)=>[(3,.int .i64 k4),(4,.optr 4 g.1 0 0),(5,.optr 5 g.2.1 0 0),(6,.optr 6 g.2.2 0 0),(11,.int .i64 r6.1),(13,.int .i64 s)]) (O:=fun _ g=>[(4,some (g.1,⟨false,true,3,40,[.agg [.int .i64 f1.Params,.sl (f1.Slots.map Pn),.sl (f1.Code.map Pm)]]⟩)),(5,some (g.2.1,⟨false,true,1,29,[.agg [.sl (l2.Out.map (eL Pa))]]⟩)),(6,some (g.2.2,⟨false,true,3,32,[.agg [.int .i64 y3.Args,.int .i64 y3.Size,.sl (y3.Off.map Pa)]]⟩))]) (body:=fun s=>Zw l2 k4 r6 y3 f1 s) (s:=0) (_,_,_) ((hE ⟨rfl,r,r,r,r,r,trivial⟩ ⟨rfl,r,r,trivial⟩))<|?_
  rintro i9 ⟨v4x2,v5x2,v6x2⟩ nn
  try dsimp only
  unfold Zw
  exact B

def Alj (b : Int × Int × Bool) : D:=.tup [.int .i64 b.1,.int .i64 b.2.1,.bool b.2.2]
noncomputable def AfO : Dw.Spec:=Pf [] .ground SY SX (fun a=>ZX a.1 a.2.1 a.2.2.1 a.2.2.2.1 a.2.2.2.2) Alj noE
theorem AjZ : Pd Tryz.prog 19 AfO:=by
 refine fn2 5 (Pk (l:=[(21,Acx),(36,Aaj),(41,AfP)]) (by simp [AeV,AbW,Akb])) Tryz.func19<|?_
 rintro ⟨p1,i2,align3,l4,y5⟩
 unfold ZX
 refine A 10 ?_
 refine sC (E:=fun (_s : Unit) (g : Nat × Nat × Nat)=>[(1,.int .i64 i2),(5,.optr 5 g.1 0 0),(8,.optr 8 g.2.1 0 0),(9,.optr 9 g.2.2 0 0)]) (O:=fun _ g=>[(5,some (g.1,⟨false,true,1,26,[.agg [.sl (p1.Funcs.map PL)]]⟩)),(8,some (g.2.1,⟨false,true,1,29,[.agg [.sl (l4.Out.map (eL Pa))]]⟩)),(9,some (g.2.2,⟨false,true,3,32,[.agg [.int .i64 y5.Args,.int .i64 y5.Size,.sl (y5.Off.map Pa)]]⟩))]) (j:=fun _=>Wy p1 i2 l4 y5) ?_ ?_
 ·exact B
 ·rintro ⟨⟩ ⟨v5x1,v8x1,v9x1⟩ nn
  try dsimp only
  unfold Wy
  refine A 7 ?_
  refine lP (E:=fun (s : Int) (g : Nat × Nat × Nat)=>[(1,.int .i64 i2),(5,.optr 5 g.1 0 0),(8,.optr 8 g.2.1 0 0),(9,.optr 9 g.2.2 0 0),(13,.int .i64 s)]) (O:=fun _ g=>[(5,some (g.1,⟨false,true,1,26,[.agg [.sl (p1.Funcs.map PL)]]⟩)),(8,some (g.2.1,⟨false,true,1,29,[.agg [.sl (l4.Out.map (eL Pa))]]⟩)),(9,some (g.2.2,⟨false,true,3,32,[.agg [.int .i64 y5.Args,.int .i64 y5.Size,.sl (y5.Off.map Pa)]]⟩))]) (body:=fun s=>Zt p1 i2 l4 y5 s) (s:=0) (_,_,_) ((hE ⟨rfl,r,r,r,r,trivial⟩ ⟨rfl,r,r,trivial⟩))<|?_
  rintro k9 ⟨v5x2,v8x2,v9x2⟩ nn
  try dsimp only
  unfold Zt
  exact B

def Ali (b : Int) : D:=.int .i64 b
noncomputable def AfN : Dw.Spec:=Pf [] .ground SY SX (fun a=>ZW a.1 a.2.1 a.2.2.1 a.2.2.2.1 a.2.2.2.2) Ali noE
theorem AjY : Pd Tryz.prog 13 AfN:=by
 refine fn2 5 (Pk (l:=[(21,Acx),(36,Aaj),(19,AfO)]) (by simp [AeV,AbW,AjZ])) Tryz.func13<|?_
 intro a
 unfold ZW
 exact B

def QZ (a : (List Int)) : List D:=[.sl (a.map eU8)]
def QY (ds : List D) : (List Int):=(uL uI) (ds.getD 0 .top)
theorem VN (a : (List Int)) : QY (QZ a) = a:=by simp [QY,QZ,PX (u:=uI) (en:=eU8) (fun _=>rfl)]
instance : Px QZ QY:=⟨VN⟩
def AbM (b : Bool) : D:=.bool b
noncomputable def AbN : Dw.Spec:=Pf [] .ground QZ QY (fun a=>QI a) AbM noE
theorem AbA : Pd Tryz.prog 4 AbN:=by
 refine fn2 1 (Pk (l:=[(8,Afw),(9,Afx),(12,AeG),(13,AfN),(14,Sv),(15,VI),(16,XD)]) (by simp [Ajs,Ajt,AiA,AjY,Tb,Wm,Aaw])) Tryz.func4<|?_
 intro codes1
 unfold QI
 refine A 8 ?_
 refine bD fun r2 hr2=>?_
 refine A 4 ?_
 refine cD r ?_ ?_
 ·exact B
 ·refine A 5 ?_
  refine bD fun r3 hr3=>Ajb (rs:=[RB r3.1,.int .i64 r3.2.1,.int .i64 r3.2.2.1,Qv r3.2.2.2.1,Qh r3.2.2.2.2.1,Pz r3.2.2.2.2.2]) (z:=Pz r3.2.2.2.2.2) codes1 r r r AeF r r (by simp) r hr3 r r<|?_
  refine A 26 ?_
  refine bD fun r4 hr4=>?_
  refine A 4 ?_
  refine cD r ?_ ?_
  ·exact B
  ·refine A 7 ?_
   refine bD fun x_x6 hx_x6=>?_
   refine A 13 ?_
   refine lP (E:=fun (s : Int) (g : Nat × Nat × Nat)=>[(6,.optr 6 g.1 0 0),(7,.optr 7 g.2.1 0 0),(9,.optr 9 g.2.2 0 0),(10,.int .i64 s)]) (O:=fun _ g=>[(6,some (g.1,⟨false,true,1,29,[.agg [.sl (r3.2.2.2.1.Out.map (eL Pa))]]⟩)),(7,some (g.2.1,⟨false,true,3,32,[.agg [.int .i64 r3.2.2.2.2.1.Args,.int .i64 r3.2.2.2.2.1.Size,.sl (r3.2.2.2.2.1.Off.map Pa)]]⟩)),(9,some (g.2.2,⟨false,true,3,40,[.agg [.int .i64 x_x6.Params,.sl (x_x6.Slots.map Pn),.sl (x_x6.Code.map Pm)]]⟩))]) (body:=fun s=>Qr x_x6 r3 s) (s:=0) (_,_,_) ((hE ⟨rfl,r,r,r,trivial⟩ ⟨rfl,r,r,trivial⟩))<|?_
   rintro k7 ⟨v6x1,v7x1,v9x1⟩ nn
   try dsimp only
   unfold Qr
   refine A 10 ?_
   refine cD r ?_ ?_
   ·refine A 2 ?_
    refine bC (E:=fun (_s : Unit) (g : Nat × Nat × Nat)=>[(6,.optr 6 g.1 0 0),(7,.optr 7 g.2.1 0 0),(9,.optr 9 g.2.2 0 0),(10,.int .i64 k7)]) (O:=fun _ g=>[(6,some (g.1,⟨false,true,1,29,[.agg [.sl (r3.2.2.2.1.Out.map (eL Pa))]]⟩)),(7,some (g.2.1,⟨false,true,3,32,[.agg [.int .i64 r3.2.2.2.2.1.Args,.int .i64 r3.2.2.2.2.1.Size,.sl (r3.2.2.2.2.1.Off.map Pa)]]⟩)),(9,some (g.2.2,⟨false,true,3,40,[.agg [.int .i64 x_x6.Params,.sl (x_x6.Slots.map Pn),.sl (x_x6.Code.map Pm)]]⟩))]) (j:=fun _=>PR k7) ?_ ?_
    ·refine A 5 ?_
     refine bD fun x_x8 hx_x8=>?_
     refine A 2 ?_
     refine bD fun r9 hr9=>?_
     refine A 8 ?_
     refine sC (E:=fun (s : OZ × OZ × Int × Bool × Bool × Bool) (g : Nat × Nat × Nat)=>[(6,.optr 6 g.1 0 0),(7,.optr 7 g.2.1 0 0),(9,.optr 9 g.2.2 0 0),(10,.int .i64 k7),(11,.int .i64 r9.1),(63,.optr 9 g.2.2 0 2),(64,.sl (x_x6.Code.map Pm)),(65,.int .i64 k7),(66,.fptr (.agg [.int .i64 s.1.Op,.int .i64 s.1.A,.int .i64 s.1.B,.int .i64 s.1.C,.int .u64 s.1.Imm]) 0),(67,.fptr (.agg [.int .i64 s.2.1.Op,.int .i64 s.2.1.A,.int .i64 s.2.1.B,.int .i64 s.2.1.C,.int .u64 s.2.1.Imm]) 0),(68,.int .i64 s.2.2.1),(69,.bool s.2.2.2.1),(70,.bool s.2.2.2.2.1),(92,.bool s.2.2.2.2.2)]) (O:=fun _ g=>[(6,some (g.1,⟨false,true,1,29,[.agg [.sl (r3.2.2.2.1.Out.map (eL Pa))]]⟩)),(7,some (g.2.1,⟨false,true,3,32,[.agg [.int .i64 r3.2.2.2.2.1.Args,.int .i64 r3.2.2.2.2.1.Size,.sl (r3.2.2.2.2.1.Off.map Pa)]]⟩)),(9,some (g.2.2,⟨false,true,3,40,[.agg [.int .i64 x_x6.Params,.sl (x_x6.Slots.map Pn),.sl (x_x6.Code.map Pm)]]⟩))]) (j:=fun s=>Qc x_x6 r9 r3 k7 s.1 s.2.1 s.2.2.1 s.2.2.2.1 s.2.2.2.2.1 s.2.2.2.2.2) ?_ ?_
     ·exact B
     ·rintro ⟨x10,x11,x12,x13,x14,x15⟩ ⟨v6x2,v7x2,v9x2⟩ nn
      try dsimp only
      unfold Qc
      refine A 6 ?_
      refine lP (E:=fun (s : Int) (g : Nat × Nat × Nat)=>[(6,.optr 6 g.1 0 0),(7,.optr 7 g.2.1 0 0),(9,.optr 9 g.2.2 0 0),(10,.int .i64 k7),(11,.int .i64 r9.1),(13,.int .i64 s),(63,.optr 9 g.2.2 0 2),(64,.sl (x_x6.Code.map Pm)),(65,.int .i64 k7),(66,.fptr (.agg [.int .i64 x10.Op,.int .i64 x10.A,.int .i64 x10.B,.int .i64 x10.C,.int .u64 x10.Imm]) 0),(67,.fptr (.agg [.int .i64 x11.Op,.int .i64 x11.A,.int .i64 x11.B,.int .i64 x11.C,.int .u64 x11.Imm]) 0),(68,.int .i64 x12),(69,.bool x13),(70,.bool x14),(92,.bool x15)]) (O:=fun _ g=>[(6,some (g.1,⟨false,true,1,29,[.agg [.sl (r3.2.2.2.1.Out.map (eL Pa))]]⟩)),(7,some (g.2.1,⟨false,true,3,32,[.agg [.int .i64 r3.2.2.2.2.1.Args,.int .i64 r3.2.2.2.2.1.Size,.sl (r3.2.2.2.2.1.Off.map Pa)]]⟩)),(9,some (g.2.2,⟨false,true,3,40,[.agg [.int .i64 x_x6.Params,.sl (x_x6.Slots.map Pn),.sl (x_x6.Code.map Pm)]]⟩))]) (body:=fun s=>Rb x_x6 r9 r3 k7 s) (s:=0) (_,_,_) ((hE ⟨rfl,r,r,r,r,r,r,r,r,r,r,r,r,r,r,trivial⟩ ⟨rfl,r,r,trivial⟩))<|?_
      rintro s21 ⟨v6x3,v7x3,v9x3⟩ nn
      try dsimp only
      unfold Rb
      exact B
    ·rintro ⟨⟩ ⟨v6x4,v7x4,v9x4⟩ nn
     try dsimp only
     unfold PR
     exact B
   ·exact B

end Go.Proofs.YtnldnldmgceooaaGreatDoor
