/-
  Programs on typed data, and the proofs that the code does what they say; written by a program (dx.py).
-/
import Derived.Test.YtnldnldmgceooaaGreatDoorProg
import Derived.Test.YtnldnldmgceooaaGreatDoorDd
import Derived.KernelRfl
import Derived.Test.YtnldnldmgceooaaGreatDoorDxP
namespace Go.Proofs.YtnldnldmgceooaaGreatDoor
open Go Go.Dw Go.Proofs
set_option maxRecDepth 100000
set_option maxHeartbeats 4000000
open Go.Dw renaming QW → bD,PO → cK,Ads → bS,AeX → aP,Uo → sE,AcT → cD,Afr → xL,AaE → hE,AeY → lP,Abu → sC,Wz → bC,rf → r
def UX (a : Ph × Int) : List D:=[RB a.1,.int .i64 a.2]
def UW (ds : List D) : Ph × Int:=(VM (ds.getD 0 .top),uI (ds.getD 1 .top))
theorem AlW (a : Ph × Int) : UW (UX a) = a:=by simp [UW,UX,uI]
instance : Px UX UW:=⟨AlW⟩
def AmU (b : Int) : D:=.int .i64 b
noncomputable def Aem : Dw.Spec:=Pf [] .ground UX UW (fun a=>Yp a.1 a.2) AmU noE
theorem Agt : Pd Tryz.prog 68 Aem:=by
 refine fn2 2 (Pv) Tryz.func68<|?_
 rintro ⟨p1,i2⟩
 unfold Yp
 refine A 17 ?_
 refine bD fun x_x3 hx_x3=>?_
 refine A 8 ?_
 refine lP (E:=fun (s : Int × Int) (g : Nat)=>[(2,.optr 2 g 0 0),(5,.int .i64 s.2),(13,.sl (x_x3.Code.map Pm)),(14,.int .i64 (x_x3.Code.length : Int)),(15,.int .i64 s.1)]) (O:=fun _ g=>[(2,some (g,⟨false,true,1,26,[.agg [.sl (p1.Funcs.map PL)]]⟩))]) (body:=fun s=>Abb x_x3 p1 s.1 s.2) (s:=(0,0)) _ ((hE ⟨rfl,r,r,r,r,trivial⟩ ⟨rfl,trivial⟩))<|?_
 rintro ⟨x4,n5⟩ v2x1 nn
 try dsimp only
 unfold Abb
 exact B

def PZ (a : Int) : List D:=[.int .i64 a]
def PY (ds : List D) : Int:=uI (ds.getD 0 .top)
theorem Aix (a : Int) : PY (PZ a) = a:=by simp [PY,PZ,uI]
instance : Px PZ PY:=⟨Aix⟩
def Ajl (b : Bool) : D:=.bool b
noncomputable def YC : Dw.Spec:=Pf [] .ground PZ PY (fun a=>Ty a) Ajl noE
theorem AaX : Pd Tryz.prog 117 YC:=by
 refine fn2 1 (Pv) Tryz.func117<|?_
 intro a
 unfold Ty
 exact B

def Ajk (b : Bool) : D:=.bool b
noncomputable def AeE : Dw.Spec:=Pf [] .ground PZ PY (fun a=>Yj a) Ajk noE
theorem Aiw : Pd Tryz.prog 118 AeE:=by
 refine fn2 1 (Pv) Tryz.func118<|?_
 intro a
 unfold Yj
 exact B

def TT (a : Int × Int) : List D:=[.int .i64 a.1,.int .i64 a.2]
def TS (ds : List D) : Int × Int:=(uI (ds.getD 0 .top),uI (ds.getD 1 .top))
theorem AlJ (a : Int × Int) : TS (TT a) = a:=by simp [TS,TT,uI]
instance : Px TT TS:=⟨AlJ⟩
def AmM (b : Int) : D:=.int .i64 b
noncomputable def Ahr : Dw.Spec:=Pf [] .ground TT TS (fun a=>AdK a.1 a.2) AmM noE
theorem AlK : Pd Tryz.prog 120 Ahr:=by
 refine fn2 2 (Pv) Tryz.func120<|?_
 intro a
 unfold AdK
 exact B

def AhN (b : Int × Int) : D:=.tup [.int .i64 b.1,.int .i64 b.2]
noncomputable def Aav : Dw.Spec:=Pf [] .ground PZ PY (fun a=>Uq a) AhN noE
theorem AcF : Pd Tryz.prog 119 Aav:=by
 refine fn2 1 (Pv) Tryz.func119<|?_
 intro a
 unfold Uq
 exact B

def AmL (b : Int × Int) : D:=.tup [.int .i64 b.1,.int .i64 b.2]
noncomputable def Aef : Dw.Spec:=Pf [] .ground TT TS (fun a=>AaD a.1 a.2) AmL noE
theorem Agj : Pd Tryz.prog 90 Aef:=by
 refine fn2 2 (Pk (l:=[(117,YC),(118,AeE),(120,Ahr),(119,Aav)]) (by simp [AaX,Aiw,AlK,AcF])) Tryz.func90<|?_
 rintro ⟨n1,align2⟩
 unfold AaD
 refine A 6 ?_
 refine sC (E:=fun (_s : Unit) (_g : Unit)=>[(0,.int .i64 n1),(1,.int .i64 align2)]) (O:=fun _ _=>[]) (j:=fun _=>AaW n1 align2) ?_ ?_
 ·exact B
 ·rintro ⟨⟩ ⟨⟩ nn
  try dsimp only
  unfold AaW
  exact B

def AlI (b : Int × Int) : D:=.tup [.int .i64 b.1,.int .i64 b.2]
noncomputable def Adb : Dw.Spec:=Pf [] .ground TT TS (fun a=>YB a.1 a.2) AlI noE
theorem Afu : Pd Tryz.prog 91 Adb:=by
 refine fn2 2 (Pk (l:=[(117,YC),(119,Aav)]) (by simp [AaX,AcF])) Tryz.func91<|?_
 rintro ⟨x1,y2⟩
 unfold YB
 refine A 6 ?_
 refine sC (E:=fun (_s : Unit) (_g : Unit)=>[(0,.int .i64 x1),(1,.int .i64 y2)]) (O:=fun _ _=>[]) (j:=fun _=>Aab x1 y2) ?_ ?_
 ·exact B
 ·rintro ⟨⟩ ⟨⟩ nn
  try dsimp only
  unfold Aab
  exact B

def YJ (a : Pe × Int × Int) : List D:=[Qh a.1,.int .i64 a.2.1,.int .i64 a.2.2]
def YI (ds : List D) : Pe × Int × Int:=(AcU (ds.getD 0 .top),uI (ds.getD 1 .top),uI (ds.getD 2 .top))
theorem Aky (a : Pe × Int × Int) : YI (YJ a) = a:=by simp [YI,YJ,uI]
instance : Px YJ YI:=⟨Aky⟩
def Agu (b : Pe × Int) : D:=.tup [Qh b.1,.int .i64 b.2]
noncomputable def Agv : Dw.Spec:=Pf [] .val YJ YI (fun a=>AcM a.1 a.2.1 a.2.2) Agu noE
theorem Akz : Pd Tryz.prog 92 Agv:=by
 refine fn2 3 (Pk (l:=[(90,Aef),(91,Adb)]) (by simp [Agj,Afu])) Tryz.func92<|?_
 rintro ⟨y1,end2,align3⟩
 unfold AcM
 refine A 11 ?_
 refine bD fun r4 hr4=>?_
 refine A 8 ?_
 refine sC (E:=fun (s : Int) (g : Nat × Nat)=>[(3,.optr 3 g.1 0 0),(6,.optr 6 g.2 0 0),(8,.int .i64 r4.1),(9,.int .i64 s)]) (O:=fun _ g=>[(3,some (g.1,⟨false,true,3,32,[.agg [.int .i64 y1.Args,.int .i64 y1.Size,.sl (y1.Off.map Pa)]]⟩)),(6,some (g.2,⟨false,true,3,32,[.agg [.int .i64 0,.int .i64 0,.nils]]⟩))]) (j:=fun s=>Xc y1 r4 s) ?_ ?_
 ·exact B
 ·rintro e5 ⟨v3x1,v6x1⟩ nn
  try dsimp only
  unfold Xc
  refine A 7 ?_
  refine cD r ?_ ?_
  ·refine A 9 ?_
   refine Qx (b:=((Pe.mk 0 0 ([])),9)) r ?_ r r ?_ (by first | rfl | (simp only [OV]; rfl) | (simp only [OW]; rfl) | (simp only [OV,OW]; rfl) | simp [Agu,Qh]) (by decide)
   all_goals first|(simp;done)|(simp;omega)|rfl|(simp [PH,PE];done)
  ·exact B

def Ub (a : Ph × Int × Int) : List D:=[RB a.1,.int .i64 a.2.1,.int .i64 a.2.2]
def Ua (ds : List D) : Ph × Int × Int:=(VM (ds.getD 0 .top),uI (ds.getD 1 .top),uI (ds.getD 2 .top))
theorem AhT (a : Ph × Int × Int) : Ua (Ub a) = a:=by simp [Ua,Ub,uI]
instance : Px Ub Ua:=⟨AhT⟩
def AdL (b : Pe × Int) : D:=.tup [Qh b.1,.int .i64 b.2]
noncomputable def AdM : Dw.Spec:=Pf [] .val Ub Ua (fun a=>UY a.1 a.2.1 a.2.2) AdL noE
theorem AhU : Pd Tryz.prog 67 AdM:=by
 refine fn2 3 (Pk (l:=[(68,Aem),(90,Aef),(91,Adb),(92,Agv)]) (by simp [Agt,Agj,Afu,Akz])) Tryz.func67<|?_
 rintro ⟨p1,i2,align3⟩
 unfold UY
 refine A 11 ?_
 refine bD fun r4 hr4=>?_
 refine A 19 ?_
 refine bD fun x_x5 hx_x5=>?_
 refine A 8 ?_
 refine lP (E:=fun (s : (List Int) × Int × Int) (g : Nat × Nat × Nat × Nat)=>[(2,.int .i64 align3),(6,.optr 6 g.1 0 0),(8,.optr 8 g.2.1 0 0),(9,.int .i64 s.2.2),(25,.sl (x_x5.Slots.map Pn)),(26,.int .i64 (x_x5.Slots.length : Int)),(27,.int .i64 s.2.1)]) (O:=fun s g=>[(6,some (g.1,⟨false,true,3,32,[.agg [.int .i64 0,.int .i64 0,.osl 2900 g.2.2.1 0 (([] : List Int).length)]]⟩)),(8,some (g.2.1,⟨false,true,3,32,[.agg [.int .i64 r4,.int .i64 0,.osl 2901 g.2.2.2 0 s.1.length]]⟩)),(2900,some (g.2.2.1,⟨false,false,1,3,([] : List Int).map Pa⟩)),(2901,some (g.2.2.2,⟨false,false,1,3,s.1.map Pa⟩))]) (body:=fun s=>WG x_x5 r4 align3 s.1 s.2.1 s.2.2) (s:=(([] : List Int),0,r4)) (_,_,_,_) ((Oc (gg:=6) (off:=2) (tt:=2900) (s:=1) (tyy:=3) r r r r (Oc (gg:=8) (off:=2) (tt:=2901) (s:=1) (tyy:=3) r r r r (hE ⟨rfl,r,r,r,r,r,r,trivial⟩ ⟨rfl,r,r,r,trivial⟩))))<|?_
 rintro ⟨x6,x7,end8⟩ ⟨v6x1,v8x1,v2900x1,v2901x1⟩ nn
 try dsimp only
 unfold WG
 refine A 6 ?_
 refine cD r ?_ ?_
 ·refine A 6 ?_
  refine bD fun x_x9 hx_x9=>?_
  refine A 11 ?_
  refine bD fun r10 hr10=>?_
  refine A 8 ?_
  refine sC (E:=fun (s : Int × Int) (g : Nat × Nat × Nat × Nat)=>[(2,.int .i64 align3),(6,.optr 6 g.1 0 0),(8,.optr 8 g.2.1 0 0),(9,.int .i64 s.2),(12,.int .i64 r10.1),(13,.int .i64 s.1),(25,.sl (x_x5.Slots.map Pn)),(26,.int .i64 (x_x5.Slots.length : Int)),(27,.int .i64 x7)]) (O:=fun _ g=>[(6,some (g.1,⟨false,true,3,32,[.agg [.int .i64 0,.int .i64 0,.osl 2900 g.2.2.1 0 (([] : List Int).length)]]⟩)),(8,some (g.2.1,⟨false,true,3,32,[.agg [.int .i64 r4,.int .i64 0,.osl 2901 g.2.2.2 0 x6.length]]⟩)),(2900,some (g.2.2.1,⟨false,false,1,3,([] : List Int).map Pa⟩)),(2901,some (g.2.2.2,⟨false,false,1,3,x6.map Pa⟩))]) (j:=fun s=>UI x6 r10 x7 s.1 s.2) ?_ ?_
  ·exact B
  ·rintro ⟨e11,end12⟩ ⟨v6x2,v8x2,v2900x2,v2901x2⟩ nn
   try dsimp only
   unfold UI
   refine A 7 ?_
   refine cD r ?_ ?_
   ·refine A 14 ?_
    refine Qx (b:=((Pe.mk 0 0 ([])),9)) r ?_ r r ?_ (by first | rfl | (simp only [OV]; rfl) | (simp only [OW]; rfl) | (simp only [OV,OW]; rfl) | simp [AdL,Qh]) (by decide)
    all_goals first|(simp;done)|(simp;omega)|rfl|(simp [PH,PE];done)
   ·refine A 17 ?_
    exact xL (s:=(x6 ++ ([r10.1] : List Int),IntKind.i64.wrap (x7 + 1),end12)) (_,_,_,_) ((AhP (E1:=[(2,.int .i64 align3),(6,.optr 6 _ 0 0),(8,.optr 8 _ 0 0),(9,.int .i64 end12),(25,.sl (x_x5.Slots.map Pn)),(26,.int .i64 (x_x5.Slots.length : Int)),(27,.int .i64 (IntKind.i64.wrap (x7 + 1)))]) (O1:=[(6,some (_,⟨false,true,3,32,[.agg [.int .i64 0,.int .i64 0,.osl 2900 _ 0 (([] : List Int).length)]]⟩)),(8,some (_,⟨false,true,3,32,[.agg [.int .i64 r4,.int .i64 0,.osl 54 _ 0 ((x6 ++ ([r10.1] : List Int)).length)]]⟩)),(54,some (_,⟨false,false,1,3,(x6 ++ ([r10.1] : List Int)).map Pa⟩)),(2900,some (_,⟨false,false,1,3,([] : List Int).map Pa⟩))]) (hE ⟨rfl,r,r,r,r,r,r,trivial⟩ ⟨rfl,r,r,r,trivial⟩) (fun _=>AhO (fun g=>bif Nat.beq g 54 then 2901 else g) (by rfl) (hE ⟨rfl,r,r,r,r,r,r,trivial⟩ ⟨rfl,r,r,r,trivial⟩))))
 ·exact B

def QB (a : Pr × Int) : List D:=[TJ a.1,.int .i64 a.2]
def QA (ds : List D) : Pr × Int:=(TQ (ds.getD 0 .top),uI (ds.getD 1 .top))
theorem Acq (a : Pr × Int) : QA (QB a) = a:=by simp [QA,QB,uI]
instance : Px QB QA:=⟨Acq⟩
def AcL (b : Pj) : D:=Qe b
noncomputable def Ui : Dw.Spec:=Pf [] .ground QB QA (fun a=>Qa a.1 a.2) AcL noE
theorem Xb : Pd Tryz.prog 86 Ui:=by
 refine fn2 2 (Pv) Tryz.func86<|?_
 intro a
 unfold Qa
 exact B

def UF (a : Pj) : List D:=[Qe a]
def UE (ds : List D) : Pj:=TC (ds.getD 0 .top)
theorem Aiy (a : Pj) : UE (UF a) = a:=by simp [UE,UF]
instance : Px UF UE:=⟨Aiy⟩
def Ajn (b : Bool) : D:=.bool b
noncomputable def AbJ : Dw.Spec:=Pf [] .ground UF UE (fun a=>UD a) Ajn noE
theorem AdJ : Pd Tryz.prog 114 AbJ:=by
 refine fn2 1 (Pk (l:=[(117,YC)]) (by simp [AaX])) Tryz.func114<|?_
 intro a
 unfold UD
 exact B

def TZ (a : Pj × Int) : List D:=[Qe a.1,.int .i64 a.2]
def TY (ds : List D) : Pj × Int:=(TC (ds.getD 0 .top),uI (ds.getD 1 .top))
theorem AhK (a : Pj × Int) : TY (TZ a) = a:=by simp [TY,TZ,uI]
instance : Px TZ TY:=⟨AhK⟩
def Aiv (b : Bool) : D:=.bool b
noncomputable def AdI : Dw.Spec:=Pf [] .ground TZ TY (fun a=>Xa a.1 a.2) Aiv noE
theorem AhL : Pd Tryz.prog 93 AdI:=by
 refine fn2 2 (Pk (l:=[(114,AbJ)]) (by simp [AdJ])) Tryz.func93<|?_
 intro a
 unfold Xa
 exact B

def Ady (b : Bool) : D:=.bool b
noncomputable def ZA : Dw.Spec:=Pf [] .ground QB QA (fun a=>RX a.1 a.2) Ady noE
theorem Ade : Pd Tryz.prog 69 ZA:=by
 refine fn2 2 (Pk (l:=[(86,Ui),(93,AdI)]) (by simp [Xb,AhL])) Tryz.func69<|?_
 intro a
 unfold RX
 exact B

def So (a : Pr) : List D:=[TJ a]
def Sn (ds : List D) : Pr:=TQ (ds.getD 0 .top)
theorem AdB (a : Pr) : Sn (So a) = a:=by simp [Sn,So]
instance : Px So Sn:=⟨AdB⟩
def Aej (b : Int) : D:=.int .i64 b
noncomputable def VE : Dw.Spec:=Pf [] .ground So Sn (fun a=>Rx a) Aej noE
theorem ZB : Pd Tryz.prog 42 VE:=by
 refine fn2 1 (Pk (l:=[(67,AdM),(68,Aem),(69,ZA)]) (by simp [AhU,Agt,Ade])) Tryz.func42<|?_
 intro s1
 unfold Rx
 refine A 14 ?_
 refine bD fun r2 hr2=>?_
 refine A 16 ?_
 refine cD r ?_ ?_
 ·exact B
 ·refine A 2 ?_
  refine sC (E:=fun (_s : Unit) (g : Nat × Nat)=>[(1,.optr 1 g.1 0 0),(3,.optr 3 g.2 0 0)]) (O:=fun _ g=>[(1,some (g.1,⟨false,true,9,78,[.agg [.sl (s1.p.Funcs.map PL),.int .i64 s1.i,.int .i64 s1.align,.int .i64 s1.f.Params,.sl (s1.f.Slots.map Pn),.sl (s1.f.Code.map Pm),.int .i64 s1.y.Args,.int .i64 s1.y.Size,.sl (s1.y.Off.map Pa)]]⟩)),(3,some (g.2,⟨false,true,3,32,[.agg [.int .i64 r2.1.Args,.int .i64 r2.1.Size,.sl (r2.1.Off.map Pa)]]⟩))]) (j:=fun _=>SP s1 r2) ?_ ?_
  ·exact B
  ·rintro ⟨⟩ ⟨v1x1,v3x1⟩ nn
   try dsimp only
   unfold SP
   refine A 11 ?_
   refine lP (E:=fun (s : Int) (g : Nat × Nat)=>[(1,.optr 1 g.1 0 0),(3,.optr 3 g.2 0 0),(42,.int .i64 (s1.f.Slots.length : Int)),(43,.int .i64 s)]) (O:=fun _ g=>[(1,some (g.1,⟨false,true,9,78,[.agg [.sl (s1.p.Funcs.map PL),.int .i64 s1.i,.int .i64 s1.align,.int .i64 s1.f.Params,.sl (s1.f.Slots.map Pn),.sl (s1.f.Code.map Pm),.int .i64 s1.y.Args,.int .i64 s1.y.Size,.sl (s1.y.Off.map Pa)]]⟩)),(3,some (g.2,⟨false,true,3,32,[.agg [.int .i64 r2.1.Args,.int .i64 r2.1.Size,.sl (r2.1.Off.map Pa)]]⟩))]) (body:=fun s=>SO s1 r2 s) (s:=0) (_,_) ((hE ⟨rfl,r,r,r,trivial⟩ ⟨rfl,r,trivial⟩))<|?_
   rintro x4 ⟨v1x2,v3x2⟩ nn
   try dsimp only
   unfold SO
   exact B

def UH (a : Ph × Int × Int × Pe) : List D:=[RB a.1,.int .i64 a.2.1,.int .i64 a.2.2.1,Qh a.2.2.2]
def UG (ds : List D) : Ph × Int × Int × Pe:=(VM (ds.getD 0 .top),uI (ds.getD 1 .top),uI (ds.getD 2 .top),AcU (ds.getD 3 .top))
theorem AiB (a : Ph × Int × Int × Pe) : UG (UH a) = a:=by simp [UG,UH,uI]
instance : Px UH UG:=⟨AiB⟩
def Ajv (b : Int) : D:=.int .i64 b
noncomputable def AeH : Dw.Spec:=Pf [] .ground UH UG (fun a=>We a.1 a.2.1 a.2.2.1 a.2.2.2) Ajv noE
theorem AiC : Pd Tryz.prog 20 AeH:=by
 refine fn2 4 (Pk (l:=[(42,VE)]) (by simp [ZB])) Tryz.func20<|?_
 intro a
 unfold We
 exact B

def Aba (_a : Unit) : List D:=[]
def AaZ (_ds : List D) : Unit:=()
theorem Ajr (a : Unit) : AaZ (Aba a) = a:=rfl
instance : Px Aba AaZ:=⟨Ajr⟩
def Akv (b : Bool) : D:=.bool b
noncomputable def Afw : Dw.Spec:=Pf [] .ground Aba AaZ (fun _a=>ZH) Akv noE
theorem Ajs : Pd Tryz.prog 8 Afw:=by
 refine fn2 0 (Pk (l:=[(20,AeH)]) (by simp [AiC])) Tryz.func8<|?_
 intro _
 unfold ZH
 refine A 8 ?_
 refine bS ([(OZ.mk 23 0 0 0 0)] : List OZ) Pm r r r (by simp) r r r<|?_
 refine A 1 ?_
 refine bS ([(OX.mk 0 ([]) ([(OZ.mk 23 0 0 0 0)] : List OZ))] : List OX) PL r r r (by simp) r (by simp [XA,PL]) r<|?_
 exact B

def AaV (a : (List Int) × Int) : List D:=[.sl (a.1.map eU8),.int .i64 a.2]
def AaU (ds : List D) : (List Int) × Int:=((uL uI) (ds.getD 0 .top),uI (ds.getD 1 .top))
theorem AmH (a : (List Int) × Int) : AaU (AaV a) = a:=by simp [AaU,AaV,uI,PX (u:=uI) (en:=eU8) (fun _=>rfl)]
instance : Px AaV AaU:=⟨AmH⟩
def AnB (b : Mk) : D:=Pz b
noncomputable def Aiu : Dw.Spec:=Pf [] (.ptr 2 99) AaV AaU (fun a=>Ada a.1 a.2) AnB noE
theorem AmI : Pd Tryz.prog 26 Aiu:=by
 refine fn2 2 (Pv) Tryz.func26<|?_
 intro a
 unfold Ada
 exact B

def QU (a : Mk) : List D:=[Pz a]
def QT (ds : List D) : Mk:=Sh (ds.getD 0 .top)
theorem AfV (a : Mk) : QT (QU a) = a:=by simp [QT,QU]
instance : Px QU QT:=⟨AfV⟩
def AgU (b : Bool × Mk) : D:=.bool b.1
def AgT (b : Bool × Mk) : List D:=[Pz b.2]
noncomputable def Acz : Dw.Spec:=Pf [(0,(2,99))] .val QU QT (fun a=>Xz a) AgU AgT
theorem AfW : Pd Tryz.prog 52 Acz:=by
 refine fn2 1 (Pv) Tryz.func52<|?_
 intro a
 unfold Xz
 exact B

def SV (a : Mk × Int) : List D:=[Pz a.1,.int .i64 a.2]
def SU (ds : List D) : Mk × Int:=(Sh (ds.getD 0 .top),uI (ds.getD 1 .top))
theorem AfZ (a : Mk × Int) : SU (SV a) = a:=by simp [SU,SV,uI]
instance : Px SV SU:=⟨AfZ⟩
def AgX (b : Int × Mk) : D:=.int .i64 b.1
def AgW (b : Int × Mk) : List D:=[Pz b.2]
noncomputable def PN : Dw.Spec:=Pf [(0,(2,99))] .val SV SU (fun a=>Pc a.1 a.2) AgX AgW
theorem PQ : Pd Tryz.prog 28 PN:=by
 refine fn2 2 (Pk (l:=[(52,Acz)]) (by simp [AfW])) Tryz.func28<|?_
 rintro ⟨c1,n2⟩
 unfold Pc
 refine A 5 ?_
 refine sC (E:=fun (_s : (List Int) × Int) (_g : Unit)=>[(0,.optr 8192 0 0 0),(1,.int .i64 n2)]) (O:=fun s _=>[(8192,some (0,⟨false,true,2,99,[.agg [.sl (s.1.map eU8),.int .i64 s.2]]⟩))]) (j:=fun s=>Vm n2 s.1 s.2) ?_ ?_
 ·exact B
 ·rintro ⟨c3,c4⟩ ⟨⟩ nn
  try dsimp only
  unfold Vm
  refine A 10 ?_
  refine bD fun x_x6 hx_x6=>?_
  refine A 15 ?_
  refine Xu (i:=0) (es':=[.agg [.sl (c3.map eU8),.int .i64 (IntKind.i64.wrap (c4 + 1))]]) r r r r r r r (by first | trivial | (simp; done) | (simp; omega)) r r r r r r<|?_
  exact B

def AgZ (b : Po × Mk) : D:=Pn b.1
def AgY (b : Po × Mk) : List D:=[Pz b.2]
noncomputable def AcB : Dw.Spec:=Pf [(0,(2,99))] .val QU QT (fun a=>Vn a) AgZ AgY
theorem Aga : Pd Tryz.prog 94 AcB:=by
 refine fn2 1 (Pk (l:=[(28,PN)]) (by simp [PQ])) Tryz.func94<|?_
 intro c1
 unfold Vn
 refine A 7 ?_
 refine bS ([8,4,8,1,2,16,8] : List Int) Pa r r r (by simp) r r r<|?_
 refine A 1 ?_
 refine bD fun r2 hr2=>?_
 refine A 2 ?_
 refine bD fun x_e3 hx_e3=>?_
 refine A 1 ?_
 refine bS ([8,4,1,8,16,2,32,64] : List Int) Pa r r r (by simp) r r r<|?_
 exact B

def Agc (b : (List Po) × Mk) : D:=.sl (b.1.map Pn)
def Agb (b : (List Po) × Mk) : List D:=[Pz b.2]
noncomputable def Acd : Dw.Spec:=Pf [(0,(2,99))] (.row 2 54) SV SU (fun a=>UC a.1 a.2) Agc Agb
theorem AfU : Pd Tryz.prog 74 Acd:=by
 refine fn2 2 (Pk (l:=[(28,PN),(94,AcB)]) (by simp [PQ,Aga])) Tryz.func74<|?_
 rintro ⟨c1,most2⟩
 unfold UC
 refine A 16 ?_
 refine bD fun r3 hr3=>?_
 refine A 5 ?_
 refine lP (E:=fun (s : (List Int) × Int × (List Po) × Int) (g : Nat)=>[(0,.optr 8192 0 0 0),(5,.osl 5 g 0 s.2.2.1.length),(6,.int .i64 s.2.2.2)]) (O:=fun s g=>[(5,some (g,⟨false,false,2,54,s.2.2.1.map Pn⟩)),(8192,some (0,⟨false,true,2,99,[.agg [.sl (s.1.map eU8),.int .i64 s.2.1]]⟩))]) (body:=fun s=>UN s.1 s.2.1 s.2.2.1 s.2.2.2) (s:=(r3.2.list,r3.2.at_,([] : List Po),r3.1)) _ ((hE ⟨rfl,r,r,trivial⟩ ⟨rfl,r,trivial⟩))<|?_
 rintro ⟨c4,c5,l6,n7⟩ v5x1 nn
 try dsimp only
 unfold UN
 refine A 7 ?_
 refine cD r ?_ ?_
 ·refine A 7 ?_
  refine bD fun r8 hr8=>?_
  refine A 1 ?_
  refine bS ([r8.1] : List Po) Pn r r r (by simp) r r r<|?_
  exact B
 ·exact B

def UR (a : Mk × OX × Int) : List D:=[Pz a.1,PL a.2.1,.int .i64 a.2.2]
def UQ (ds : List D) : Mk × OX × Int:=(Sh (ds.getD 0 .top),Sy (ds.getD 1 .top),uI (ds.getD 2 .top))
theorem Agf (a : Mk × OX × Int) : UQ (UR a) = a:=by simp [UQ,UR,uI]
instance : Px UR UQ:=⟨Agf⟩
def Ahf (b : Int × Mk) : D:=.int .i64 b.1
def Ahe (b : Int × Mk) : List D:=[Pz b.2]
noncomputable def AcD : Dw.Spec:=Pf [(0,(2,99))] .val UR UQ (fun a=>Vq a.1 a.2.1 a.2.2) Ahf Ahe
theorem Agg : Pd Tryz.prog 95 AcD:=by
 refine fn2 3 (Pk (l:=[(28,PN)]) (by simp [PQ])) Tryz.func95<|?_
 rintro ⟨c1,f2,s3⟩
 unfold Vq
 refine A 18 ?_
 refine lP (E:=fun (s : (List Int) × Int) (g : Nat × Nat)=>[(0,.optr 8192 0 0 0),(2,.int .i64 s3),(4,.optr 4 g.1 0 0),(7,.osl 7 g.2 0 s.1.length),(8,.int .i64 s.2)]) (O:=fun s g=>[(4,some (g.1,⟨false,true,3,40,[.agg [.int .i64 f2.Params,.sl (f2.Slots.map Pn),.sl (f2.Code.map Pm)]]⟩)),(7,some (g.2,⟨false,false,1,3,s.1.map Pa⟩)),(8192,some (0,⟨false,true,2,99,[.agg [.sl (c1.list.map eU8),.int .i64 c1.at_]]⟩))]) (body:=fun s=>Vr f2 s3 c1 s.1 s.2) (s:=(([] : List Int),0)) (_,_) ((hE ⟨rfl,r,r,r,r,trivial⟩ ⟨rfl,r,r,trivial⟩))<|?_
 rintro ⟨l4,k5⟩ ⟨v4x1,v7x1⟩ nn
 try dsimp only
 unfold Vr
 exact B

def Ahb (b : Int × Mk) : D:=.int .u64 b.1
def Aha (b : Int × Mk) : List D:=[Pz b.2]
noncomputable def ZD : Dw.Spec:=Pf [(0,(2,99))] .val QU QT (fun a=>TH a) Ahb Aha
theorem Ace : Pd Tryz.prog 76 ZD:=by
 refine fn2 1 (Pk (l:=[(28,PN)]) (by simp [PQ])) Tryz.func76<|?_
 intro a
 unfold TH
 exact B

def UP (a : Mk × OX × Int × (List Int)) : List D:=[Pz a.1,PL a.2.1,.int .i64 a.2.2.1,.sl (a.2.2.2.map Pa)]
def UO (ds : List D) : Mk × OX × Int × (List Int):=(Sh (ds.getD 0 .top),Sy (ds.getD 1 .top),uI (ds.getD 2 .top),(uL uI) (ds.getD 3 .top))
theorem Agd (a : Mk × OX × Int × (List Int)) : UO (UP a) = a:=by simp [UO,UP,uI,PX (u:=uI) (en:=Pa) (fun _=>rfl)]
instance : Px UP UO:=⟨Agd⟩
def Ahd (b : (List OZ) × Mk) : D:=.sl (b.1.map Pm)
def Ahc (b : (List OZ) × Mk) : List D:=[Pz b.2]
noncomputable def AcC : Dw.Spec:=Pf [(0,(2,99))] (.row 5 50) UP UO (fun a=>Vo a.1 a.2.1 a.2.2.1 a.2.2.2) Ahd Ahc
theorem Age : Pd Tryz.prog 75 AcC:=by
 refine fn2 4 (Pk (l:=[(28,PN),(95,AcD),(76,ZD)]) (by simp [PQ,Agg,Ace])) Tryz.func75<|?_
 rintro ⟨c1,f2,i3,params4⟩
 unfold Vo
 refine A 9 ?_
 refine bD fun r5 hr5=>?_
 refine A 15 ?_
 refine bD fun r6 hr6=>?_
 refine A 4 ?_
 refine bC (E:=fun (_s : Unit) (_g : Unit)=>[(9,.int .i64 r5.1)]) (O:=fun _ _=>[(8192,some (0,⟨false,true,2,99,[.agg [.sl (r6.2.list.map eU8),.int .i64 r6.2.at_]]⟩))]) (j:=fun _=>Yi r5 r6) ?_ ?_
 ·refine sC (E:=fun (s : Bool) (g : Nat)=>[(0,.optr 8192 0 0 0),(2,.int .i64 i3),(3,.sl (params4.map Pa)),(5,.optr 5 g 0 0),(9,.int .i64 r5.1),(10,.int .i64 (f2.Slots.length : Int)),(11,.int .i64 r6.1),(23,.bool s)]) (O:=fun _ g=>[(5,some (g,⟨false,true,3,40,[.agg [.int .i64 f2.Params,.sl (f2.Slots.map Pn),.sl (f2.Code.map Pm)]]⟩)),(8192,some (0,⟨false,true,2,99,[.agg [.sl (r6.2.list.map eU8),.int .i64 r6.2.at_]]⟩))]) (j:=fun s=>RR r6 f2 r5 params4 i3 s) ?_ ?_
  ·exact B
  ·rintro x7 v5x1 nn
   try dsimp only
   unfold RR
   refine cD r ?_ ?_
   ·refine A 4 ?_
    refine bD fun r8 hr8=>?_
    refine A 3 ?_
    refine bS ([(OZ.mk 16 r8.1 r5.1 0 0)] : List OZ) Pm r r r (by simp) r r r<|?_
    exact B
   ·refine sC (E:=fun (s : Bool) (g : Nat)=>[(0,.optr 8192 0 0 0),(2,.int .i64 i3),(3,.sl (params4.map Pa)),(5,.optr 5 g 0 0),(9,.int .i64 r5.1),(10,.int .i64 (f2.Slots.length : Int)),(11,.int .i64 r6.1),(36,.bool s)]) (O:=fun _ g=>[(5,some (g,⟨false,true,3,40,[.agg [.int .i64 f2.Params,.sl (f2.Slots.map Pn),.sl (f2.Code.map Pm)]]⟩)),(8192,some (0,⟨false,true,2,99,[.agg [.sl (r6.2.list.map eU8),.int .i64 r6.2.at_]]⟩))]) (j:=fun s=>RS r6 f2 r5 params4 i3 s) ?_ ?_
    ·exact B
    ·rintro x9 v5x2 nn
     try dsimp only
     unfold RS
     refine cD r ?_ ?_
     ·refine A 5 ?_
      refine bD fun r10 hr10=>?_
      refine A 2 ?_
      refine bS ([(OZ.mk 15 r5.1 r10.1 0 0)] : List OZ) Pm r r r (by simp) r r r<|?_
      exact B
     ·refine sC (E:=fun (s : Bool) (g : Nat)=>[(0,.optr 8192 0 0 0),(2,.int .i64 i3),(3,.sl (params4.map Pa)),(5,.optr 5 g 0 0),(9,.int .i64 r5.1),(10,.int .i64 (f2.Slots.length : Int)),(11,.int .i64 r6.1),(49,.bool s)]) (O:=fun _ g=>[(5,some (g,⟨false,true,3,40,[.agg [.int .i64 f2.Params,.sl (f2.Slots.map Pn),.sl (f2.Code.map Pm)]]⟩)),(8192,some (0,⟨false,true,2,99,[.agg [.sl (r6.2.list.map eU8),.int .i64 r6.2.at_]]⟩))]) (j:=fun s=>RT r6 f2 r5 params4 i3 s) ?_ ?_
      ·exact B
      ·rintro x11 v5x3 nn
       try dsimp only
       unfold RT
       refine cD r ?_ ?_
       ·refine A 4 ?_
        refine bD fun r12 hr12=>?_
        refine A 9 ?_
        refine bD fun r13 hr13=>?_
        refine A 3 ?_
        refine bS ([(OZ.mk 17 r13.1 r12.1 0 0)] : List OZ) Pm r r r (by simp) r r r<|?_
        exact B
       ·refine A 7 ?_
        refine cD r ?_ ?_
        ·refine A 4 ?_
         refine bD fun r14 hr14=>?_
         refine A 2 ?_
         refine bS ([(OZ.mk 0 r5.1 0 0 r14.1)] : List OZ) Pm r r r (by simp) r r r<|?_
         exact B
        ·refine A 7 ?_
         refine cD r ?_ ?_
         ·refine A 3 ?_
          refine bD fun r15 hr15=>?_
          refine A 4 ?_
          refine bD fun r16 hr16=>?_
          refine A 2 ?_
          refine bD fun r17 hr17=>?_
          refine A 2 ?_
          refine bS ([(OZ.mk (IntKind.i64.wrap (2 + r15.1)) r5.1 r16.1 r17.1 0)] : List OZ) Pm r r r (by simp) r r r<|?_
          exact B
         ·refine A 7 ?_
          refine cD r ?_ ?_
          ·refine A 4 ?_
           refine bS ([(OZ.mk 14 r5.1 0 0 0)] : List OZ) Pm r r r (by simp) r r r<|?_
           exact B
          ·refine A 7 ?_
           refine cD r ?_ ?_
           ·refine A 2 ?_
            refine bS ([13,12,1] : List Int) Pa r r r (by simp) r r r<|?_
            refine A 1 ?_
            refine bD fun r18 hr18=>?_
            refine A 2 ?_
            refine bD fun x_e19 hx_e19=>?_
            refine A 3 ?_
            refine bS ([(OZ.mk x_e19 r5.1 0 0 0)] : List OZ) Pm r r r (by simp) r r r<|?_
            exact B
           ·refine sC (E:=fun (s : Bool) (g : Nat)=>[(0,.optr 8192 0 0 0),(2,.int .i64 i3),(3,.sl (params4.map Pa)),(5,.optr 5 g 0 0),(9,.int .i64 r5.1),(11,.int .i64 r6.1),(104,.bool s)]) (O:=fun _ g=>[(5,some (g,⟨false,true,3,40,[.agg [.int .i64 f2.Params,.sl (f2.Slots.map Pn),.sl (f2.Code.map Pm)]]⟩)),(8192,some (0,⟨false,true,2,99,[.agg [.sl (r6.2.list.map eU8),.int .i64 r6.2.at_]]⟩))]) (j:=fun s=>RU r6 f2 r5 params4 i3 s) ?_ ?_
            ·exact B
            ·rintro x20 v5x4 nn
             try dsimp only
             unfold RU
             refine cD r ?_ ?_
             ·refine A 6 ?_
              refine bD fun r21 hr21=>?_
              refine A 2 ?_
              refine bS ([(OZ.mk 19 r5.1 r21.1 0 0)] : List OZ) Pm r r r (by simp) r r r<|?_
              exact B
             ·refine sC (E:=fun (s : Bool) (_g : Unit)=>[(0,.optr 8192 0 0 0),(2,.int .i64 i3),(3,.sl (params4.map Pa)),(9,.int .i64 r5.1),(119,.bool s)]) (O:=fun _ _=>[(8192,some (0,⟨false,true,2,99,[.agg [.sl (r6.2.list.map eU8),.int .i64 r6.2.at_]]⟩))]) (j:=fun s=>RV r6 params4 i3 r5 s) ?_ ?_
              ·exact B
              ·rintro x22 ⟨⟩ nn
               try dsimp only
               unfold RV
               refine cD r ?_ ?_
               ·refine A 10 ?_
                refine bD fun r23 hr23=>?_
                refine A 17 ?_
                refine lP (E:=fun (s : (List Int) × Int × (List OZ) × Int) (g : Nat)=>[(0,.optr 8192 0 0 0),(3,.sl (params4.map Pa)),(13,.int .i64 (IntKind.i64.wrap ((IntKind.i64.wrap (i3 + 1)) + r23.1))),(14,.osl 14 g 0 s.2.2.1.length),(15,.int .i64 s.2.2.2)]) (O:=fun s g=>[(14,some (g,⟨false,false,5,50,s.2.2.1.map Pm⟩)),(8192,some (0,⟨false,true,2,99,[.agg [.sl (s.1.map eU8),.int .i64 s.2.1]]⟩))]) (body:=fun s=>Vp params4 i3 r23 s.1 s.2.1 s.2.2.1 s.2.2.2) (s:=(r23.2.list,r23.2.at_,([] : List OZ),0)) _ ((hE ⟨rfl,r,r,r,r,trivial⟩ ⟨rfl,r,trivial⟩))<|?_
                rintro ⟨c24,c25,out26,a27⟩ v14x6 nn
                try dsimp only
                unfold Vp
                refine A 6 ?_
                refine bD fun x_x28 hx_x28=>?_
                refine A 5 ?_
                refine cD r ?_ ?_
                ·refine A 7 ?_
                 refine bD fun r29 hr29=>?_
                 refine A 4 ?_
                 refine cD r ?_ ?_
                 ·refine A 4 ?_
                  refine bD fun r30 hr30=>?_
                  refine A 2 ?_
                  refine bS ([(OZ.mk 18 a27 r30.1 0 0)] : List OZ) Pm r r r (by simp) r r r<|?_
                  exact B
                 ·exact B
                ·refine A 10 ?_
                 refine bS ([(OZ.mk 22 (IntKind.i64.wrap ((IntKind.i64.wrap (i3 + 1)) + r23.1)) 0 0 0)] : List OZ) Pm r r r (by simp) r r r<|?_
                 exact B
               ·exact B
 ·rintro ⟨⟩ ⟨⟩ nn
  try dsimp only
  unfold Yi
  refine A 4 ?_
  refine bS ([(OZ.mk 14 r5.1 0 0 0)] : List OZ) Pm r r r (by simp) r r r<|?_
  exact B

def SL (a : Mk × Int × (List Int) × Int) : List D:=[Pz a.1,.int .i64 a.2.1,.sl (a.2.2.1.map Pa),.int .i64 a.2.2.2]
def SK (ds : List D) : Mk × Int × (List Int) × Int:=(Sh (ds.getD 0 .top),uI (ds.getD 1 .top),(uL uI) (ds.getD 2 .top),uI (ds.getD 3 .top))
theorem Aed (a : Mk × Int × (List Int) × Int) : SK (SL a) = a:=by simp [SK,SL,uI,PX (u:=uI) (en:=Pa) (fun _=>rfl)]
instance : Px SL SK:=⟨Aed⟩
def AaB (b : OX × Mk) : D:=PL b.1
def AeC (b : OX × Mk) : List D:=[Pz b.2]
noncomputable def AaC : Dw.Spec:=Pf [(0,(2,99))] .val SL SK (fun a=>SW a.1 a.2.1 a.2.2.1 a.2.2.2) AaB AeC
theorem Aee : Pd Tryz.prog 51 AaC:=by
 refine fn2 4 (Pk (l:=[(74,Acd),(28,PN),(75,AcC),(76,ZD)]) (by simp [AfU,PQ,Age,Ace])) Tryz.func51<|?_
 rintro ⟨c1,i2,params3,most4⟩
 unfold SW
 refine A 9 ?_
 refine bD fun x_x5 hx_x5=>?_
 refine A 3 ?_
 refine bD fun r6 hr6=>?_
 refine A 18 ?_
 refine lP (E:=fun (s : (List Int) × Int × (List OZ) × Int) (g : Nat × Nat × Nat × Nat)=>[(0,.optr 8192 0 0 0),(1,.int .i64 i2),(2,.sl (params3.map Pa)),(3,.int .i64 most4),(8,.optr 8 g.1 0 0),(9,.optr 9 g.2.1 0 0),(10,.osl 10 g.2.2.1 0 s.2.2.1.length),(11,.int .i64 s.2.2.2)]) (O:=fun s g=>[(8,some (g.1,⟨false,true,3,40,[.agg [.int .i64 0,.nils,.nils]]⟩)),(9,some (g.2.1,⟨false,true,3,40,[.agg [.int .i64 x_x5,.osl 21 g.2.2.2 0 r6.1.length,.nils]]⟩)),(10,some (g.2.2.1,⟨false,false,5,50,s.2.2.1.map Pm⟩)),(21,some (g.2.2.2,⟨false,false,2,54,r6.1.map Pn⟩)),(8192,some (0,⟨false,true,2,99,[.agg [.sl (s.1.map eU8),.int .i64 s.2.1]]⟩))]) (body:=fun s=>Tq r6 most4 x_x5 i2 params3 s.1 s.2.1 s.2.2.1 s.2.2.2) (s:=(r6.2.list,r6.2.at_,([] : List OZ),0)) (_,_,_,_) ((hE ⟨rfl,r,r,r,r,r,r,r,trivial⟩ ⟨rfl,r,r,r,r,trivial⟩))<|?_
 rintro ⟨c7,c8,code9,s10⟩ ⟨v8x1,v9x1,v10x1,v21x1⟩ nn
 try dsimp only
 unfold Tq
 refine A 10 ?_
 refine cD r ?_ ?_
 ·refine A 7 ?_
  refine bD fun r11 hr11=>?_
  refine A 4 ?_
  refine cD r ?_ ?_
  ·refine A 4 ?_
   refine bD fun r12 hr12=>?_
   refine A 2 ?_
   refine bS ([(OZ.mk 16 s10 r12.1 0 0)] : List OZ) Pm r r r (by simp) r r r<|?_
   exact B
  ·exact B
 ·refine A 11 ?_
  refine bD fun r13 hr13=>?_
  refine A 5 ?_
  refine lP (E:=fun (s : (List Int) × Int × (List OZ) × (List Po) × Int) (g : Nat × Nat × Nat)=>[(0,.optr 8192 0 0 0),(1,.int .i64 i2),(2,.sl (params3.map Pa)),(8,.optr 8 g.1 0 0),(9,.optr 9 g.2.1 0 0),(10,.osl 10 g.2.2 0 s.2.2.1.length),(12,.int .i64 s.2.2.2.2)]) (O:=fun s g=>[(8,some (g.1,⟨false,true,3,40,[.agg [.int .i64 0,.nils,.nils]]⟩)),(9,some (g.2.1,⟨false,true,3,40,[.agg [.int .i64 x_x5,.sl (s.2.2.2.1.map Pn),.nils]]⟩)),(10,some (g.2.2,⟨false,false,5,50,s.2.2.1.map Pm⟩)),(8192,some (0,⟨false,true,2,99,[.agg [.sl (s.1.map eU8),.int .i64 s.2.1]]⟩))]) (body:=fun s=>Ts x_x5 i2 params3 s.1 s.2.1 s.2.2.1 s.2.2.2.1 s.2.2.2.2) (s:=(r13.2.list,r13.2.at_,code9,r6.1,r13.1)) (_,_,_) ((AbL [(21,some (_,⟨true,false,2,54,r6.1.map Pn⟩))] ⟨⟨_,_,r,r,r⟩,trivial⟩ ⟨(PG r),(PG r),(PG r),(PG r),(PG r),(PG r),(PG r),trivial⟩ ⟨(.inl r),(.inr ⟨_,_,_,_,r,r,r,r,Aar r ⟨(Vh r),(Yg (l:=r6.1) (en:=Pn) r r r (by simp)),(Vh r),trivial⟩⟩),(.inl r),(.inl r),trivial⟩))<|?_
  rintro ⟨c14,c15,code16,f17,n18⟩ ⟨v8x2,v9x2,v10x2⟩ nn
  try dsimp only
  unfold Ts
  refine A 7 ?_
  refine cD r ?_ ?_
  ·refine A 11 ?_
   refine bD fun r19 hr19=>?_
   refine A 8 ?_
   refine bD fun r20 hr20=>?_
   refine A 10 ?_
   refine cD r ?_ ?_
   ·refine A 3 ?_
    refine bD fun r21 hr21=>?_
    refine A 2 ?_
    refine bS ([(OZ.mk 21 r21.1 (-1) 0 0)] : List OZ) Pm r r r (by simp) r r r<|?_
    exact B
   ·refine A 6 ?_
    refine cD r ?_ ?_
    ·refine A 3 ?_
     refine bD fun r22 hr22=>?_
     refine A 4 ?_
     refine cD r ?_ ?_
     ·refine A 3 ?_
      refine bS ([(OZ.mk 20 (-1) 0 0 0)] : List OZ) Pm r r r (by simp) r r r<|?_
      exact B
     ·exact B
    ·exact B
  ·refine A 12 ?_
   refine sC (E:=fun (_s : (List Int) × Int × Int × Int) (g : Nat × Nat × Nat × Nat)=>[(0,.optr 8192 0 0 0),(8,.optr 8 g.1 0 0),(9,.optr 9 g.2.1 0 0),(10,.osl 10 g.2.2.1 0 code16.length),(13,.optr 13 g.2.2.2 0 0)]) (O:=fun s g=>[(8,some (g.1,⟨false,true,3,40,[.agg [.int .i64 0,.nils,.nils]]⟩)),(9,some (g.2.1,⟨false,true,3,40,[.agg [.int .i64 x_x5,.sl (f17.map Pn),.nils]]⟩)),(10,some (g.2.2.1,⟨false,false,5,50,code16.map Pm⟩)),(13,some (g.2.2.2,⟨false,true,5,50,[.agg [.int .i64 s.2.2.1,.int .i64 0,.int .i64 0,.int .i64 0,.int .u64 s.2.2.2]]⟩)),(8192,some (0,⟨false,true,2,99,[.agg [.sl (s.1.map eU8),.int .i64 s.2.1]]⟩))]) (j:=fun s=>QP code16 x_x5 f17 s.1 s.2.1 s.2.2.1 s.2.2.2) ?_ ?_
   ·exact B
   ·rintro ⟨c23,c24,end25,end26⟩ ⟨v8x3,v9x3,v10x3,v13x3⟩ nn
    try dsimp only
    unfold QP
    refine A 4 ?_
    refine bS ([(OZ.mk end25 0 0 0 end26)] : List OZ) Pm r r r (by simp) r r r<|cK fun hq=>aP (code16) (([(OZ.mk end25 0 0 0 end26)] : List OZ)) Pm r r r r r r r (by simp) (TP _ _ r) r r (by simp) (SE _ _ r) (fun _=>r) r hq<|?_
    refine A 10 ?_
    refine lP (E:=fun (s : (List Int) × Int × (List OZ) × Int) (g : Nat × Nat × Nat)=>[(0,.optr 8192 0 0 0),(8,.optr 8 g.1 0 0),(9,.optr 9 g.2.1 0 0),(10,.osl 10 g.2.2 0 s.2.2.1.length),(14,.int .i64 s.2.2.2)]) (O:=fun s g=>[(8,some (g.1,⟨false,true,3,40,[.agg [.int .i64 0,.nils,.nils]]⟩)),(9,some (g.2.1,⟨false,true,3,40,[.agg [.int .i64 x_x5,.sl (f17.map Pn),.nils]]⟩)),(10,some (g.2.2,⟨false,false,5,50,s.2.2.1.map Pm⟩)),(8192,some (0,⟨false,true,2,99,[.agg [.sl (s.1.map eU8),.int .i64 s.2.1]]⟩))]) (body:=fun s=>RG x_x5 f17 s.1 s.2.1 s.2.2.1 s.2.2.2) (s:=(c23,c24,code16 ++ ([(OZ.mk end25 0 0 0 end26)] : List OZ),0)) (_,_,_) ((hE ⟨rfl,r,r,r,r,trivial⟩ ⟨rfl,r,r,r,trivial⟩))<|?_
    rintro ⟨c29,c30,code31,k32⟩ ⟨v8x4,v9x4,v10x4⟩ nn
    try dsimp only
    unfold RG
    refine A 9 ?_
    refine cD r ?_ ?_
    ·refine A 8 ?_
     refine bD fun r33 hr33=>?_
     refine A 6 ?_
     refine sC (E:=fun (s : Int) (g : Nat × Nat × Nat)=>[(0,.optr 8192 0 0 0),(8,.optr 8 g.1 0 0),(9,.optr 9 g.2.1 0 0),(10,.osl 10 g.2.2 0 code31.length),(14,.int .i64 k32),(15,.int .i64 s)]) (O:=fun _ g=>[(8,some (g.1,⟨false,true,3,40,[.agg [.int .i64 0,.nils,.nils]]⟩)),(9,some (g.2.1,⟨false,true,3,40,[.agg [.int .i64 x_x5,.sl (f17.map Pn),.nils]]⟩)),(10,some (g.2.2,⟨false,false,5,50,code31.map Pm⟩)),(8192,some (0,⟨false,true,2,99,[.agg [.sl (r33.2.list.map eU8),.int .i64 r33.2.at_]]⟩))]) (j:=fun s=>Qd k32 code31 r33 s) ?_ ?_
     ·exact B
     ·rintro to34 ⟨v8x5,v9x5,v10x5⟩ nn
      try dsimp only
      unfold Qd
      refine A 1 ?_
      refine sC (E:=fun (s : Bool) (g : Nat × Nat × Nat)=>[(0,.optr 8192 0 0 0),(8,.optr 8 g.1 0 0),(9,.optr 9 g.2.1 0 0),(10,.osl 10 g.2.2 0 code31.length),(14,.int .i64 k32),(15,.int .i64 to34),(107,.bool s)]) (O:=fun _ g=>[(8,some (g.1,⟨false,true,3,40,[.agg [.int .i64 0,.nils,.nils]]⟩)),(9,some (g.2.1,⟨false,true,3,40,[.agg [.int .i64 x_x5,.sl (f17.map Pn),.nils]]⟩)),(10,some (g.2.2,⟨false,false,5,50,code31.map Pm⟩)),(8192,some (0,⟨false,true,2,99,[.agg [.sl (r33.2.list.map eU8),.int .i64 r33.2.at_]]⟩))]) (j:=fun s=>RH k32 code31 r33 to34 s) ?_ ?_
      ·exact B
      ·rintro x35 ⟨v8x6,v9x6,v10x6⟩ nn
       try dsimp only
       unfold RH
       refine cD r ?_ ?_
       ·refine A 6 ?_
        refine bD fun code_o38 hcode_o38=>sE (l:=code31) (en:=Pm) (q':=(OZ.mk code_o38.Op to34 code_o38.B code_o38.C code_o38.Imm)) r r r r r r r (by simp) hcode_o38 r r r r r<|?_
        exact B
       ·refine A 6 ?_
        refine bD fun code_e39 hcode_e39=>?_
        refine A 3 ?_
        refine AbF r ?_ ?_
        ·refine A 4 ?_
         refine bD fun code_e40 hcode_e40=>?_
         refine A 6 ?_
         refine cD r ?_ ?_
         ·refine A 6 ?_
          refine bD fun code_o41 hcode_o41=>sE (l:=code31) (en:=Pm) (q':=(OZ.mk code_o41.Op code_o41.A to34 code_o41.C code_o41.Imm)) r r r r r r r (by simp) hcode_o41 r r r r r<|?_
          exact B
         ·exact B
        ·exact B
    ·refine A 19 ?_
     refine Vd (b:=((OX.mk x_x5 f17 code31),(Mk.mk c29 c30))) r ?_ r r ?_ (by first | rfl | (simp only [OV]; rfl) | (simp only [OW]; rfl) | (simp only [OV,OW]; rfl) | simp [AaB,PL])
     all_goals first|(simp;done)|(simp;omega)|rfl|(simp [PH,PE];done)

def Tp (a : Mk × Int × Int) : List D:=[Pz a.1,.int .i64 a.2.1,.int .i64 a.2.2]
def Tn (ds : List D) : Mk × Int × Int:=(Sh (ds.getD 0 .top),uI (ds.getD 1 .top),uI (ds.getD 2 .top))
theorem AeA (a : Mk × Int × Int) : Tn (Tp a) = a:=by simp [Tn,Tp,uI]
instance : Px Tp Tn:=⟨AeA⟩
def Afk (b : Ph × Mk) : D:=RB b.1
def Afj (b : Ph × Mk) : List D:=[Pz b.2]
noncomputable def AaT : Dw.Spec:=Pf [(0,(2,99))] .val Tp Tn (fun a=>Tx a.1 a.2.1 a.2.2) Afk Afj
theorem AeB : Pd Tryz.prog 27 AaT:=by
 refine fn2 3 (Pk (l:=[(28,PN),(51,AaC)]) (by simp [PQ,Aee])) Tryz.func27<|?_
 rintro ⟨c1,funcs2,most3⟩
 unfold Tx
 refine A 16 ?_
 refine bD fun r4 hr4=>?_
 refine A 5 ?_
 refine lP (E:=fun (s : (List Int) × Int × (List Int) × Int) (g : Nat × Nat)=>[(0,.optr 8192 0 0 0),(2,.int .i64 most3),(6,.optr 6 g.1 0 0),(7,.osl 7 g.2 0 s.2.2.1.length),(8,.int .i64 s.2.2.2)]) (O:=fun s g=>[(6,some (g.1,⟨false,true,1,26,[.agg [.nils]]⟩)),(7,some (g.2,⟨false,false,1,3,s.2.2.1.map Pa⟩)),(8192,some (0,⟨false,true,2,99,[.agg [.sl (s.1.map eU8),.int .i64 s.2.1]]⟩))]) (body:=fun s=>TF most3 s.1 s.2.1 s.2.2.1 s.2.2.2) (s:=(r4.2.list,r4.2.at_,([0] : List Int),r4.1)) (_,_) ((hE ⟨rfl,r,r,r,r,trivial⟩ ⟨rfl,r,r,trivial⟩))<|?_
 rintro ⟨c5,c6,params7,n8⟩ ⟨v6x1,v7x1⟩ nn
 try dsimp only
 unfold TF
 refine A 7 ?_
 refine cD r ?_ ?_
 ·exact B
 ·refine A 17 ?_
  refine lP (E:=fun (s : (List Int) × Int × (List OX) × Int × (List Int)) (g : Nat × Nat)=>[(0,.optr 8192 0 0 0),(2,.int .i64 most3),(6,.optr 6 g.1 0 0),(7,.sl (s.2.2.2.2.map Pa)),(9,.optr 9 g.2 0 0),(10,.int .i64 s.2.2.2.1)]) (O:=fun s g=>[(6,some (g.1,⟨false,true,1,26,[.agg [.nils]]⟩)),(9,some (g.2,⟨false,true,1,26,[.agg [.sl (s.2.2.1.map PL)]]⟩)),(8192,some (0,⟨false,true,2,99,[.agg [.sl (s.1.map eU8),.int .i64 s.2.1]]⟩))]) (body:=fun s=>TG most3 s.1 s.2.1 s.2.2.1 s.2.2.2.1 s.2.2.2.2) (s:=(c5,c6,[],0,params7)) (_,_) ((AbL [(7,some (_,⟨true,false,1,3,params7.map Pa⟩))] ⟨⟨_,_,r,r,r⟩,trivial⟩ ⟨(PG r),(PG r),(PG r),(AaA (Yg (l:=params7) (en:=Pa) r r r (by simp))),(PG r),(PG r),trivial⟩ ⟨(.inl r),(.inr ⟨_,_,_,_,r,r,r,r,Aar r ⟨(Yf PL r),trivial⟩⟩),(.inl r),trivial⟩))<|?_
  rintro ⟨c10,c11,p12,i13,params14⟩ ⟨v6x2,v9x2⟩ nn
  try dsimp only
  unfold TG
  refine A 9 ?_
  refine cD r ?_ ?_
  ·refine A 13 ?_
   refine bD fun r15 hr15=>?_
   refine A 1 ?_
   refine bS ([r15.1] : List OX) PL r r r (by simp) r r r<|?_
   refine A 16 ?_
   exact wf [11] fun _=>B
  ·exact B

def Amb (b : Bool) : D:=.bool b
noncomputable def Agx : Dw.Spec:=Pf [] .ground PZ PY (fun a=>Abc a) Amb noE
theorem AkA : Pd Tryz.prog 70 Agx:=by
 refine fn2 1 (Pv) Tryz.func70<|?_
 intro a
 unfold Abc
 exact B

def AkD (b : Bool) : D:=.bool b
noncomputable def Aae : Dw.Spec:=Pf [] .ground PZ PY (fun a=>Sg a) AkD noE
theorem AbS : Pd Tryz.prog 58 Aae:=by
 refine fn2 1 (Pv) Tryz.func58<|?_
 intro n1
 unfold Sg
 refine A 12 ?_
 refine lP (E:=fun (s : Int) (_g : Unit)=>[(0,.int .i64 n1),(3,.int .i64 s)]) (O:=fun _ _=>[]) (body:=fun s=>Wj n1 s) (s:=1) () ((hE ⟨rfl,r,trivial⟩ trivial))<|?_
 rintro k2 ⟨⟩ nn
 try dsimp only
 unfold Wj
 exact B

def TL (a : (List Po)) : List D:=[.sl (a.map Pn)]
def TK (ds : List D) : (List Po):=(uL XX) (ds.getD 0 .top)
theorem Ajz (a : (List Po)) : TK (TL a) = a:=by simp [TK,TL,PX (u:=XX) (en:=Pn) Afa]
instance : Px TL TK:=⟨Ajz⟩
def AkF (b : Int) : D:=.int .i64 b
noncomputable def Acr : Dw.Spec:=Pf [] .ground TL TK (fun a=>Xn a) AkF noE
theorem AeL : Pd Tryz.prog 45 Acr:=by
 refine fn2 1 (Pk (l:=[(70,Agx),(58,Aae)]) (by simp [AkA,AbS])) Tryz.func45<|?_
 intro s1
 unfold Xn
 refine A 13 ?_
 refine cD r ?_ ?_
 ·exact B
 ·refine A 9 ?_
  refine lP (E:=fun (s : Int) (_g : Unit)=>[(0,.sl (s1.map Pn)),(3,.int .i64 s)]) (O:=fun _ _=>[]) (body:=fun s=>YM s1 s) (s:=0) () ((hE ⟨rfl,r,trivial⟩ trivial))<|?_
  rintro i2 ⟨⟩ nn
  try dsimp only
  unfold YM
  exact B

def AkB (b : Int) : D:=.int .i64 b
noncomputable def Afy : Dw.Spec:=Pf [] .ground TL TK (fun a=>VF a) AkB noE
theorem Ajx : Pd Tryz.prog 53 Afy:=by
 refine fn2 1 (Pk (l:=[(45,Acr)]) (by simp [AeL])) Tryz.func53<|?_
 intro s1
 unfold VF
 refine A 14 ?_
 refine bD fun r2 hr2=>?_
 refine A 4 ?_
 refine cD r ?_ ?_
 ·exact B
 ·refine A 9 ?_
  refine lP (E:=fun (s : Int × Int) (_g : Unit)=>[(0,.sl (s1.map Pn)),(3,.int .i64 s.1),(4,.int .i64 s.2)]) (O:=fun _ _=>[]) (body:=fun s=>Wg s1 s.1 s.2) (s:=(16,0)) () ((hE ⟨rfl,r,r,trivial⟩ trivial))<|?_
  rintro ⟨a3,i4⟩ ⟨⟩ nn
  try dsimp only
  unfold Wg
  exact B

def XF (a : Ph) : List D:=[RB a]
def XE (ds : List D) : Ph:=VM (ds.getD 0 .top)
theorem AjE (a : Ph) : XE (XF a) = a:=by simp [XE,XF]
instance : Px XF XE:=⟨AjE⟩
def AkM (b : Int) : D:=.int .i64 b
noncomputable def Acu : Dw.Spec:=Pf [] .ground XF XE (fun a=>Um a) AkM noE
theorem AeN : Pd Tryz.prog 29 Acu:=by
 refine fn2 1 (Pk (l:=[(53,Afy)]) (by simp [Ajx])) Tryz.func29<|?_
 intro p1
 unfold Um
 refine A 18 ?_
 refine lP (E:=fun (s : Int × Int) (g : Nat)=>[(1,.optr 1 g 0 0),(3,.int .i64 s.1),(4,.int .i64 s.2)]) (O:=fun _ g=>[(1,some (g,⟨false,true,1,26,[.agg [.sl (p1.Funcs.map PL)]]⟩))]) (body:=fun s=>Wo p1 s.1 s.2) (s:=(16,0)) _ ((hE ⟨rfl,r,r,trivial⟩ ⟨rfl,trivial⟩))<|?_
 rintro ⟨a2,i3⟩ v1x1 nn
 try dsimp only
 unfold Wo
 exact B

end Go.Proofs.YtnldnldmgceooaaGreatDoor
