/-
  Programs on typed data, and the proofs that the code does what they say; written by a program (dx.py).
-/
import Derived.Test.YtnldnldmgceooaaGreatDoorProg
import Derived.Test.YtnldnldmgceooaaGreatDoorDd
import Derived.KernelRfl
import Derived.Test.YtnldnldmgceooaaGreatDoorDxP
namespace Go.Proofs.YtnldnldmgceooaaGreatDoor
open Go Go.Dw Go.Proofs
set_option maxRecDepth 100000
set_option maxHeartbeats 4000000
open Go.Dw renaming QU → bD,PN → cK,AcW → bS,Aey → aP,Ue → sE,Acy → cD,AeS → xL,Aah → hE,Aez → lP,AaZ → sC,Zg → bC,rf → r
def Vb (a : Ph × Int) : List D:=[Rv a.1,.int .i64 a.2]
def Va (ds : List D) : Ph × Int:=(VQ (ds.getD 0 .top),uI (ds.getD 1 .top))
theorem Amf (a : Ph × Int) : Va (Vb a) = a:=by simp [Va,Vb,uI]
instance : Px Vb Va:=⟨Amf⟩
def Anc (b : Int) : D:=.int .i64 b
noncomputable def Aep : Dw.Spec:=Pf [] .ground Vb Va (fun a=>Yo a.1 a.2) Anc noE
theorem Agx : Pd Tryz.prog 68 Aep:=by
 refine fn2 2 (Pv) Tryz.func68<|?_
 rintro ⟨p1,i2⟩
 unfold Yo
 refine A 17 ?_
 refine bD fun x_x3 hx_x3=>?_
 refine A 8 ?_
 refine lP (E:=fun (s : Int × Int) (g : Nat)=>[(2,.optr 2 g 0 0),(5,.int .i64 s.2),(13,.sl (x_x3.Code.map Pm)),(14,.int .i64 (x_x3.Code.length : Int)),(15,.int .i64 s.1)]) (O:=fun _ g=>[(2,some (g,⟨false,true,1,26,[.agg [.sl (p1.Funcs.map PI)]]⟩))]) (body:=fun s=>Abe x_x3 p1 s.1 s.2) (s:=(0,0)) _ ((hE ⟨rfl,r,r,r,r,trivial⟩ ⟨rfl,trivial⟩))<|?_
 rintro ⟨x4,n5⟩ v2x1 nn
 try dsimp only
 unfold Abe
 exact B

def PZ (a : Int) : List D:=[.int .i64 a]
def PY (ds : List D) : Int:=uI (ds.getD 0 .top)
theorem AiG (a : Int) : PY (PZ a) = a:=by simp [PY,PZ,uI]
instance : Px PZ PY:=⟨AiG⟩
def Ajr (b : Bool) : D:=.bool b
noncomputable def YC : Dw.Spec:=Pf [] .ground PZ PY (fun a=>Tq a) Ajr noE
theorem AaV : Pd Tryz.prog 117 YC:=by
 refine fn2 1 (Pv) Tryz.func117<|?_
 intro a
 unfold Tq
 exact B

def Ajq (b : Bool) : D:=.bool b
noncomputable def AeJ : Dw.Spec:=Pf [] .ground PZ PY (fun a=>Yi a) Ajq noE
theorem AiE : Pd Tryz.prog 118 AeJ:=by
 refine fn2 1 (Pv) Tryz.func118<|?_
 intro a
 unfold Yi
 exact B

def TO (a : Int × Int) : List D:=[.int .i64 a.1,.int .i64 a.2]
def TN (ds : List D) : Int × Int:=(uI (ds.getD 0 .top),uI (ds.getD 1 .top))
theorem AlT (a : Int × Int) : TN (TO a) = a:=by simp [TN,TO,uI]
instance : Px TO TN:=⟨AlT⟩
def AmV (b : Int) : D:=.int .i64 b
noncomputable def AhD : Dw.Spec:=Pf [] .ground TO TN (fun a=>AdK a.1 a.2) AmV noE
theorem AlV : Pd Tryz.prog 120 AhD:=by
 refine fn2 2 (Pv) Tryz.func120<|?_
 intro a
 unfold AdK
 exact B

def AhW (b : Int × Int) : D:=.tup [.int .i64 b.1,.int .i64 b.2]
noncomputable def Aaz : Dw.Spec:=Pf [] .ground PZ PY (fun a=>Ur a) AhW noE
theorem AcI : Pd Tryz.prog 119 Aaz:=by
 refine fn2 1 (Pv) Tryz.func119<|?_
 intro a
 unfold Ur
 exact B

def AmU (b : Int × Int) : D:=.tup [.int .i64 b.1,.int .i64 b.2]
noncomputable def Aeg : Dw.Spec:=Pf [] .ground TO TN (fun a=>AaE a.1 a.2) AmU noE
theorem Agq : Pd Tryz.prog 90 Aeg:=by
 refine fn2 2 (Pk (l:=[(117,YC),(118,AeJ),(120,AhD),(119,Aaz)]) (by simp [AaV,AiE,AlV,AcI])) Tryz.func90<|?_
 rintro ⟨n1,align2⟩
 unfold AaE
 refine A 6 ?_
 refine sC (E:=fun (_s : Unit) (_g : Unit)=>[(0,.int .i64 n1),(1,.int .i64 align2)]) (O:=fun _ _=>[]) (j:=fun _=>AaU n1 align2) ?_ ?_
 ·exact B
 ·rintro ⟨⟩ ⟨⟩ nn
  try dsimp only
  unfold AaU
  exact B

def AlS (b : Int × Int) : D:=.tup [.int .i64 b.1,.int .i64 b.2]
noncomputable def Adg : Dw.Spec:=Pf [] .ground TO TN (fun a=>YB a.1 a.2) AlS noE
theorem Afx : Pd Tryz.prog 91 Adg:=by
 refine fn2 2 (Pk (l:=[(117,YC),(119,Aaz)]) (by simp [AaV,AcI])) Tryz.func91<|?_
 rintro ⟨x1,y2⟩
 unfold YB
 refine A 6 ?_
 refine sC (E:=fun (_s : Unit) (_g : Unit)=>[(0,.int .i64 x1),(1,.int .i64 y2)]) (O:=fun _ _=>[]) (j:=fun _=>Aab x1 y2) ?_ ?_
 ·exact B
 ·rintro ⟨⟩ ⟨⟩ nn
  try dsimp only
  unfold Aab
  exact B

def YI (a : Pc × Int × Int) : List D:=[PR a.1,.int .i64 a.2.1,.int .i64 a.2.2]
def YH (ds : List D) : Pc × Int × Int:=(AbZ (ds.getD 0 .top),uI (ds.getD 1 .top),uI (ds.getD 2 .top))
theorem AkF (a : Pc × Int × Int) : YH (YI a) = a:=by simp [YH,YI,uI]
instance : Px YI YH:=⟨AkF⟩
def Agy (b : Pc × Int) : D:=.tup [PR b.1,.int .i64 b.2]
noncomputable def Agz : Dw.Spec:=Pf [] .val YI YH (fun a=>AcQ a.1 a.2.1 a.2.2) Agy noE
theorem AkG : Pd Tryz.prog 92 Agz:=by
 refine fn2 3 (Pk (l:=[(90,Aeg),(91,Adg)]) (by simp [Agq,Afx])) Tryz.func92<|?_
 rintro ⟨y1,end2,align3⟩
 unfold AcQ
 refine A 11 ?_
 refine bD fun r4 hr4=>?_
 refine A 8 ?_
 refine sC (E:=fun (s : Int) (g : Nat × Nat)=>[(3,.optr 3 g.1 0 0),(6,.optr 6 g.2 0 0),(8,.int .i64 r4.1),(9,.int .i64 s)]) (O:=fun _ g=>[(3,some (g.1,⟨false,true,3,32,[.agg [.int .i64 y1.Args,.int .i64 y1.Size,.sl (y1.Off.map OZ)]]⟩)),(6,some (g.2,⟨false,true,3,32,[.agg [.int .i64 0,.int .i64 0,.nils]]⟩))]) (j:=fun s=>Xb y1 r4 s) ?_ ?_
 ·exact B
 ·rintro e5 ⟨v3x1,v6x1⟩ nn
  try dsimp only
  unfold Xb
  refine A 7 ?_
  refine cD r ?_ ?_
  ·refine A 9 ?_
   refine Qu (b:=((Pc.mk 0 0 ([])),9)) r ?_ r r ?_ (by first | rfl | (simp only [OV]; rfl) | (simp only [OW]; rfl) | (simp only [OV,OW]; rfl) | simp [Agy,PR]) (by decide)
   all_goals first|(simp;done)|(simp;omega)|rfl|(simp [PG,PE];done)
  ·exact B

def TX (a : Ph × Int × Int) : List D:=[Rv a.1,.int .i64 a.2.1,.int .i64 a.2.2]
def TW (ds : List D) : Ph × Int × Int:=(VQ (ds.getD 0 .top),uI (ds.getD 1 .top),uI (ds.getD 2 .top))
theorem AhZ (a : Ph × Int × Int) : TW (TX a) = a:=by simp [TW,TX,uI]
instance : Px TX TW:=⟨AhZ⟩
def AdM (b : Pc × Int) : D:=.tup [PR b.1,.int .i64 b.2]
noncomputable def AdN : Dw.Spec:=Pf [] .val TX TW (fun a=>Vc a.1 a.2.1 a.2.2) AdM noE
theorem Aia : Pd Tryz.prog 67 AdN:=by
 refine fn2 3 (Pk (l:=[(68,Aep),(90,Aeg),(91,Adg),(92,Agz)]) (by simp [Agx,Agq,Afx,AkG])) Tryz.func67<|?_
 rintro ⟨p1,i2,align3⟩
 unfold Vc
 refine A 11 ?_
 refine bD fun r4 hr4=>?_
 refine A 19 ?_
 refine bD fun x_x5 hx_x5=>?_
 refine A 8 ?_
 refine lP (E:=fun (s : (List Int) × Int × Int) (g : Nat × Nat × Nat × Nat)=>[(2,.int .i64 align3),(6,.optr 6 g.1 0 0),(8,.optr 8 g.2.1 0 0),(9,.int .i64 s.2.2),(25,.sl (x_x5.Slots.map Pn)),(26,.int .i64 (x_x5.Slots.length : Int)),(27,.int .i64 s.2.1)]) (O:=fun s g=>[(6,some (g.1,⟨false,true,3,32,[.agg [.int .i64 0,.int .i64 0,.osl 2900 g.2.2.1 0 (([] : List Int).length)]]⟩)),(8,some (g.2.1,⟨false,true,3,32,[.agg [.int .i64 r4,.int .i64 0,.osl 2901 g.2.2.2 0 s.1.length]]⟩)),(2900,some (g.2.2.1,⟨false,false,1,3,([] : List Int).map OZ⟩)),(2901,some (g.2.2.2,⟨false,false,1,3,s.1.map OZ⟩))]) (body:=fun s=>WE x_x5 r4 align3 s.1 s.2.1 s.2.2) (s:=(([] : List Int),0,r4)) (_,_,_,_) ((Oc (gg:=6) (off:=2) (tt:=2900) (s:=1) (tyy:=3) r r r r (Oc (gg:=8) (off:=2) (tt:=2901) (s:=1) (tyy:=3) r r r r (hE ⟨rfl,r,r,r,r,r,r,trivial⟩ ⟨rfl,r,r,r,trivial⟩))))<|?_
 rintro ⟨x6,x7,end8⟩ ⟨v6x1,v8x1,v2900x1,v2901x1⟩ nn
 try dsimp only
 unfold WE
 refine A 6 ?_
 refine cD r ?_ ?_
 ·refine A 6 ?_
  refine bD fun x_x9 hx_x9=>?_
  refine A 11 ?_
  refine bD fun r10 hr10=>?_
  refine A 8 ?_
  refine sC (E:=fun (s : Int × Int) (g : Nat × Nat × Nat × Nat)=>[(2,.int .i64 align3),(6,.optr 6 g.1 0 0),(8,.optr 8 g.2.1 0 0),(9,.int .i64 s.2),(12,.int .i64 r10.1),(13,.int .i64 s.1),(25,.sl (x_x5.Slots.map Pn)),(26,.int .i64 (x_x5.Slots.length : Int)),(27,.int .i64 x7)]) (O:=fun _ g=>[(6,some (g.1,⟨false,true,3,32,[.agg [.int .i64 0,.int .i64 0,.osl 2900 g.2.2.1 0 (([] : List Int).length)]]⟩)),(8,some (g.2.1,⟨false,true,3,32,[.agg [.int .i64 r4,.int .i64 0,.osl 2901 g.2.2.2 0 x6.length]]⟩)),(2900,some (g.2.2.1,⟨false,false,1,3,([] : List Int).map OZ⟩)),(2901,some (g.2.2.2,⟨false,false,1,3,x6.map OZ⟩))]) (j:=fun s=>UI x6 r10 x7 s.1 s.2) ?_ ?_
  ·exact B
  ·rintro ⟨e11,end12⟩ ⟨v6x2,v8x2,v2900x2,v2901x2⟩ nn
   try dsimp only
   unfold UI
   refine A 7 ?_
   refine cD r ?_ ?_
   ·refine A 14 ?_
    refine Qu (b:=((Pc.mk 0 0 ([])),9)) r ?_ r r ?_ (by first | rfl | (simp only [OV]; rfl) | (simp only [OW]; rfl) | (simp only [OV,OW]; rfl) | simp [AdM,PR]) (by decide)
    all_goals first|(simp;done)|(simp;omega)|rfl|(simp [PG,PE];done)
   ·refine A 17 ?_
    exact xL (s:=(x6 ++ ([r10.1] : List Int),IntKind.i64.wrap (x7 + 1),end12)) (_,_,_,_) ((Ahq (E1:=[(2,.int .i64 align3),(6,.optr 6 _ 0 0),(8,.optr 8 _ 0 0),(9,.int .i64 end12),(25,.sl (x_x5.Slots.map Pn)),(26,.int .i64 (x_x5.Slots.length : Int)),(27,.int .i64 (IntKind.i64.wrap (x7 + 1)))]) (O1:=[(6,some (_,⟨false,true,3,32,[.agg [.int .i64 0,.int .i64 0,.osl 2900 _ 0 (([] : List Int).length)]]⟩)),(8,some (_,⟨false,true,3,32,[.agg [.int .i64 r4,.int .i64 0,.osl 54 _ 0 ((x6 ++ ([r10.1] : List Int)).length)]]⟩)),(54,some (_,⟨false,false,1,3,(x6 ++ ([r10.1] : List Int)).map OZ⟩)),(2900,some (_,⟨false,false,1,3,([] : List Int).map OZ⟩))]) (hE ⟨rfl,r,r,r,r,r,r,trivial⟩ ⟨rfl,r,r,r,trivial⟩) (fun _=>Ahp (fun g=>bif Nat.beq g 54 then 2901 else g) (by rfl) (hE ⟨rfl,r,r,r,r,r,r,trivial⟩ ⟨rfl,r,r,r,trivial⟩))))
 ·exact B

def Qz (a : Pr × Int) : List D:=[TB a.1,.int .i64 a.2]
def Qy (ds : List D) : Pr × Int:=(TL (ds.getD 0 .top),uI (ds.getD 1 .top))
theorem Acq (a : Pr × Int) : Qy (Qz a) = a:=by simp [Qy,Qz,uI]
instance : Px Qz Qy:=⟨Acq⟩
def AcP (b : Pj) : D:=Qd b
noncomputable def Ui : Dw.Spec:=Pf [] .ground Qz Qy (fun a=>Qb a.1 a.2) AcP noE
theorem Xa : Pd Tryz.prog 86 Ui:=by
 refine fn2 2 (Pv) Tryz.func86<|?_
 intro a
 unfold Qb
 exact B

def UF (a : Pj) : List D:=[Qd a]
def UE (ds : List D) : Pj:=Tu (ds.getD 0 .top)
theorem AiH (a : Pj) : UE (UF a) = a:=by simp [UE,UF]
instance : Px UF UE:=⟨AiH⟩
def Ajt (b : Bool) : D:=.bool b
noncomputable def AbL : Dw.Spec:=Pf [] .ground UF UE (fun a=>UD a) Ajt noE
theorem AdJ : Pd Tryz.prog 114 AbL:=by
 refine fn2 1 (Pk (l:=[(117,YC)]) (by simp [AaV])) Tryz.func114<|?_
 intro a
 unfold UD
 exact B

def TU (a : Pj × Int) : List D:=[Qd a.1,.int .i64 a.2]
def TT (ds : List D) : Pj × Int:=(Tu (ds.getD 0 .top),uI (ds.getD 1 .top))
theorem AhT (a : Pj × Int) : TT (TU a) = a:=by simp [TT,TU,uI]
instance : Px TU TT:=⟨AhT⟩
def AiB (b : Bool) : D:=.bool b
noncomputable def AdI : Dw.Spec:=Pf [] .ground TU TT (fun a=>WZ a.1 a.2) AiB noE
theorem AhU : Pd Tryz.prog 93 AdI:=by
 refine fn2 2 (Pk (l:=[(114,AbL)]) (by simp [AdJ])) Tryz.func93<|?_
 intro a
 unfold WZ
 exact B

def Ady (b : Bool) : D:=.bool b
noncomputable def ZB : Dw.Spec:=Pf [] .ground Qz Qy (fun a=>RS a.1 a.2) Ady noE
theorem Adj : Pd Tryz.prog 69 ZB:=by
 refine fn2 2 (Pk (l:=[(86,Ui),(93,AdI)]) (by simp [Xa,AhU])) Tryz.func69<|?_
 intro a
 unfold RS
 exact B

def Sk (a : Pr) : List D:=[TB a]
def Sj (ds : List D) : Pr:=TL (ds.getD 0 .top)
theorem AdA (a : Pr) : Sj (Sk a) = a:=by simp [Sj,Sk]
instance : Px Sk Sj:=⟨AdA⟩
def Ael (b : Int) : D:=.int .i64 b
noncomputable def VJ : Dw.Spec:=Pf [] .ground Sk Sj (fun a=>Rr a) Ael noE
theorem ZD : Pd Tryz.prog 42 VJ:=by
 refine fn2 1 (Pk (l:=[(67,AdN),(68,Aep),(69,ZB)]) (by simp [Aia,Agx,Adj])) Tryz.func42<|?_
 intro s1
 unfold Rr
 refine A 14 ?_
 refine bD fun r2 hr2=>?_
 refine A 16 ?_
 refine cD r ?_ ?_
 ·exact B
 ·refine A 2 ?_
  refine sC (E:=fun (_s : Unit) (g : Nat × Nat)=>[(1,.optr 1 g.1 0 0),(3,.optr 3 g.2 0 0)]) (O:=fun _ g=>[(1,some (g.1,⟨false,true,9,78,[.agg [.sl (s1.p.Funcs.map PI),.int .i64 s1.i,.int .i64 s1.align,.int .i64 s1.f.Params,.sl (s1.f.Slots.map Pn),.sl (s1.f.Code.map Pm),.int .i64 s1.y.Args,.int .i64 s1.y.Size,.sl (s1.y.Off.map OZ)]]⟩)),(3,some (g.2,⟨false,true,3,32,[.agg [.int .i64 r2.1.Args,.int .i64 r2.1.Size,.sl (r2.1.Off.map OZ)]]⟩))]) (j:=fun _=>SK s1 r2) ?_ ?_
  ·exact B
  ·rintro ⟨⟩ ⟨v1x1,v3x1⟩ nn
   try dsimp only
   unfold SK
   refine A 11 ?_
   refine lP (E:=fun (s : Int) (g : Nat × Nat)=>[(1,.optr 1 g.1 0 0),(3,.optr 3 g.2 0 0),(42,.int .i64 (s1.f.Slots.length : Int)),(43,.int .i64 s)]) (O:=fun _ g=>[(1,some (g.1,⟨false,true,9,78,[.agg [.sl (s1.p.Funcs.map PI),.int .i64 s1.i,.int .i64 s1.align,.int .i64 s1.f.Params,.sl (s1.f.Slots.map Pn),.sl (s1.f.Code.map Pm),.int .i64 s1.y.Args,.int .i64 s1.y.Size,.sl (s1.y.Off.map OZ)]]⟩)),(3,some (g.2,⟨false,true,3,32,[.agg [.int .i64 r2.1.Args,.int .i64 r2.1.Size,.sl (r2.1.Off.map OZ)]]⟩))]) (body:=fun s=>SJ s1 r2 s) (s:=0) (_,_) ((hE ⟨rfl,r,r,r,trivial⟩ ⟨rfl,r,trivial⟩))<|?_
   rintro x4 ⟨v1x2,v3x2⟩ nn
   try dsimp only
   unfold SJ
   exact B

def UH (a : Ph × Int × Int × Pc) : List D:=[Rv a.1,.int .i64 a.2.1,.int .i64 a.2.2.1,PR a.2.2.2]
def UG (ds : List D) : Ph × Int × Int × Pc:=(VQ (ds.getD 0 .top),uI (ds.getD 1 .top),uI (ds.getD 2 .top),AbZ (ds.getD 3 .top))
theorem AiL (a : Ph × Int × Int × Pc) : UG (UH a) = a:=by simp [UG,UH,uI]
instance : Px UH UG:=⟨AiL⟩
def AjC (b : Int) : D:=.int .i64 b
noncomputable def AbN : Dw.Spec:=Pf [] .ground UH UG (fun a=>Sf a.1 a.2.1 a.2.2.1 a.2.2.2) AjC noE
theorem AdL : Pd Tryz.prog 20 AbN:=by
 refine fn2 4 (Pk (l:=[(42,VJ)]) (by simp [ZD])) Tryz.func20<|?_
 intro a
 unfold Sf
 exact B

def Abc (_a : Unit) : List D:=[]
def Abb (_ds : List D) : Unit:=()
theorem Ajx (a : Unit) : Abb (Abc a) = a:=rfl
instance : Px Abc Abb:=⟨Ajx⟩
def AkC (b : Bool) : D:=.bool b
noncomputable def Afz : Dw.Spec:=Pf [] .ground Abc Abb (fun _a=>ZJ) AkC noE
theorem Ajy : Pd Tryz.prog 8 Afz:=by
 refine fn2 0 (Pk (l:=[(20,AbN)]) (by simp [AdL])) Tryz.func8<|?_
 intro _
 unfold ZJ
 refine A 8 ?_
 refine bS ([(Pa.mk 23 0 0 0 0)] : List Pa) Pm r r r (by simp) r r r<|?_
 refine A 1 ?_
 refine bS ([(OX.mk 0 ([]) ([(Pa.mk 23 0 0 0 0)] : List Pa))] : List OX) PI r r r (by simp) r (by simp [Xr,PI]) r<|?_
 exact B

def AaT (a : (List Int) × Int) : List D:=[.sl (a.1.map eU8),.int .i64 a.2]
def AaS (ds : List D) : (List Int) × Int:=((uL uI) (ds.getD 0 .top),uI (ds.getD 1 .top))
theorem AmQ (a : (List Int) × Int) : AaS (AaT a) = a:=by simp [AaS,AaT,uI,PV (u:=uI) (en:=eU8) (fun _=>rfl)]
instance : Px AaT AaS:=⟨AmQ⟩
def AnI (b : Mk) : D:=Pz b
noncomputable def AiA : Dw.Spec:=Pf [] (.ptr 2 99) AaT AaS (fun a=>Adf a.1 a.2) AnI noE
theorem AmR : Pd Tryz.prog 26 AiA:=by
 refine fn2 2 (Pv) Tryz.func26<|?_
 intro a
 unfold Adf
 exact B

def QQ (a : Mk) : List D:=[Pz a]
def QP (ds : List D) : Mk:=Sc (ds.getD 0 .top)
theorem Agc (a : Mk) : QP (QQ a) = a:=by simp [QP,QQ]
instance : Px QQ QP:=⟨Agc⟩
def Ahb (b : Bool × Mk) : D:=.bool b.1
def Aha (b : Bool × Mk) : List D:=[Pz b.2]
noncomputable def AcC : Dw.Spec:=Pf [(0,(2,99))] .val QQ QP (fun a=>XA a) Ahb Aha
theorem Agd : Pd Tryz.prog 52 AcC:=by
 refine fn2 1 (Pv) Tryz.func52<|?_
 intro a
 unfold XA
 exact B

def SP (a : Mk × Int) : List D:=[Pz a.1,.int .i64 a.2]
def SO (ds : List D) : Mk × Int:=(Sc (ds.getD 0 .top),uI (ds.getD 1 .top))
theorem Agg (a : Mk × Int) : SO (SP a) = a:=by simp [SO,SP,uI]
instance : Px SP SO:=⟨Agg⟩
def Ahe (b : Int × Mk) : D:=.int .i64 b.1
def Ahd (b : Int × Mk) : List D:=[Pz b.2]
noncomputable def PO : Dw.Spec:=Pf [(0,(2,99))] .val SP SO (fun a=>Pe a.1 a.2) Ahe Ahd
theorem PQ : Pd Tryz.prog 28 PO:=by
 refine fn2 2 (Pk (l:=[(52,AcC)]) (by simp [Agd])) Tryz.func28<|?_
 rintro ⟨c1,n2⟩
 unfold Pe
 refine A 5 ?_
 refine sC (E:=fun (_s : (List Int) × Int) (_g : Unit)=>[(0,.optr 8192 0 0 0),(1,.int .i64 n2)]) (O:=fun s _=>[(8192,some (0,⟨false,true,2,99,[.agg [.sl (s.1.map eU8),.int .i64 s.2]]⟩))]) (j:=fun s=>Vp n2 s.1 s.2) ?_ ?_
 ·exact B
 ·rintro ⟨c3,c4⟩ ⟨⟩ nn
  try dsimp only
  unfold Vp
  refine A 10 ?_
  refine bD fun x_x6 hx_x6=>?_
  refine A 15 ?_
  refine Xl (i:=0) (es':=[.agg [.sl (c3.map eU8),.int .i64 (IntKind.i64.wrap (c4 + 1))]]) r r r r r r r (by first | trivial | (simp; done) | (simp; omega)) r r r r r r<|?_
  exact B

def Ahi (b : Po × Mk) : D:=Pn b.1
def Ahf (b : Po × Mk) : List D:=[Pz b.2]
noncomputable def AcE : Dw.Spec:=Pf [(0,(2,99))] .val QQ QP (fun a=>Vq a) Ahi Ahf
theorem Agh : Pd Tryz.prog 94 AcE:=by
 refine fn2 1 (Pk (l:=[(28,PO)]) (by simp [PQ])) Tryz.func94<|?_
 intro c1
 unfold Vq
 refine A 7 ?_
 refine bS ([8,4,8,1,2,16,8] : List Int) OZ r r r (by simp) r r r<|?_
 refine A 1 ?_
 refine bD fun r2 hr2=>?_
 refine A 2 ?_
 refine bD fun x_e3 hx_e3=>?_
 refine A 1 ?_
 refine bS ([8,4,1,8,16,2,32,64] : List Int) OZ r r r (by simp) r r r<|?_
 exact B

def Agj (b : (List Po) × Mk) : D:=.sl (b.1.map Pn)
def Agi (b : (List Po) × Mk) : List D:=[Pz b.2]
noncomputable def Ace : Dw.Spec:=Pf [(0,(2,99))] (.row 2 54) SP SO (fun a=>UC a.1 a.2) Agj Agi
theorem AfZ : Pd Tryz.prog 74 Ace:=by
 refine fn2 2 (Pk (l:=[(28,PO),(94,AcE)]) (by simp [PQ,Agh])) Tryz.func74<|?_
 rintro ⟨c1,most2⟩
 unfold UC
 refine A 16 ?_
 refine bD fun r3 hr3=>?_
 refine A 5 ?_
 refine lP (E:=fun (s : (List Int) × Int × (List Po) × Int) (g : Nat)=>[(0,.optr 8192 0 0 0),(5,.osl 5 g 0 s.2.2.1.length),(6,.int .i64 s.2.2.2)]) (O:=fun s g=>[(5,some (g,⟨false,false,2,54,s.2.2.1.map Pn⟩)),(8192,some (0,⟨false,true,2,99,[.agg [.sl (s.1.map eU8),.int .i64 s.2.1]]⟩))]) (body:=fun s=>UO s.1 s.2.1 s.2.2.1 s.2.2.2) (s:=(r3.2.list,r3.2.at_,([] : List Po),r3.1)) _ ((hE ⟨rfl,r,r,trivial⟩ ⟨rfl,r,trivial⟩))<|?_
 rintro ⟨c4,c5,l6,n7⟩ v5x1 nn
 try dsimp only
 unfold UO
 refine A 7 ?_
 refine cD r ?_ ?_
 ·refine A 7 ?_
  refine bD fun r8 hr8=>?_
  refine A 1 ?_
  refine bS ([r8.1] : List Po) Pn r r r (by simp) r r r<|?_
  exact B
 ·exact B

def UT (a : Mk × OX × Int) : List D:=[Pz a.1,PI a.2.1,.int .i64 a.2.2]
def US (ds : List D) : Mk × OX × Int:=(Sc (ds.getD 0 .top),Ss (ds.getD 1 .top),uI (ds.getD 2 .top))
theorem Agm (a : Mk × OX × Int) : US (UT a) = a:=by simp [US,UT,uI]
instance : Px UT US:=⟨Agm⟩
def Aho (b : Int × Mk) : D:=.int .i64 b.1
def Ahn (b : Int × Mk) : List D:=[Pz b.2]
noncomputable def AcG : Dw.Spec:=Pf [(0,(2,99))] .val UT US (fun a=>Vt a.1 a.2.1 a.2.2) Aho Ahn
theorem Agn : Pd Tryz.prog 95 AcG:=by
 refine fn2 3 (Pk (l:=[(28,PO)]) (by simp [PQ])) Tryz.func95<|?_
 rintro ⟨c1,f2,s3⟩
 unfold Vt
 refine A 18 ?_
 refine lP (E:=fun (s : (List Int) × Int) (g : Nat × Nat)=>[(0,.optr 8192 0 0 0),(2,.int .i64 s3),(4,.optr 4 g.1 0 0),(7,.osl 7 g.2 0 s.1.length),(8,.int .i64 s.2)]) (O:=fun s g=>[(4,some (g.1,⟨false,true,3,40,[.agg [.int .i64 f2.Params,.sl (f2.Slots.map Pn),.sl (f2.Code.map Pm)]]⟩)),(7,some (g.2,⟨false,false,1,3,s.1.map OZ⟩)),(8192,some (0,⟨false,true,2,99,[.agg [.sl (c1.list.map eU8),.int .i64 c1.at_]]⟩))]) (body:=fun s=>Vu f2 s3 c1 s.1 s.2) (s:=(([] : List Int),0)) (_,_) ((hE ⟨rfl,r,r,r,r,trivial⟩ ⟨rfl,r,r,trivial⟩))<|?_
 rintro ⟨l4,k5⟩ ⟨v4x1,v7x1⟩ nn
 try dsimp only
 unfold Vu
 exact B

def Ahk (b : Int × Mk) : D:=.int .u64 b.1
def Ahj (b : Int × Mk) : List D:=[Pz b.2]
noncomputable def ZF : Dw.Spec:=Pf [(0,(2,99))] .val QQ QP (fun a=>Tz a) Ahk Ahj
theorem Acf : Pd Tryz.prog 76 ZF:=by
 refine fn2 1 (Pk (l:=[(28,PO)]) (by simp [PQ])) Tryz.func76<|?_
 intro a
 unfold Tz
 exact B

def UQ (a : Mk × OX × Int × (List Int)) : List D:=[Pz a.1,PI a.2.1,.int .i64 a.2.2.1,.sl (a.2.2.2.map OZ)]
def UP (ds : List D) : Mk × OX × Int × (List Int):=(Sc (ds.getD 0 .top),Ss (ds.getD 1 .top),uI (ds.getD 2 .top),(uL uI) (ds.getD 3 .top))
theorem Agk (a : Mk × OX × Int × (List Int)) : UP (UQ a) = a:=by simp [UP,UQ,uI,PV (u:=uI) (en:=OZ) (fun _=>rfl)]
instance : Px UQ UP:=⟨Agk⟩
def Ahm (b : (List Pa) × Mk) : D:=.sl (b.1.map Pm)
def Ahl (b : (List Pa) × Mk) : List D:=[Pz b.2]
noncomputable def AcF : Dw.Spec:=Pf [(0,(2,99))] (.row 5 50) UQ UP (fun a=>Vr a.1 a.2.1 a.2.2.1 a.2.2.2) Ahm Ahl
theorem Agl : Pd Tryz.prog 75 AcF:=by
 refine fn2 4 (Pk (l:=[(28,PO),(95,AcG),(76,ZF)]) (by simp [PQ,Agn,Acf])) Tryz.func75<|?_
 rintro ⟨c1,f2,i3,params4⟩
 unfold Vr
 refine A 9 ?_
 refine bD fun r5 hr5=>?_
 refine A 15 ?_
 refine bD fun r6 hr6=>?_
 refine A 4 ?_
 refine bC (E:=fun (_s : Unit) (_g : Unit)=>[(9,.int .i64 r5.1)]) (O:=fun _ _=>[(8192,some (0,⟨false,true,2,99,[.agg [.sl (r6.2.list.map eU8),.int .i64 r6.2.at_]]⟩))]) (j:=fun _=>Yh r5 r6) ?_ ?_
 ·refine sC (E:=fun (s : Bool) (g : Nat)=>[(0,.optr 8192 0 0 0),(2,.int .i64 i3),(3,.sl (params4.map OZ)),(5,.optr 5 g 0 0),(9,.int .i64 r5.1),(10,.int .i64 (f2.Slots.length : Int)),(11,.int .i64 r6.1),(23,.bool s)]) (O:=fun _ g=>[(5,some (g,⟨false,true,3,40,[.agg [.int .i64 f2.Params,.sl (f2.Slots.map Pn),.sl (f2.Code.map Pm)]]⟩)),(8192,some (0,⟨false,true,2,99,[.agg [.sl (r6.2.list.map eU8),.int .i64 r6.2.at_]]⟩))]) (j:=fun s=>RM r6 f2 r5 params4 i3 s) ?_ ?_
  ·exact B
  ·rintro x7 v5x1 nn
   try dsimp only
   unfold RM
   refine cD r ?_ ?_
   ·refine A 4 ?_
    refine bD fun r8 hr8=>?_
    refine A 3 ?_
    refine bS ([(Pa.mk 16 r8.1 r5.1 0 0)] : List Pa) Pm r r r (by simp) r r r<|?_
    exact B
   ·refine sC (E:=fun (s : Bool) (g : Nat)=>[(0,.optr 8192 0 0 0),(2,.int .i64 i3),(3,.sl (params4.map OZ)),(5,.optr 5 g 0 0),(9,.int .i64 r5.1),(10,.int .i64 (f2.Slots.length : Int)),(11,.int .i64 r6.1),(36,.bool s)]) (O:=fun _ g=>[(5,some (g,⟨false,true,3,40,[.agg [.int .i64 f2.Params,.sl (f2.Slots.map Pn),.sl (f2.Code.map Pm)]]⟩)),(8192,some (0,⟨false,true,2,99,[.agg [.sl (r6.2.list.map eU8),.int .i64 r6.2.at_]]⟩))]) (j:=fun s=>RN r6 f2 r5 params4 i3 s) ?_ ?_
    ·exact B
    ·rintro x9 v5x2 nn
     try dsimp only
     unfold RN
     refine cD r ?_ ?_
     ·refine A 5 ?_
      refine bD fun r10 hr10=>?_
      refine A 2 ?_
      refine bS ([(Pa.mk 15 r5.1 r10.1 0 0)] : List Pa) Pm r r r (by simp) r r r<|?_
      exact B
     ·refine sC (E:=fun (s : Bool) (g : Nat)=>[(0,.optr 8192 0 0 0),(2,.int .i64 i3),(3,.sl (params4.map OZ)),(5,.optr 5 g 0 0),(9,.int .i64 r5.1),(10,.int .i64 (f2.Slots.length : Int)),(11,.int .i64 r6.1),(49,.bool s)]) (O:=fun _ g=>[(5,some (g,⟨false,true,3,40,[.agg [.int .i64 f2.Params,.sl (f2.Slots.map Pn),.sl (f2.Code.map Pm)]]⟩)),(8192,some (0,⟨false,true,2,99,[.agg [.sl (r6.2.list.map eU8),.int .i64 r6.2.at_]]⟩))]) (j:=fun s=>RO r6 f2 r5 params4 i3 s) ?_ ?_
      ·exact B
      ·rintro x11 v5x3 nn
       try dsimp only
       unfold RO
       refine cD r ?_ ?_
       ·refine A 4 ?_
        refine bD fun r12 hr12=>?_
        refine A 9 ?_
        refine bD fun r13 hr13=>?_
        refine A 3 ?_
        refine bS ([(Pa.mk 17 r13.1 r12.1 0 0)] : List Pa) Pm r r r (by simp) r r r<|?_
        exact B
       ·refine A 7 ?_
        refine cD r ?_ ?_
        ·refine A 4 ?_
         refine bD fun r14 hr14=>?_
         refine A 2 ?_
         refine bS ([(Pa.mk 0 r5.1 0 0 r14.1)] : List Pa) Pm r r r (by simp) r r r<|?_
         exact B
        ·refine A 7 ?_
         refine cD r ?_ ?_
         ·refine A 3 ?_
          refine bD fun r15 hr15=>?_
          refine A 4 ?_
          refine bD fun r16 hr16=>?_
          refine A 2 ?_
          refine bD fun r17 hr17=>?_
          refine A 2 ?_
          refine bS ([(Pa.mk (IntKind.i64.wrap (2 + r15.1)) r5.1 r16.1 r17.1 0)] : List Pa) Pm r r r (by simp) r r r<|?_
          exact B
         ·refine A 7 ?_
          refine cD r ?_ ?_
          ·refine A 4 ?_
           refine bS ([(Pa.mk 14 r5.1 0 0 0)] : List Pa) Pm r r r (by simp) r r r<|?_
           exact B
          ·refine A 7 ?_
           refine cD r ?_ ?_
           ·refine A 2 ?_
            refine bS ([13,12,1] : List Int) OZ r r r (by simp) r r r<|?_
            refine A 1 ?_
            refine bD fun r18 hr18=>?_
            refine A 2 ?_
            refine bD fun x_e19 hx_e19=>?_
            refine A 3 ?_
            refine bS ([(Pa.mk x_e19 r5.1 0 0 0)] : List Pa) Pm r r r (by simp) r r r<|?_
            exact B
           ·refine sC (E:=fun (s : Bool) (g : Nat)=>[(0,.optr 8192 0 0 0),(2,.int .i64 i3),(3,.sl (params4.map OZ)),(5,.optr 5 g 0 0),(9,.int .i64 r5.1),(11,.int .i64 r6.1),(104,.bool s)]) (O:=fun _ g=>[(5,some (g,⟨false,true,3,40,[.agg [.int .i64 f2.Params,.sl (f2.Slots.map Pn),.sl (f2.Code.map Pm)]]⟩)),(8192,some (0,⟨false,true,2,99,[.agg [.sl (r6.2.list.map eU8),.int .i64 r6.2.at_]]⟩))]) (j:=fun s=>RP r6 f2 r5 params4 i3 s) ?_ ?_
            ·exact B
            ·rintro x20 v5x4 nn
             try dsimp only
             unfold RP
             refine cD r ?_ ?_
             ·refine A 6 ?_
              refine bD fun r21 hr21=>?_
              refine A 2 ?_
              refine bS ([(Pa.mk 19 r5.1 r21.1 0 0)] : List Pa) Pm r r r (by simp) r r r<|?_
              exact B
             ·refine sC (E:=fun (s : Bool) (_g : Unit)=>[(0,.optr 8192 0 0 0),(2,.int .i64 i3),(3,.sl (params4.map OZ)),(9,.int .i64 r5.1),(119,.bool s)]) (O:=fun _ _=>[(8192,some (0,⟨false,true,2,99,[.agg [.sl (r6.2.list.map eU8),.int .i64 r6.2.at_]]⟩))]) (j:=fun s=>RQ r6 params4 i3 r5 s) ?_ ?_
              ·exact B
              ·rintro x22 ⟨⟩ nn
               try dsimp only
               unfold RQ
               refine cD r ?_ ?_
               ·refine A 10 ?_
                refine bD fun r23 hr23=>?_
                refine A 17 ?_
                refine lP (E:=fun (s : (List Int) × Int × (List Pa) × Int) (g : Nat)=>[(0,.optr 8192 0 0 0),(3,.sl (params4.map OZ)),(13,.int .i64 (IntKind.i64.wrap ((IntKind.i64.wrap (i3 + 1)) + r23.1))),(14,.osl 14 g 0 s.2.2.1.length),(15,.int .i64 s.2.2.2)]) (O:=fun s g=>[(14,some (g,⟨false,false,5,50,s.2.2.1.map Pm⟩)),(8192,some (0,⟨false,true,2,99,[.agg [.sl (s.1.map eU8),.int .i64 s.2.1]]⟩))]) (body:=fun s=>Vs params4 i3 r23 s.1 s.2.1 s.2.2.1 s.2.2.2) (s:=(r23.2.list,r23.2.at_,([] : List Pa),0)) _ ((hE ⟨rfl,r,r,r,r,trivial⟩ ⟨rfl,r,trivial⟩))<|?_
                rintro ⟨c24,c25,out26,a27⟩ v14x6 nn
                try dsimp only
                unfold Vs
                refine A 6 ?_
                refine bD fun x_x28 hx_x28=>?_
                refine A 5 ?_
                refine cD r ?_ ?_
                ·refine A 7 ?_
                 refine bD fun r29 hr29=>?_
                 refine A 4 ?_
                 refine cD r ?_ ?_
                 ·refine A 4 ?_
                  refine bD fun r30 hr30=>?_
                  refine A 2 ?_
                  refine bS ([(Pa.mk 18 a27 r30.1 0 0)] : List Pa) Pm r r r (by simp) r r r<|?_
                  exact B
                 ·exact B
                ·refine A 10 ?_
                 refine bS ([(Pa.mk 22 (IntKind.i64.wrap ((IntKind.i64.wrap (i3 + 1)) + r23.1)) 0 0 0)] : List Pa) Pm r r r (by simp) r r r<|?_
                 exact B
               ·exact B
 ·rintro ⟨⟩ ⟨⟩ nn
  try dsimp only
  unfold Yh
  refine A 4 ?_
  refine bS ([(Pa.mk 14 r5.1 0 0 0)] : List Pa) Pm r r r (by simp) r r r<|?_
  exact B

def SG (a : Mk × Int × (List Int) × Int) : List D:=[Pz a.1,.int .i64 a.2.1,.sl (a.2.2.1.map OZ),.int .i64 a.2.2.2]
def SF (ds : List D) : Mk × Int × (List Int) × Int:=(Sc (ds.getD 0 .top),uI (ds.getD 1 .top),(uL uI) (ds.getD 2 .top),uI (ds.getD 3 .top))
theorem Aee (a : Mk × Int × (List Int) × Int) : SF (SG a) = a:=by simp [SF,SG,uI,PV (u:=uI) (en:=OZ) (fun _=>rfl)]
instance : Px SG SF:=⟨Aee⟩
def AaC (b : OX × Mk) : D:=PI b.1
def AeH (b : OX × Mk) : List D:=[Pz b.2]
noncomputable def AaD : Dw.Spec:=Pf [(0,(2,99))] .val SG SF (fun a=>SQ a.1 a.2.1 a.2.2.1 a.2.2.2) AaC AeH
theorem Aef : Pd Tryz.prog 51 AaD:=by
 refine fn2 4 (Pk (l:=[(74,Ace),(28,PO),(75,AcF),(76,ZF)]) (by simp [AfZ,PQ,Agl,Acf])) Tryz.func51<|?_
 rintro ⟨c1,i2,params3,most4⟩
 unfold SQ
 refine A 9 ?_
 refine bD fun x_x5 hx_x5=>?_
 refine A 3 ?_
 refine bD fun r6 hr6=>?_
 refine A 18 ?_
 refine lP (E:=fun (s : (List Int) × Int × (List Pa) × Int) (g : Nat × Nat × Nat × Nat)=>[(0,.optr 8192 0 0 0),(1,.int .i64 i2),(2,.sl (params3.map OZ)),(3,.int .i64 most4),(8,.optr 8 g.1 0 0),(9,.optr 9 g.2.1 0 0),(10,.osl 10 g.2.2.1 0 s.2.2.1.length),(11,.int .i64 s.2.2.2)]) (O:=fun s g=>[(8,some (g.1,⟨false,true,3,40,[.agg [.int .i64 0,.nils,.nils]]⟩)),(9,some (g.2.1,⟨false,true,3,40,[.agg [.int .i64 x_x5,.osl 21 g.2.2.2 0 r6.1.length,.nils]]⟩)),(10,some (g.2.2.1,⟨false,false,5,50,s.2.2.1.map Pm⟩)),(21,some (g.2.2.2,⟨false,false,2,54,r6.1.map Pn⟩)),(8192,some (0,⟨false,true,2,99,[.agg [.sl (s.1.map eU8),.int .i64 s.2.1]]⟩))]) (body:=fun s=>Ti r6 most4 x_x5 i2 params3 s.1 s.2.1 s.2.2.1 s.2.2.2) (s:=(r6.2.list,r6.2.at_,([] : List Pa),0)) (_,_,_,_) ((hE ⟨rfl,r,r,r,r,r,r,r,trivial⟩ ⟨rfl,r,r,r,r,trivial⟩))<|?_
 rintro ⟨c7,c8,code9,s10⟩ ⟨v8x1,v9x1,v10x1,v21x1⟩ nn
 try dsimp only
 unfold Ti
 refine A 10 ?_
 refine cD r ?_ ?_
 ·refine A 7 ?_
  refine bD fun r11 hr11=>?_
  refine A 4 ?_
  refine cD r ?_ ?_
  ·refine A 4 ?_
   refine bD fun r12 hr12=>?_
   refine A 2 ?_
   refine bS ([(Pa.mk 16 s10 r12.1 0 0)] : List Pa) Pm r r r (by simp) r r r<|?_
   exact B
  ·exact B
 ·refine A 11 ?_
  refine bD fun r13 hr13=>?_
  refine A 5 ?_
  refine lP (E:=fun (s : (List Int) × Int × (List Pa) × (List Po) × Int) (g : Nat × Nat × Nat)=>[(0,.optr 8192 0 0 0),(1,.int .i64 i2),(2,.sl (params3.map OZ)),(8,.optr 8 g.1 0 0),(9,.optr 9 g.2.1 0 0),(10,.osl 10 g.2.2 0 s.2.2.1.length),(12,.int .i64 s.2.2.2.2)]) (O:=fun s g=>[(8,some (g.1,⟨false,true,3,40,[.agg [.int .i64 0,.nils,.nils]]⟩)),(9,some (g.2.1,⟨false,true,3,40,[.agg [.int .i64 x_x5,.sl (s.2.2.2.1.map Pn),.nils]]⟩)),(10,some (g.2.2,⟨false,false,5,50,s.2.2.1.map Pm⟩)),(8192,some (0,⟨false,true,2,99,[.agg [.sl (s.1.map eU8),.int .i64 s.2.1]]⟩))]) (body:=fun s=>Tj x_x5 i2 params3 s.1 s.2.1 s.2.2.1 s.2.2.2.1 s.2.2.2.2) (s:=(r13.2.list,r13.2.at_,code9,r6.1,r13.1)) (_,_,_) ((Abq [(21,some (_,⟨true,false,2,54,r6.1.map Pn⟩))] ⟨⟨_,_,r,r,r⟩,trivial⟩ ⟨(PF r),(PF r),(PF r),(PF r),(PF r),(PF r),(PF r),trivial⟩ ⟨(.inl r),(.inr ⟨_,_,_,_,r,r,r,r,ZT r ⟨(UY r),(XT (l:=r6.1) (en:=Pn) r r r (by simp)),(UY r),trivial⟩⟩),(.inl r),(.inl r),trivial⟩))<|?_
  rintro ⟨c14,c15,code16,f17,n18⟩ ⟨v8x2,v9x2,v10x2⟩ nn
  try dsimp only
  unfold Tj
  refine A 7 ?_
  refine cD r ?_ ?_
  ·refine A 11 ?_
   refine bD fun r19 hr19=>?_
   refine A 8 ?_
   refine bD fun r20 hr20=>?_
   refine A 10 ?_
   refine cD r ?_ ?_
   ·refine A 3 ?_
    refine bD fun r21 hr21=>?_
    refine A 2 ?_
    refine bS ([(Pa.mk 21 r21.1 (-1) 0 0)] : List Pa) Pm r r r (by simp) r r r<|?_
    exact B
   ·refine A 6 ?_
    refine cD r ?_ ?_
    ·refine A 3 ?_
     refine bD fun r22 hr22=>?_
     refine A 4 ?_
     refine cD r ?_ ?_
     ·refine A 3 ?_
      refine bS ([(Pa.mk 20 (-1) 0 0 0)] : List Pa) Pm r r r (by simp) r r r<|?_
      exact B
     ·exact B
    ·exact B
  ·refine A 12 ?_
   refine sC (E:=fun (_s : (List Int) × Int × Int × Int) (g : Nat × Nat × Nat × Nat)=>[(0,.optr 8192 0 0 0),(8,.optr 8 g.1 0 0),(9,.optr 9 g.2.1 0 0),(10,.osl 10 g.2.2.1 0 code16.length),(13,.optr 13 g.2.2.2 0 0)]) (O:=fun s g=>[(8,some (g.1,⟨false,true,3,40,[.agg [.int .i64 0,.nils,.nils]]⟩)),(9,some (g.2.1,⟨false,true,3,40,[.agg [.int .i64 x_x5,.sl (f17.map Pn),.nils]]⟩)),(10,some (g.2.2.1,⟨false,false,5,50,code16.map Pm⟩)),(13,some (g.2.2.2,⟨false,true,5,50,[.agg [.int .i64 s.2.2.1,.int .i64 0,.int .i64 0,.int .i64 0,.int .u64 s.2.2.2]]⟩)),(8192,some (0,⟨false,true,2,99,[.agg [.sl (s.1.map eU8),.int .i64 s.2.1]]⟩))]) (j:=fun s=>QL code16 x_x5 f17 s.1 s.2.1 s.2.2.1 s.2.2.2) ?_ ?_
   ·exact B
   ·rintro ⟨c23,c24,end25,end26⟩ ⟨v8x3,v9x3,v10x3,v13x3⟩ nn
    try dsimp only
    unfold QL
    refine A 4 ?_
    refine bS ([(Pa.mk end25 0 0 0 end26)] : List Pa) Pm r r r (by simp) r r r<|cK fun hq=>aP (code16) (([(Pa.mk end25 0 0 0 end26)] : List Pa)) Pm r r r r r r r (by simp) (TH _ _ r) r r (by simp) (Sz _ _ r) (fun _=>r) r hq<|?_
    refine A 10 ?_
    refine lP (E:=fun (s : (List Int) × Int × (List Pa) × Int) (g : Nat × Nat × Nat)=>[(0,.optr 8192 0 0 0),(8,.optr 8 g.1 0 0),(9,.optr 9 g.2.1 0 0),(10,.osl 10 g.2.2 0 s.2.2.1.length),(14,.int .i64 s.2.2.2)]) (O:=fun s g=>[(8,some (g.1,⟨false,true,3,40,[.agg [.int .i64 0,.nils,.nils]]⟩)),(9,some (g.2.1,⟨false,true,3,40,[.agg [.int .i64 x_x5,.sl (f17.map Pn),.nils]]⟩)),(10,some (g.2.2,⟨false,false,5,50,s.2.2.1.map Pm⟩)),(8192,some (0,⟨false,true,2,99,[.agg [.sl (s.1.map eU8),.int .i64 s.2.1]]⟩))]) (body:=fun s=>RB x_x5 f17 s.1 s.2.1 s.2.2.1 s.2.2.2) (s:=(c23,c24,code16 ++ ([(Pa.mk end25 0 0 0 end26)] : List Pa),0)) (_,_,_) ((hE ⟨rfl,r,r,r,r,trivial⟩ ⟨rfl,r,r,r,trivial⟩))<|?_
    rintro ⟨c29,c30,code31,k32⟩ ⟨v8x4,v9x4,v10x4⟩ nn
    try dsimp only
    unfold RB
    refine A 9 ?_
    refine cD r ?_ ?_
    ·refine A 8 ?_
     refine bD fun r33 hr33=>?_
     refine A 6 ?_
     refine sC (E:=fun (s : Int) (g : Nat × Nat × Nat)=>[(0,.optr 8192 0 0 0),(8,.optr 8 g.1 0 0),(9,.optr 9 g.2.1 0 0),(10,.osl 10 g.2.2 0 code31.length),(14,.int .i64 k32),(15,.int .i64 s)]) (O:=fun _ g=>[(8,some (g.1,⟨false,true,3,40,[.agg [.int .i64 0,.nils,.nils]]⟩)),(9,some (g.2.1,⟨false,true,3,40,[.agg [.int .i64 x_x5,.sl (f17.map Pn),.nils]]⟩)),(10,some (g.2.2,⟨false,false,5,50,code31.map Pm⟩)),(8192,some (0,⟨false,true,2,99,[.agg [.sl (r33.2.list.map eU8),.int .i64 r33.2.at_]]⟩))]) (j:=fun s=>Qc k32 code31 r33 s) ?_ ?_
     ·exact B
     ·rintro to34 ⟨v8x5,v9x5,v10x5⟩ nn
      try dsimp only
      unfold Qc
      refine A 1 ?_
      refine sC (E:=fun (s : Bool) (g : Nat × Nat × Nat)=>[(0,.optr 8192 0 0 0),(8,.optr 8 g.1 0 0),(9,.optr 9 g.2.1 0 0),(10,.osl 10 g.2.2 0 code31.length),(14,.int .i64 k32),(15,.int .i64 to34),(107,.bool s)]) (O:=fun _ g=>[(8,some (g.1,⟨false,true,3,40,[.agg [.int .i64 0,.nils,.nils]]⟩)),(9,some (g.2.1,⟨false,true,3,40,[.agg [.int .i64 x_x5,.sl (f17.map Pn),.nils]]⟩)),(10,some (g.2.2,⟨false,false,5,50,code31.map Pm⟩)),(8192,some (0,⟨false,true,2,99,[.agg [.sl (r33.2.list.map eU8),.int .i64 r33.2.at_]]⟩))]) (j:=fun s=>RC k32 code31 r33 to34 s) ?_ ?_
      ·exact B
      ·rintro x35 ⟨v8x6,v9x6,v10x6⟩ nn
       try dsimp only
       unfold RC
       refine cD r ?_ ?_
       ·refine A 6 ?_
        refine bD fun code_o38 hcode_o38=>sE (l:=code31) (en:=Pm) (q':=(Pa.mk code_o38.Op to34 code_o38.B code_o38.C code_o38.Imm)) r r r r r r r (by simp) hcode_o38 r r r r r<|?_
        exact B
       ·refine A 6 ?_
        refine bD fun code_e39 hcode_e39=>?_
        refine A 3 ?_
        refine Abk r ?_ ?_
        ·refine A 4 ?_
         refine bD fun code_e40 hcode_e40=>?_
         refine A 6 ?_
         refine cD r ?_ ?_
         ·refine A 6 ?_
          refine bD fun code_o41 hcode_o41=>sE (l:=code31) (en:=Pm) (q':=(Pa.mk code_o41.Op code_o41.A to34 code_o41.C code_o41.Imm)) r r r r r r r (by simp) hcode_o41 r r r r r<|?_
          exact B
         ·exact B
        ·exact B
    ·refine A 19 ?_
     refine UR (b:=((OX.mk x_x5 f17 code31),(Mk.mk c29 c30))) r ?_ r r ?_ (by first | rfl | (simp only [OV]; rfl) | (simp only [OW]; rfl) | (simp only [OV,OW]; rfl) | simp [AaC,PI])
     all_goals first|(simp;done)|(simp;omega)|rfl|(simp [PG,PE];done)

def Th (a : Mk × Int × Int) : List D:=[Pz a.1,.int .i64 a.2.1,.int .i64 a.2.2]
def Tg (ds : List D) : Mk × Int × Int:=(Sc (ds.getD 0 .top),uI (ds.getD 1 .top),uI (ds.getD 2 .top))
theorem AeD (a : Mk × Int × Int) : Tg (Th a) = a:=by simp [Tg,Th,uI]
instance : Px Th Tg:=⟨AeD⟩
def Afn (b : Ph × Mk) : D:=Rv b.1
def Afm (b : Ph × Mk) : List D:=[Pz b.2]
noncomputable def AaR : Dw.Spec:=Pf [(0,(2,99))] .val Th Tg (fun a=>Tp a.1 a.2.1 a.2.2) Afn Afm
theorem AeE : Pd Tryz.prog 27 AaR:=by
 refine fn2 3 (Pk (l:=[(28,PO),(51,AaD)]) (by simp [PQ,Aef])) Tryz.func27<|?_
 rintro ⟨c1,funcs2,most3⟩
 unfold Tp
 refine A 16 ?_
 refine bD fun r4 hr4=>?_
 refine A 5 ?_
 refine lP (E:=fun (s : (List Int) × Int × (List Int) × Int) (g : Nat × Nat)=>[(0,.optr 8192 0 0 0),(2,.int .i64 most3),(6,.optr 6 g.1 0 0),(7,.osl 7 g.2 0 s.2.2.1.length),(8,.int .i64 s.2.2.2)]) (O:=fun s g=>[(6,some (g.1,⟨false,true,1,26,[.agg [.nils]]⟩)),(7,some (g.2,⟨false,false,1,3,s.2.2.1.map OZ⟩)),(8192,some (0,⟨false,true,2,99,[.agg [.sl (s.1.map eU8),.int .i64 s.2.1]]⟩))]) (body:=fun s=>Tx most3 s.1 s.2.1 s.2.2.1 s.2.2.2) (s:=(r4.2.list,r4.2.at_,([0] : List Int),r4.1)) (_,_) ((hE ⟨rfl,r,r,r,r,trivial⟩ ⟨rfl,r,r,trivial⟩))<|?_
 rintro ⟨c5,c6,params7,n8⟩ ⟨v6x1,v7x1⟩ nn
 try dsimp only
 unfold Tx
 refine A 7 ?_
 refine cD r ?_ ?_
 ·exact B
 ·refine A 17 ?_
  refine lP (E:=fun (s : (List Int) × Int × (List OX) × Int × (List Int)) (g : Nat × Nat)=>[(0,.optr 8192 0 0 0),(2,.int .i64 most3),(6,.optr 6 g.1 0 0),(7,.sl (s.2.2.2.2.map OZ)),(9,.optr 9 g.2 0 0),(10,.int .i64 s.2.2.2.1)]) (O:=fun s g=>[(6,some (g.1,⟨false,true,1,26,[.agg [.nils]]⟩)),(9,some (g.2,⟨false,true,1,26,[.agg [.sl (s.2.2.1.map PI)]]⟩)),(8192,some (0,⟨false,true,2,99,[.agg [.sl (s.1.map eU8),.int .i64 s.2.1]]⟩))]) (body:=fun s=>Ty most3 s.1 s.2.1 s.2.2.1 s.2.2.2.1 s.2.2.2.2) (s:=(c5,c6,[],0,params7)) (_,_) ((Abq [(7,some (_,⟨true,false,1,3,params7.map OZ⟩))] ⟨⟨_,_,r,r,r⟩,trivial⟩ ⟨(PF r),(PF r),(PF r),(Aad (XT (l:=params7) (en:=OZ) r r r (by simp))),(PF r),(PF r),trivial⟩ ⟨(.inl r),(.inr ⟨_,_,_,_,r,r,r,r,ZT r ⟨(XS PI r),trivial⟩⟩),(.inl r),trivial⟩))<|?_
  rintro ⟨c10,c11,p12,i13,params14⟩ ⟨v6x2,v9x2⟩ nn
  try dsimp only
  unfold Ty
  refine A 9 ?_
  refine cD r ?_ ?_
  ·refine A 13 ?_
   refine bD fun r15 hr15=>?_
   refine A 1 ?_
   refine bS ([r15.1] : List OX) PI r r r (by simp) r r r<|?_
   refine A 16 ?_
   exact wf [11] fun _=>B
  ·exact B

def Aml (b : Bool) : D:=.bool b
noncomputable def AgB : Dw.Spec:=Pf [] .ground PZ PY (fun a=>Abf a) Aml noE
theorem AkH : Pd Tryz.prog 70 AgB:=by
 refine fn2 1 (Pv) Tryz.func70<|?_
 intro a
 unfold Abf
 exact B

def AkK (b : Bool) : D:=.bool b
noncomputable def Aag : Dw.Spec:=Pf [] .ground PZ PY (fun a=>Sb a) AkK noE
theorem AbT : Pd Tryz.prog 58 Aag:=by
 refine fn2 1 (Pv) Tryz.func58<|?_
 intro n1
 unfold Sb
 refine A 12 ?_
 refine lP (E:=fun (s : Int) (_g : Unit)=>[(0,.int .i64 n1),(3,.int .i64 s)]) (O:=fun _ _=>[]) (body:=fun s=>Wj n1 s) (s:=1) () ((hE ⟨rfl,r,trivial⟩ trivial))<|?_
 rintro k2 ⟨⟩ nn
 try dsimp only
 unfold Wj
 exact B

def TF (a : (List Po)) : List D:=[.sl (a.map Pn)]
def TE (ds : List D) : (List Po):=(uL XY) (ds.getD 0 .top)
theorem AjG (a : (List Po)) : TE (TF a) = a:=by simp [TE,TF,PV (u:=XY) (en:=Pn) Afe]
instance : Px TF TE:=⟨AjG⟩
def AkM (b : Int) : D:=.int .i64 b
noncomputable def Acr : Dw.Spec:=Pf [] .ground TF TE (fun a=>Xn a) AkM noE
theorem AeQ : Pd Tryz.prog 45 Acr:=by
 refine fn2 1 (Pk (l:=[(70,AgB),(58,Aag)]) (by simp [AkH,AbT])) Tryz.func45<|?_
 intro s1
 unfold Xn
 refine A 13 ?_
 refine cD r ?_ ?_
 ·exact B
 ·refine A 9 ?_
  refine lP (E:=fun (s : Int) (_g : Unit)=>[(0,.sl (s1.map Pn)),(3,.int .i64 s)]) (O:=fun _ _=>[]) (body:=fun s=>YL s1 s) (s:=0) () ((hE ⟨rfl,r,trivial⟩ trivial))<|?_
  rintro i2 ⟨⟩ nn
  try dsimp only
  unfold YL
  exact B

def AkI (b : Int) : D:=.int .i64 b
noncomputable def AfB : Dw.Spec:=Pf [] .ground TF TE (fun a=>VK a) AkI noE
theorem AjE : Pd Tryz.prog 53 AfB:=by
 refine fn2 1 (Pk (l:=[(45,Acr)]) (by simp [AeQ])) Tryz.func53<|?_
 intro s1
 unfold VK
 refine A 14 ?_
 refine bD fun r2 hr2=>?_
 refine A 4 ?_
 refine cD r ?_ ?_
 ·exact B
 ·refine A 9 ?_
  refine lP (E:=fun (s : Int × Int) (_g : Unit)=>[(0,.sl (s1.map Pn)),(3,.int .i64 s.1),(4,.int .i64 s.2)]) (O:=fun _ _=>[]) (body:=fun s=>Wg s1 s.1 s.2) (s:=(16,0)) () ((hE ⟨rfl,r,r,trivial⟩ trivial))<|?_
  rintro ⟨a3,i4⟩ ⟨⟩ nn
  try dsimp only
  unfold Wg
  exact B

def XE (a : Ph) : List D:=[Rv a]
def XD (ds : List D) : Ph:=VQ (ds.getD 0 .top)
theorem AjL (a : Ph) : XD (XE a) = a:=by simp [XD,XE]
instance : Px XE XD:=⟨AjL⟩
def AkU (b : Int) : D:=.int .i64 b
noncomputable def Acv : Dw.Spec:=Pf [] .ground XE XD (fun a=>Un a) AkU noE
theorem AeU : Pd Tryz.prog 29 Acv:=by
 refine fn2 1 (Pk (l:=[(53,AfB)]) (by simp [AjE])) Tryz.func29<|?_
 intro p1
 unfold Un
 refine A 18 ?_
 refine lP (E:=fun (s : Int × Int) (g : Nat)=>[(1,.optr 1 g 0 0),(3,.int .i64 s.1),(4,.int .i64 s.2)]) (O:=fun _ g=>[(1,some (g,⟨false,true,1,26,[.agg [.sl (p1.Funcs.map PI)]]⟩))]) (body:=fun s=>Wn p1 s.1 s.2) (s:=(16,0)) _ ((hE ⟨rfl,r,r,trivial⟩ ⟨rfl,trivial⟩))<|?_
 rintro ⟨a2,i3⟩ v1x1 nn
 try dsimp only
 unfold Wn
 exact B

end Go.Proofs.YtnldnldmgceooaaGreatDoor
