/-
  Programs on typed data, and the proofs that the code does what they say; written by a program (dx.py).
-/
import Derived.Test.YtnldnldmgceooaaGreatDoorProg
import Derived.Test.YtnldnldmgceooaaGreatDoorDd
import Derived.KernelRfl
import Derived.Test.YtnldnldmgceooaaGreatDoorDxP
namespace Go.Proofs.YtnldnldmgceooaaGreatDoor
open Go Go.Dw Go.Proofs
set_option maxRecDepth 100000
set_option maxHeartbeats 4000000
open Go.Dw renaming QU → bD,PN → cK,AcW → bS,Aey → aP,Ue → sE,Acy → cD,AeS → xL,Aah → hE,Aez → lP,AaZ → sC,Zg → bC,rf → r
def UK (a : Ph × Int) : List D:=[RA a.1,.int .i64 a.2]
def UJ (ds : List D) : Ph × Int:=(VD (ds.getD 0 .top),uI (ds.getD 1 .top))
theorem Aly (a : Ph × Int) : UJ (UK a) = a:=by simp [UJ,UK,uI]
instance : Px UK UJ:=⟨Aly⟩
def Ams (b : Int) : D:=.int .i64 b
noncomputable def AdR : Dw.Spec:=Pf [] .ground UK UJ (fun a=>Yc a.1 a.2) Ams noE
theorem AfU : Pd Tryz.prog 68 AdR:=by
 refine fn2 2 (Pv) Tryz.func68<|?_
 rintro ⟨p1,i2⟩
 unfold Yc
 refine A 17 ?_
 refine bD fun x_x3 hx_x3=>?_
 refine A 8 ?_
 refine lP (E:=fun (s : Int × Int) (g : Nat)=>[(2,.optr 2 g 0 0),(5,.int .i64 s.2),(13,.sl (x_x3.Code.map Pm)),(14,.int .i64 (x_x3.Code.length : Int)),(15,.int .i64 s.1)]) (O:=fun _ g=>[(2,some (g,⟨false,true,1,26,[.agg [.sl (p1.Funcs.map PL)]]⟩))]) (body:=fun s=>AaD x_x3 p1 s.1 s.2) (s:=(0,0)) _ ((hE ⟨rfl,r,r,r,r,trivial⟩ ⟨rfl,trivial⟩))<|?_
 rintro ⟨x4,n5⟩ v2x1 nn
 try dsimp only
 unfold AaD
 exact B

def PY (a : Int) : List D:=[.int .i64 a]
def PX (ds : List D) : Int:=uI (ds.getD 0 .top)
theorem Aia (a : Int) : PX (PY a) = a:=by simp [PX,PY,uI]
instance : Px PY PX:=⟨Aia⟩
def AiM (b : Bool) : D:=.bool b
noncomputable def Yo : Dw.Spec:=Pf [] .ground PY PX (fun a=>Tp a) AiM noE
theorem Aax : Pd Tryz.prog 117 Yo:=by
 refine fn2 1 (Pv) Tryz.func117<|?_
 intro a
 unfold Tp
 exact B

def AiL (b : Bool) : D:=.bool b
noncomputable def Aei : Dw.Spec:=Pf [] .ground PY PX (fun a=>XX a) AiL noE
theorem AhZ : Pd Tryz.prog 118 Aei:=by
 refine fn2 1 (Pv) Tryz.func118<|?_
 intro a
 unfold XX
 exact B

def TK (a : Int × Int) : List D:=[.int .i64 a.1,.int .i64 a.2]
def TJ (ds : List D) : Int × Int:=(uI (ds.getD 0 .top),uI (ds.getD 1 .top))
theorem Alj (a : Int × Int) : TJ (TK a) = a:=by simp [TJ,TK,uI]
instance : Px TK TJ:=⟨Alj⟩
def Amn (b : Int) : D:=.int .i64 b
noncomputable def AgQ : Dw.Spec:=Pf [] .ground TK TJ (fun a=>Adp a.1 a.2) Amn noE
theorem Alk : Pd Tryz.prog 120 AgQ:=by
 refine fn2 2 (Pv) Tryz.func120<|?_
 intro a
 unfold Adp
 exact B

def Aho (b : Int × Int) : D:=.tup [.int .i64 b.1,.int .i64 b.2]
noncomputable def ZX : Dw.Spec:=Pf [] .ground PY PX (fun a=>Uh a) Aho noE
theorem Acg : Pd Tryz.prog 119 ZX:=by
 refine fn2 1 (Pv) Tryz.func119<|?_
 intro a
 unfold Uh
 exact B

def Amm (b : Int × Int) : D:=.tup [.int .i64 b.1,.int .i64 b.2]
noncomputable def AdK : Dw.Spec:=Pf [] .ground TK TJ (fun a=>Aag a.1 a.2) Amm noE
theorem AfJ : Pd Tryz.prog 90 AdK:=by
 refine fn2 2 (Pk (l:=[(117,Yo),(118,Aei),(120,AgQ),(119,ZX)]) (by simp [Aax,AhZ,Alk,Acg])) Tryz.func90<|?_
 rintro ⟨n1,align2⟩
 unfold Aag
 refine A 6 ?_
 refine sC (E:=fun (_s : Unit) (_g : Unit)=>[(0,.int .i64 n1),(1,.int .i64 align2)]) (O:=fun _ _=>[]) (j:=fun _=>Aaw n1 align2) ?_ ?_
 ·exact B
 ·rintro ⟨⟩ ⟨⟩ nn
  try dsimp only
  unfold Aaw
  exact B

def Ali (b : Int × Int) : D:=.tup [.int .i64 b.1,.int .i64 b.2]
noncomputable def AcF : Dw.Spec:=Pf [] .ground TK TJ (fun a=>Yn a.1 a.2) Ali noE
theorem AeV : Pd Tryz.prog 91 AcF:=by
 refine fn2 2 (Pk (l:=[(117,Yo),(119,ZX)]) (by simp [Aax,Acg])) Tryz.func91<|?_
 rintro ⟨x1,y2⟩
 unfold Yn
 refine A 6 ?_
 refine sC (E:=fun (_s : Unit) (_g : Unit)=>[(0,.int .i64 x1),(1,.int .i64 y2)]) (O:=fun _ _=>[]) (j:=fun _=>ZE x1 y2) ?_ ?_
 ·exact B
 ·rintro ⟨⟩ ⟨⟩ nn
  try dsimp only
  unfold ZE
  exact B

def Yu (a : Pe × Int × Int) : List D:=[Qi a.1,.int .i64 a.2.1,.int .i64 a.2.2]
def Yt (ds : List D) : Pe × Int × Int:=(AeA (ds.getD 0 .top),uI (ds.getD 1 .top),uI (ds.getD 2 .top))
theorem Ake (a : Pe × Int × Int) : Yt (Yu a) = a:=by simp [Yt,Yu,uI]
instance : Px Yu Yt:=⟨Ake⟩
def AfV (b : Pe × Int) : D:=.tup [Qi b.1,.int .i64 b.2]
noncomputable def AfW : Dw.Spec:=Pf [] .val Yu Yt (fun a=>Aco a.1 a.2.1 a.2.2) AfV noE
theorem Akf : Pd Tryz.prog 92 AfW:=by
 refine fn2 3 (Pk (l:=[(90,AdK),(91,AcF)]) (by simp [AfJ,AeV])) Tryz.func92<|?_
 rintro ⟨y1,end2,align3⟩
 unfold Aco
 refine A 11 ?_
 refine bD fun r4 hr4=>?_
 refine A 8 ?_
 refine sC (E:=fun (s : Int) (g : Nat × Nat)=>[(3,.optr 3 g.1 0 0),(6,.optr 6 g.2 0 0),(8,.int .i64 r4.1),(9,.int .i64 s)]) (O:=fun _ g=>[(3,some (g.1,⟨false,true,3,32,[.agg [.int .i64 y1.Args,.int .i64 y1.Size,.sl (y1.Off.map Pa)]]⟩)),(6,some (g.2,⟨false,true,3,32,[.agg [.int .i64 0,.int .i64 0,.nils]]⟩))]) (j:=fun s=>WT y1 r4 s) ?_ ?_
 ·exact B
 ·rintro e5 ⟨v3x1,v6x1⟩ nn
  try dsimp only
  unfold WT
  refine A 7 ?_
  refine cD r ?_ ?_
  ·refine A 9 ?_
   refine Qu (b:=((Pe.mk 0 0 ([])),9)) r ?_ r r ?_ (by first | rfl | (simp only [OV]; rfl) | (simp only [OW]; rfl) | (simp only [OV,OW]; rfl) | simp [AfV,Qi]) (by decide)
   all_goals first|(simp;done)|(simp;omega)|rfl|(simp [PG,PE];done)
  ·exact B

def TQ (a : Ph × Int × Int) : List D:=[RA a.1,.int .i64 a.2.1,.int .i64 a.2.2]
def TP (ds : List D) : Ph × Int × Int:=(VD (ds.getD 0 .top),uI (ds.getD 1 .top),uI (ds.getD 2 .top))
theorem Ahu (a : Ph × Int × Int) : TP (TQ a) = a:=by simp [TP,TQ,uI]
instance : Px TQ TP:=⟨Ahu⟩
def Adq (b : Pe × Int) : D:=.tup [Qi b.1,.int .i64 b.2]
noncomputable def Adr : Dw.Spec:=Pf [] .val TQ TP (fun a=>UL a.1 a.2.1 a.2.2) Adq noE
theorem Ahv : Pd Tryz.prog 67 Adr:=by
 refine fn2 3 (Pk (l:=[(68,AdR),(90,AdK),(91,AcF),(92,AfW)]) (by simp [AfU,AfJ,AeV,Akf])) Tryz.func67<|?_
 rintro ⟨p1,i2,align3⟩
 unfold UL
 refine A 11 ?_
 refine bD fun r4 hr4=>?_
 refine A 19 ?_
 refine bD fun x_x5 hx_x5=>?_
 refine A 8 ?_
 refine lP (E:=fun (s : (List Int) × Int × Int) (g : Nat × Nat × Nat × Nat)=>[(2,.int .i64 align3),(6,.optr 6 g.1 0 0),(8,.optr 8 g.2.1 0 0),(9,.int .i64 s.2.2),(25,.sl (x_x5.Slots.map Pn)),(26,.int .i64 (x_x5.Slots.length : Int)),(27,.int .i64 s.2.1)]) (O:=fun s g=>[(6,some (g.1,⟨false,true,3,32,[.agg [.int .i64 0,.int .i64 0,.osl 2900 g.2.2.1 0 (([] : List Int).length)]]⟩)),(8,some (g.2.1,⟨false,true,3,32,[.agg [.int .i64 r4,.int .i64 0,.osl 2901 g.2.2.2 0 s.1.length]]⟩)),(2900,some (g.2.2.1,⟨false,false,1,3,([] : List Int).map Pa⟩)),(2901,some (g.2.2.2,⟨false,false,1,3,s.1.map Pa⟩))]) (body:=fun s=>Ww x_x5 r4 align3 s.1 s.2.1 s.2.2) (s:=(([] : List Int),0,r4)) (_,_,_,_) ((Oc (gg:=6) (off:=2) (tt:=2900) (s:=1) (tyy:=3) r r r r (Oc (gg:=8) (off:=2) (tt:=2901) (s:=1) (tyy:=3) r r r r (hE ⟨rfl,r,r,r,r,r,r,trivial⟩ ⟨rfl,r,r,r,trivial⟩))))<|?_
 rintro ⟨x6,x7,end8⟩ ⟨v6x1,v8x1,v2900x1,v2901x1⟩ nn
 try dsimp only
 unfold Ww
 refine A 6 ?_
 refine cD r ?_ ?_
 ·refine A 6 ?_
  refine bD fun x_x9 hx_x9=>?_
  refine A 11 ?_
  refine bD fun r10 hr10=>?_
  refine A 8 ?_
  refine sC (E:=fun (s : Int × Int) (g : Nat × Nat × Nat × Nat)=>[(2,.int .i64 align3),(6,.optr 6 g.1 0 0),(8,.optr 8 g.2.1 0 0),(9,.int .i64 s.2),(12,.int .i64 r10.1),(13,.int .i64 s.1),(25,.sl (x_x5.Slots.map Pn)),(26,.int .i64 (x_x5.Slots.length : Int)),(27,.int .i64 x7)]) (O:=fun _ g=>[(6,some (g.1,⟨false,true,3,32,[.agg [.int .i64 0,.int .i64 0,.osl 2900 g.2.2.1 0 (([] : List Int).length)]]⟩)),(8,some (g.2.1,⟨false,true,3,32,[.agg [.int .i64 r4,.int .i64 0,.osl 2901 g.2.2.2 0 x6.length]]⟩)),(2900,some (g.2.2.1,⟨false,false,1,3,([] : List Int).map Pa⟩)),(2901,some (g.2.2.2,⟨false,false,1,3,x6.map Pa⟩))]) (j:=fun s=>Uw x6 r10 x7 s.1 s.2) ?_ ?_
  ·exact B
  ·rintro ⟨e11,end12⟩ ⟨v6x2,v8x2,v2900x2,v2901x2⟩ nn
   try dsimp only
   unfold Uw
   refine A 7 ?_
   refine cD r ?_ ?_
   ·refine A 14 ?_
    refine Qu (b:=((Pe.mk 0 0 ([])),9)) r ?_ r r ?_ (by first | rfl | (simp only [OV]; rfl) | (simp only [OW]; rfl) | (simp only [OV,OW]; rfl) | simp [Adq,Qi]) (by decide)
    all_goals first|(simp;done)|(simp;omega)|rfl|(simp [PG,PE];done)
   ·refine A 17 ?_
    exact xL (s:=(x6 ++ ([r10.1] : List Int),IntKind.i64.wrap (x7 + 1),end12)) (_,_,_,_) ((Ahq (E1:=[(2,.int .i64 align3),(6,.optr 6 _ 0 0),(8,.optr 8 _ 0 0),(9,.int .i64 end12),(25,.sl (x_x5.Slots.map Pn)),(26,.int .i64 (x_x5.Slots.length : Int)),(27,.int .i64 (IntKind.i64.wrap (x7 + 1)))]) (O1:=[(6,some (_,⟨false,true,3,32,[.agg [.int .i64 0,.int .i64 0,.osl 2900 _ 0 (([] : List Int).length)]]⟩)),(8,some (_,⟨false,true,3,32,[.agg [.int .i64 r4,.int .i64 0,.osl 54 _ 0 ((x6 ++ ([r10.1] : List Int)).length)]]⟩)),(54,some (_,⟨false,false,1,3,(x6 ++ ([r10.1] : List Int)).map Pa⟩)),(2900,some (_,⟨false,false,1,3,([] : List Int).map Pa⟩))]) (hE ⟨rfl,r,r,r,r,r,r,trivial⟩ ⟨rfl,r,r,r,trivial⟩) (fun _=>Ahp (fun g=>bif Nat.beq g 54 then 2901 else g) (by rfl) (hE ⟨rfl,r,r,r,r,r,r,trivial⟩ ⟨rfl,r,r,r,trivial⟩))))
 ·exact B

def Qz (a : Pp × Int) : List D:=[TB a.1,.int .i64 a.2]
def Qy (ds : List D) : Pp × Int:=(TI (ds.getD 0 .top),uI (ds.getD 1 .top))
theorem AbR (a : Pp × Int) : Qy (Qz a) = a:=by simp [Qy,Qz,uI]
instance : Px Qz Qy:=⟨AbR⟩
def Acn (b : Pj) : D:=Qd b
noncomputable def TX : Dw.Spec:=Pf [] .ground Qz Qy (fun a=>PZ a.1 a.2) Acn noE
theorem WS : Pd Tryz.prog 86 TX:=by
 refine fn2 2 (Pv) Tryz.func86<|?_
 intro a
 unfold PZ
 exact B

def Uu (a : Pj) : List D:=[Qd a]
def Ut (ds : List D) : Pj:=Tt (ds.getD 0 .top)
theorem Aib (a : Pj) : Ut (Uu a) = a:=by simp [Ut,Uu]
instance : Px Uu Ut:=⟨Aib⟩
def AiO (b : Bool) : D:=.bool b
noncomputable def Abn : Dw.Spec:=Pf [] .ground Uu Ut (fun a=>Us a) AiO noE
theorem Ado : Pd Tryz.prog 114 Abn:=by
 refine fn2 1 (Pk (l:=[(117,Yo)]) (by simp [Aax])) Tryz.func114<|?_
 intro a
 unfold Us
 exact B

def VG (a : Pj × Int) : List D:=[Qd a.1,.int .i64 a.2]
def VF (ds : List D) : Pj × Int:=(Tt (ds.getD 0 .top),uI (ds.getD 1 .top))
theorem Ahl (a : Pj × Int) : VF (VG a) = a:=by simp [VF,VG,uI]
instance : Px VG VF:=⟨Ahl⟩
def AhY (b : Bool) : D:=.bool b
noncomputable def Adn : Dw.Spec:=Pf [] .ground VG VF (fun a=>WR a.1 a.2) AhY noE
theorem Ahm : Pd Tryz.prog 93 Adn:=by
 refine fn2 2 (Pk (l:=[(114,Abn)]) (by simp [Ado])) Tryz.func93<|?_
 intro a
 unfold WR
 exact B

def Adc (b : Bool) : D:=.bool b
noncomputable def Zh : Dw.Spec:=Pf [] .ground Qz Qy (fun a=>RT a.1 a.2) Adc noE
theorem AcI : Pd Tryz.prog 69 Zh:=by
 refine fn2 2 (Pk (l:=[(86,TX),(93,Adn)]) (by simp [WS,Ahm])) Tryz.func69<|?_
 intro a
 unfold RT
 exact B

def Sl (a : Pp) : List D:=[TB a]
def Sk (ds : List D) : Pp:=TI (ds.getD 0 .top)
theorem Adg (a : Pp) : Sk (Sl a) = a:=by simp [Sk,Sl]
instance : Px Sl Sk:=⟨Adg⟩
def AdO (b : Int) : D:=.int .i64 b
noncomputable def Vw : Dw.Spec:=Pf [] .ground Sl Sk (fun a=>Rv a) AdO noE
theorem Zi : Pd Tryz.prog 42 Vw:=by
 refine fn2 1 (Pk (l:=[(67,Adr),(68,AdR),(69,Zh)]) (by simp [Ahv,AfU,AcI])) Tryz.func42<|?_
 intro s1
 unfold Rv
 refine A 14 ?_
 refine bD fun r2 hr2=>?_
 refine A 16 ?_
 refine cD r ?_ ?_
 ·exact B
 ·refine A 2 ?_
  refine sC (E:=fun (_s : Unit) (g : Nat × Nat)=>[(1,.optr 1 g.1 0 0),(3,.optr 3 g.2 0 0)]) (O:=fun _ g=>[(1,some (g.1,⟨false,true,9,78,[.agg [.sl (s1.p.Funcs.map PL),.int .i64 s1.i,.int .i64 s1.align,.int .i64 s1.f.Params,.sl (s1.f.Slots.map Pn),.sl (s1.f.Code.map Pm),.int .i64 s1.y.Args,.int .i64 s1.y.Size,.sl (s1.y.Off.map Pa)]]⟩)),(3,some (g.2,⟨false,true,3,32,[.agg [.int .i64 r2.1.Args,.int .i64 r2.1.Size,.sl (r2.1.Off.map Pa)]]⟩))]) (j:=fun _=>SJ s1 r2) ?_ ?_
  ·exact B
  ·rintro ⟨⟩ ⟨v1x1,v3x1⟩ nn
   try dsimp only
   unfold SJ
   refine A 11 ?_
   refine lP (E:=fun (s : Int) (g : Nat × Nat)=>[(1,.optr 1 g.1 0 0),(3,.optr 3 g.2 0 0),(42,.int .i64 (s1.f.Slots.length : Int)),(43,.int .i64 s)]) (O:=fun _ g=>[(1,some (g.1,⟨false,true,9,78,[.agg [.sl (s1.p.Funcs.map PL),.int .i64 s1.i,.int .i64 s1.align,.int .i64 s1.f.Params,.sl (s1.f.Slots.map Pn),.sl (s1.f.Code.map Pm),.int .i64 s1.y.Args,.int .i64 s1.y.Size,.sl (s1.y.Off.map Pa)]]⟩)),(3,some (g.2,⟨false,true,3,32,[.agg [.int .i64 r2.1.Args,.int .i64 r2.1.Size,.sl (r2.1.Off.map Pa)]]⟩))]) (body:=fun s=>SI s1 r2 s) (s:=0) (_,_) ((hE ⟨rfl,r,r,r,trivial⟩ ⟨rfl,r,trivial⟩))<|?_
   rintro x4 ⟨v1x2,v3x2⟩ nn
   try dsimp only
   unfold SI
   exact B

def Wu (a : Ph × Int × Int × Pe) : List D:=[RA a.1,.int .i64 a.2.1,.int .i64 a.2.2.1,Qi a.2.2.2]
def Wt (ds : List D) : Ph × Int × Int × Pe:=(VD (ds.getD 0 .top),uI (ds.getD 1 .top),uI (ds.getD 2 .top),AeA (ds.getD 3 .top))
theorem Aie (a : Ph × Int × Int × Pe) : Wt (Wu a) = a:=by simp [Wt,Wu,uI]
instance : Px Wu Wt:=⟨Aie⟩
def AiW (b : Int) : D:=.int .i64 b
noncomputable def Ael : Dw.Spec:=Pf [] .ground Wu Wt (fun a=>VW a.1 a.2.1 a.2.2.1 a.2.2.2) AiW noE
theorem Aif : Pd Tryz.prog 20 Ael:=by
 refine fn2 4 (Pk (l:=[(42,Vw)]) (by simp [Zi])) Tryz.func20<|?_
 intro a
 unfold VW
 exact B

def AaC (_a : Unit) : List D:=[]
def AaB (_ds : List D) : Unit:=()
theorem AiS (a : Unit) : AaB (AaC a) = a:=rfl
instance : Px AaC AaB:=⟨AiS⟩
def Akb (b : Bool) : D:=.bool b
noncomputable def AeX : Dw.Spec:=Pf [] .ground AaC AaB (fun _a=>Zm) Akb noE
theorem AiT : Pd Tryz.prog 8 AeX:=by
 refine fn2 0 (Pk (l:=[(20,Ael)]) (by simp [Aif])) Tryz.func8<|?_
 intro _
 unfold Zm
 refine A 8 ?_
 refine bS ([(OZ.mk 23 0 0 0 0)] : List OZ) Pm r r r (by simp) r r r<|?_
 refine A 1 ?_
 refine bS ([(OX.mk 0 ([]) ([(OZ.mk 23 0 0 0 0)] : List OZ))] : List OX) PL r r r (by simp) r (by simp [Xr,PL]) r<|?_
 exact B

def Aav (a : (List Int) × Int) : List D:=[.sl (a.1.map eU8),.int .i64 a.2]
def Aau (ds : List D) : (List Int) × Int:=((uL uI) (ds.getD 0 .top),uI (ds.getD 1 .top))
theorem Ami (a : (List Int) × Int) : Aau (Aav a) = a:=by simp [Aau,Aav,uI,PV (u:=uI) (en:=eU8) (fun _=>rfl)]
instance : Px Aav Aau:=⟨Ami⟩
def Anc (b : Mk) : D:=Pz b
noncomputable def AhX : Dw.Spec:=Pf [] (.ptr 2 99) Aav Aau (fun a=>AcE a.1 a.2) Anc noE
theorem Amj : Pd Tryz.prog 26 AhX:=by
 refine fn2 2 (Pv) Tryz.func26<|?_
 intro a
 unfold AcE
 exact B

def QS (a : Mk) : List D:=[Pz a]
def QQ (ds : List D) : Mk:=Se (ds.getD 0 .top)
theorem Afv (a : Mk) : QQ (QS a) = a:=by simp [QQ,QS]
instance : Px QS QQ:=⟨Afv⟩
def Agt (b : Bool × Mk) : D:=.bool b.1
def Ags (b : Bool × Mk) : List D:=[Pz b.2]
noncomputable def AbZ : Dw.Spec:=Pf [(0,(2,99))] .val QS QQ (fun a=>Xq a) Agt Ags
theorem Afw : Pd Tryz.prog 52 AbZ:=by
 refine fn2 1 (Pv) Tryz.func52<|?_
 intro a
 unfold Xq
 exact B

def SO (a : Mk × Int) : List D:=[Pz a.1,.int .i64 a.2]
def SN (ds : List D) : Mk × Int:=(Se (ds.getD 0 .top),uI (ds.getD 1 .top))
theorem Afz (a : Mk × Int) : SN (SO a) = a:=by simp [SN,SO,uI]
instance : Px SO SN:=⟨Afz⟩
def Agw (b : Int × Mk) : D:=.int .i64 b.1
def Agv (b : Int × Mk) : List D:=[Pz b.2]
noncomputable def PM : Dw.Spec:=Pf [(0,(2,99))] .val SO SN (fun a=>Pc a.1 a.2) Agw Agv
theorem PO : Pd Tryz.prog 28 PM:=by
 refine fn2 2 (Pk (l:=[(52,AbZ)]) (by simp [Afw])) Tryz.func28<|?_
 rintro ⟨c1,n2⟩
 unfold Pc
 refine A 5 ?_
 refine sC (E:=fun (_s : (List Int) × Int) (_g : Unit)=>[(0,.optr 8192 0 0 0),(1,.int .i64 n2)]) (O:=fun s _=>[(8192,some (0,⟨false,true,2,99,[.agg [.sl (s.1.map eU8),.int .i64 s.2]]⟩))]) (j:=fun s=>Vd n2 s.1 s.2) ?_ ?_
 ·exact B
 ·rintro ⟨c3,c4⟩ ⟨⟩ nn
  try dsimp only
  unfold Vd
  refine A 10 ?_
  refine bD fun x_x6 hx_x6=>?_
  refine A 15 ?_
  refine Xl (i:=0) (es':=[.agg [.sl (c3.map eU8),.int .i64 (IntKind.i64.wrap (c4 + 1))]]) r r r r r r r (by first | trivial | (simp; done) | (simp; omega)) r r r r r r<|?_
  exact B

def Agy (b : Po × Mk) : D:=Pn b.1
def Agx (b : Po × Mk) : List D:=[Pz b.2]
noncomputable def Acb : Dw.Spec:=Pf [(0,(2,99))] .val QS QQ (fun a=>Ve a) Agy Agx
theorem AfA : Pd Tryz.prog 94 Acb:=by
 refine fn2 1 (Pk (l:=[(28,PM)]) (by simp [PO])) Tryz.func94<|?_
 intro c1
 unfold Ve
 refine A 7 ?_
 refine bS ([8,4,8,1,2,16,8] : List Int) Pa r r r (by simp) r r r<|?_
 refine A 1 ?_
 refine bD fun r2 hr2=>?_
 refine A 2 ?_
 refine bD fun x_e3 hx_e3=>?_
 refine A 1 ?_
 refine bS ([8,4,1,8,16,2,32,64] : List Int) Pa r r r (by simp) r r r<|?_
 exact B

def AfC (b : (List Po) × Mk) : D:=.sl (b.1.map Pn)
def AfB (b : (List Po) × Mk) : List D:=[Pz b.2]
noncomputable def AbF : Dw.Spec:=Pf [(0,(2,99))] (.row 2 54) SO SN (fun a=>Ur a.1 a.2) AfC AfB
theorem Afs : Pd Tryz.prog 74 AbF:=by
 refine fn2 2 (Pk (l:=[(28,PM),(94,Acb)]) (by simp [PO,AfA])) Tryz.func74<|?_
 rintro ⟨c1,most2⟩
 unfold Ur
 refine A 16 ?_
 refine bD fun r3 hr3=>?_
 refine A 5 ?_
 refine lP (E:=fun (s : (List Int) × Int × (List Po) × Int) (g : Nat)=>[(0,.optr 8192 0 0 0),(5,.osl 5 g 0 s.2.2.1.length),(6,.int .i64 s.2.2.2)]) (O:=fun s g=>[(5,some (g,⟨false,false,2,54,s.2.2.1.map Pn⟩)),(8192,some (0,⟨false,true,2,99,[.agg [.sl (s.1.map eU8),.int .i64 s.2.1]]⟩))]) (body:=fun s=>UB s.1 s.2.1 s.2.2.1 s.2.2.2) (s:=(r3.2.list,r3.2.at_,([] : List Po),r3.1)) _ ((hE ⟨rfl,r,r,trivial⟩ ⟨rfl,r,trivial⟩))<|?_
 rintro ⟨c4,c5,l6,n7⟩ v5x1 nn
 try dsimp only
 unfold UB
 refine A 7 ?_
 refine cD r ?_ ?_
 ·refine A 7 ?_
  refine bD fun r8 hr8=>?_
  refine A 1 ?_
  refine bS ([r8.1] : List Po) Pn r r r (by simp) r r r<|?_
  exact B
 ·exact B

def UF (a : Mk × OX × Int) : List D:=[Pz a.1,PL a.2.1,.int .i64 a.2.2]
def UE (ds : List D) : Mk × OX × Int:=(Se (ds.getD 0 .top),SM (ds.getD 1 .top),uI (ds.getD 2 .top))
theorem AfF (a : Mk × OX × Int) : UE (UF a) = a:=by simp [UE,UF,uI]
instance : Px UF UE:=⟨AfF⟩
def AgE (b : Int × Mk) : D:=.int .i64 b.1
def AgD (b : Int × Mk) : List D:=[Pz b.2]
noncomputable def Ace : Dw.Spec:=Pf [(0,(2,99))] .val UF UE (fun a=>Vh a.1 a.2.1 a.2.2) AgE AgD
theorem AfG : Pd Tryz.prog 95 Ace:=by
 refine fn2 3 (Pk (l:=[(28,PM)]) (by simp [PO])) Tryz.func95<|?_
 rintro ⟨c1,f2,s3⟩
 unfold Vh
 refine A 18 ?_
 refine lP (E:=fun (s : (List Int) × Int) (g : Nat × Nat)=>[(0,.optr 8192 0 0 0),(2,.int .i64 s3),(4,.optr 4 g.1 0 0),(7,.osl 7 g.2 0 s.1.length),(8,.int .i64 s.2)]) (O:=fun s g=>[(4,some (g.1,⟨false,true,3,40,[.agg [.int .i64 f2.Params,.sl (f2.Slots.map Pn),.sl (f2.Code.map Pm)]]⟩)),(7,some (g.2,⟨false,false,1,3,s.1.map Pa⟩)),(8192,some (0,⟨false,true,2,99,[.agg [.sl (c1.list.map eU8),.int .i64 c1.at_]]⟩))]) (body:=fun s=>Vi f2 s3 c1 s.1 s.2) (s:=(([] : List Int),0)) (_,_) ((hE ⟨rfl,r,r,r,r,trivial⟩ ⟨rfl,r,r,trivial⟩))<|?_
 rintro ⟨l4,k5⟩ ⟨v4x1,v7x1⟩ nn
 try dsimp only
 unfold Vi
 exact B

def AgA (b : Int × Mk) : D:=.int .u64 b.1
def Agz (b : Int × Mk) : List D:=[Pz b.2]
noncomputable def Zk : Dw.Spec:=Pf [(0,(2,99))] .val QS QQ (fun a=>Tz a) AgA Agz
theorem AbG : Pd Tryz.prog 76 Zk:=by
 refine fn2 1 (Pk (l:=[(28,PM)]) (by simp [PO])) Tryz.func76<|?_
 intro a
 unfold Tz
 exact B

def UD (a : Mk × OX × Int × (List Int)) : List D:=[Pz a.1,PL a.2.1,.int .i64 a.2.2.1,.sl (a.2.2.2.map Pa)]
def UC (ds : List D) : Mk × OX × Int × (List Int):=(Se (ds.getD 0 .top),SM (ds.getD 1 .top),uI (ds.getD 2 .top),(uL uI) (ds.getD 3 .top))
theorem AfD (a : Mk × OX × Int × (List Int)) : UC (UD a) = a:=by simp [UC,UD,uI,PV (u:=uI) (en:=Pa) (fun _=>rfl)]
instance : Px UD UC:=⟨AfD⟩
def AgC (b : (List OZ) × Mk) : D:=.sl (b.1.map Pm)
def AgB (b : (List OZ) × Mk) : List D:=[Pz b.2]
noncomputable def Acd : Dw.Spec:=Pf [(0,(2,99))] (.row 5 50) UD UC (fun a=>Vf a.1 a.2.1 a.2.2.1 a.2.2.2) AgC AgB
theorem AfE : Pd Tryz.prog 75 Acd:=by
 refine fn2 4 (Pk (l:=[(28,PM),(95,Ace),(76,Zk)]) (by simp [PO,AfG,AbG])) Tryz.func75<|?_
 rintro ⟨c1,f2,i3,params4⟩
 unfold Vf
 refine A 9 ?_
 refine bD fun r5 hr5=>?_
 refine A 15 ?_
 refine bD fun r6 hr6=>?_
 refine A 4 ?_
 refine bC (E:=fun (_s : Unit) (_g : Unit)=>[(9,.int .i64 r5.1)]) (O:=fun _ _=>[(8192,some (0,⟨false,true,2,99,[.agg [.sl (r6.2.list.map eU8),.int .i64 r6.2.at_]]⟩))]) (j:=fun _=>XW r5 r6) ?_ ?_
 ·refine sC (E:=fun (s : Bool) (g : Nat)=>[(0,.optr 8192 0 0 0),(2,.int .i64 i3),(3,.sl (params4.map Pa)),(5,.optr 5 g 0 0),(9,.int .i64 r5.1),(10,.int .i64 (f2.Slots.length : Int)),(11,.int .i64 r6.1),(23,.bool s)]) (O:=fun _ g=>[(5,some (g,⟨false,true,3,40,[.agg [.int .i64 f2.Params,.sl (f2.Slots.map Pn),.sl (f2.Code.map Pm)]]⟩)),(8192,some (0,⟨false,true,2,99,[.agg [.sl (r6.2.list.map eU8),.int .i64 r6.2.at_]]⟩))]) (j:=fun s=>RN r6 f2 r5 params4 i3 s) ?_ ?_
  ·exact B
  ·rintro x7 v5x1 nn
   try dsimp only
   unfold RN
   refine cD r ?_ ?_
   ·refine A 4 ?_
    refine bD fun r8 hr8=>?_
    refine A 3 ?_
    refine bS ([(OZ.mk 16 r8.1 r5.1 0 0)] : List OZ) Pm r r r (by simp) r r r<|?_
    exact B
   ·refine sC (E:=fun (s : Bool) (g : Nat)=>[(0,.optr 8192 0 0 0),(2,.int .i64 i3),(3,.sl (params4.map Pa)),(5,.optr 5 g 0 0),(9,.int .i64 r5.1),(10,.int .i64 (f2.Slots.length : Int)),(11,.int .i64 r6.1),(36,.bool s)]) (O:=fun _ g=>[(5,some (g,⟨false,true,3,40,[.agg [.int .i64 f2.Params,.sl (f2.Slots.map Pn),.sl (f2.Code.map Pm)]]⟩)),(8192,some (0,⟨false,true,2,99,[.agg [.sl (r6.2.list.map eU8),.int .i64 r6.2.at_]]⟩))]) (j:=fun s=>RO r6 f2 r5 params4 i3 s) ?_ ?_
    ·exact B
    ·rintro x9 v5x2 nn
     try dsimp only
     unfold RO
     refine cD r ?_ ?_
     ·refine A 5 ?_
      refine bD fun r10 hr10=>?_
      refine A 2 ?_
      refine bS ([(OZ.mk 15 r5.1 r10.1 0 0)] : List OZ) Pm r r r (by simp) r r r<|?_
      exact B
     ·refine sC (E:=fun (s : Bool) (g : Nat)=>[(0,.optr 8192 0 0 0),(2,.int .i64 i3),(3,.sl (params4.map Pa)),(5,.optr 5 g 0 0),(9,.int .i64 r5.1),(10,.int .i64 (f2.Slots.length : Int)),(11,.int .i64 r6.1),(49,.bool s)]) (O:=fun _ g=>[(5,some (g,⟨false,true,3,40,[.agg [.int .i64 f2.Params,.sl (f2.Slots.map Pn),.sl (f2.Code.map Pm)]]⟩)),(8192,some (0,⟨false,true,2,99,[.agg [.sl (r6.2.list.map eU8),.int .i64 r6.2.at_]]⟩))]) (j:=fun s=>RP r6 f2 r5 params4 i3 s) ?_ ?_
      ·exact B
      ·rintro x11 v5x3 nn
       try dsimp only
       unfold RP
       refine cD r ?_ ?_
       ·refine A 4 ?_
        refine bD fun r12 hr12=>?_
        refine A 9 ?_
        refine bD fun r13 hr13=>?_
        refine A 3 ?_
        refine bS ([(OZ.mk 17 r13.1 r12.1 0 0)] : List OZ) Pm r r r (by simp) r r r<|?_
        exact B
       ·refine A 7 ?_
        refine cD r ?_ ?_
        ·refine A 4 ?_
         refine bD fun r14 hr14=>?_
         refine A 2 ?_
         refine bS ([(OZ.mk 0 r5.1 0 0 r14.1)] : List OZ) Pm r r r (by simp) r r r<|?_
         exact B
        ·refine A 7 ?_
         refine cD r ?_ ?_
         ·refine A 3 ?_
          refine bD fun r15 hr15=>?_
          refine A 4 ?_
          refine bD fun r16 hr16=>?_
          refine A 2 ?_
          refine bD fun r17 hr17=>?_
          refine A 2 ?_
          refine bS ([(OZ.mk (IntKind.i64.wrap (2 + r15.1)) r5.1 r16.1 r17.1 0)] : List OZ) Pm r r r (by simp) r r r<|?_
          exact B
         ·refine A 7 ?_
          refine cD r ?_ ?_
          ·refine A 4 ?_
           refine bS ([(OZ.mk 14 r5.1 0 0 0)] : List OZ) Pm r r r (by simp) r r r<|?_
           exact B
          ·refine A 7 ?_
           refine cD r ?_ ?_
           ·refine A 2 ?_
            refine bS ([13,12,1] : List Int) Pa r r r (by simp) r r r<|?_
            refine A 1 ?_
            refine bD fun r18 hr18=>?_
            refine A 2 ?_
            refine bD fun x_e19 hx_e19=>?_
            refine A 3 ?_
            refine bS ([(OZ.mk x_e19 r5.1 0 0 0)] : List OZ) Pm r r r (by simp) r r r<|?_
            exact B
           ·refine sC (E:=fun (s : Bool) (g : Nat)=>[(0,.optr 8192 0 0 0),(2,.int .i64 i3),(3,.sl (params4.map Pa)),(5,.optr 5 g 0 0),(9,.int .i64 r5.1),(11,.int .i64 r6.1),(104,.bool s)]) (O:=fun _ g=>[(5,some (g,⟨false,true,3,40,[.agg [.int .i64 f2.Params,.sl (f2.Slots.map Pn),.sl (f2.Code.map Pm)]]⟩)),(8192,some (0,⟨false,true,2,99,[.agg [.sl (r6.2.list.map eU8),.int .i64 r6.2.at_]]⟩))]) (j:=fun s=>RQ r6 f2 r5 params4 i3 s) ?_ ?_
            ·exact B
            ·rintro x20 v5x4 nn
             try dsimp only
             unfold RQ
             refine cD r ?_ ?_
             ·refine A 6 ?_
              refine bD fun r21 hr21=>?_
              refine A 2 ?_
              refine bS ([(OZ.mk 19 r5.1 r21.1 0 0)] : List OZ) Pm r r r (by simp) r r r<|?_
              exact B
             ·refine sC (E:=fun (s : Bool) (_g : Unit)=>[(0,.optr 8192 0 0 0),(2,.int .i64 i3),(3,.sl (params4.map Pa)),(9,.int .i64 r5.1),(119,.bool s)]) (O:=fun _ _=>[(8192,some (0,⟨false,true,2,99,[.agg [.sl (r6.2.list.map eU8),.int .i64 r6.2.at_]]⟩))]) (j:=fun s=>RR r6 params4 i3 r5 s) ?_ ?_
              ·exact B
              ·rintro x22 ⟨⟩ nn
               try dsimp only
               unfold RR
               refine cD r ?_ ?_
               ·refine A 10 ?_
                refine bD fun r23 hr23=>?_
                refine A 17 ?_
                refine lP (E:=fun (s : (List Int) × Int × (List OZ) × Int) (g : Nat)=>[(0,.optr 8192 0 0 0),(3,.sl (params4.map Pa)),(13,.int .i64 (IntKind.i64.wrap ((IntKind.i64.wrap (i3 + 1)) + r23.1))),(14,.osl 14 g 0 s.2.2.1.length),(15,.int .i64 s.2.2.2)]) (O:=fun s g=>[(14,some (g,⟨false,false,5,50,s.2.2.1.map Pm⟩)),(8192,some (0,⟨false,true,2,99,[.agg [.sl (s.1.map eU8),.int .i64 s.2.1]]⟩))]) (body:=fun s=>Vg params4 i3 r23 s.1 s.2.1 s.2.2.1 s.2.2.2) (s:=(r23.2.list,r23.2.at_,([] : List OZ),0)) _ ((hE ⟨rfl,r,r,r,r,trivial⟩ ⟨rfl,r,trivial⟩))<|?_
                rintro ⟨c24,c25,out26,a27⟩ v14x6 nn
                try dsimp only
                unfold Vg
                refine A 6 ?_
                refine bD fun x_x28 hx_x28=>?_
                refine A 5 ?_
                refine cD r ?_ ?_
                ·refine A 7 ?_
                 refine bD fun r29 hr29=>?_
                 refine A 4 ?_
                 refine cD r ?_ ?_
                 ·refine A 4 ?_
                  refine bD fun r30 hr30=>?_
                  refine A 2 ?_
                  refine bS ([(OZ.mk 18 a27 r30.1 0 0)] : List OZ) Pm r r r (by simp) r r r<|?_
                  exact B
                 ·exact B
                ·refine A 10 ?_
                 refine bS ([(OZ.mk 22 (IntKind.i64.wrap ((IntKind.i64.wrap (i3 + 1)) + r23.1)) 0 0 0)] : List OZ) Pm r r r (by simp) r r r<|?_
                 exact B
               ·exact B
 ·rintro ⟨⟩ ⟨⟩ nn
  try dsimp only
  unfold XW
  refine A 4 ?_
  refine bS ([(OZ.mk 14 r5.1 0 0 0)] : List OZ) Pm r r r (by simp) r r r<|?_
  exact B

def SF (a : Mk × Int × (List Int) × Int) : List D:=[Pz a.1,.int .i64 a.2.1,.sl (a.2.2.1.map Pa),.int .i64 a.2.2.2]
def SE (ds : List D) : Mk × Int × (List Int) × Int:=(Se (ds.getD 0 .top),uI (ds.getD 1 .top),(uL uI) (ds.getD 2 .top),uI (ds.getD 3 .top))
theorem AdI (a : Mk × Int × (List Int) × Int) : SE (SF a) = a:=by simp [SE,SF,uI,PV (u:=uI) (en:=Pa) (fun _=>rfl)]
instance : Px SF SE:=⟨AdI⟩
def Aae (b : OX × Mk) : D:=PL b.1
def Aeg (b : OX × Mk) : List D:=[Pz b.2]
noncomputable def Aaf : Dw.Spec:=Pf [(0,(2,99))] .val SF SE (fun a=>SP a.1 a.2.1 a.2.2.1 a.2.2.2) Aae Aeg
theorem AdJ : Pd Tryz.prog 51 Aaf:=by
 refine fn2 4 (Pk (l:=[(74,AbF),(28,PM),(75,Acd),(76,Zk)]) (by simp [Afs,PO,AfE,AbG])) Tryz.func51<|?_
 rintro ⟨c1,i2,params3,most4⟩
 unfold SP
 refine A 9 ?_
 refine bD fun x_x5 hx_x5=>?_
 refine A 3 ?_
 refine bD fun r6 hr6=>?_
 refine A 18 ?_
 refine lP (E:=fun (s : (List Int) × Int × (List OZ) × Int) (g : Nat × Nat × Nat × Nat)=>[(0,.optr 8192 0 0 0),(1,.int .i64 i2),(2,.sl (params3.map Pa)),(3,.int .i64 most4),(8,.optr 8 g.1 0 0),(9,.optr 9 g.2.1 0 0),(10,.osl 10 g.2.2.1 0 s.2.2.1.length),(11,.int .i64 s.2.2.2)]) (O:=fun s g=>[(8,some (g.1,⟨false,true,3,40,[.agg [.int .i64 0,.nils,.nils]]⟩)),(9,some (g.2.1,⟨false,true,3,40,[.agg [.int .i64 x_x5,.osl 21 g.2.2.2 0 r6.1.length,.nils]]⟩)),(10,some (g.2.2.1,⟨false,false,5,50,s.2.2.1.map Pm⟩)),(21,some (g.2.2.2,⟨false,false,2,54,r6.1.map Pn⟩)),(8192,some (0,⟨false,true,2,99,[.agg [.sl (s.1.map eU8),.int .i64 s.2.1]]⟩))]) (body:=fun s=>Th r6 most4 x_x5 i2 params3 s.1 s.2.1 s.2.2.1 s.2.2.2) (s:=(r6.2.list,r6.2.at_,([] : List OZ),0)) (_,_,_,_) ((hE ⟨rfl,r,r,r,r,r,r,r,trivial⟩ ⟨rfl,r,r,r,r,trivial⟩))<|?_
 rintro ⟨c7,c8,code9,s10⟩ ⟨v8x1,v9x1,v10x1,v21x1⟩ nn
 try dsimp only
 unfold Th
 refine A 10 ?_
 refine cD r ?_ ?_
 ·refine A 7 ?_
  refine bD fun r11 hr11=>?_
  refine A 4 ?_
  refine cD r ?_ ?_
  ·refine A 4 ?_
   refine bD fun r12 hr12=>?_
   refine A 2 ?_
   refine bS ([(OZ.mk 16 s10 r12.1 0 0)] : List OZ) Pm r r r (by simp) r r r<|?_
   exact B
  ·exact B
 ·refine A 11 ?_
  refine bD fun r13 hr13=>?_
  refine A 5 ?_
  refine lP (E:=fun (s : (List Int) × Int × (List OZ) × (List Po) × Int) (g : Nat × Nat × Nat)=>[(0,.optr 8192 0 0 0),(1,.int .i64 i2),(2,.sl (params3.map Pa)),(8,.optr 8 g.1 0 0),(9,.optr 9 g.2.1 0 0),(10,.osl 10 g.2.2 0 s.2.2.1.length),(12,.int .i64 s.2.2.2.2)]) (O:=fun s g=>[(8,some (g.1,⟨false,true,3,40,[.agg [.int .i64 0,.nils,.nils]]⟩)),(9,some (g.2.1,⟨false,true,3,40,[.agg [.int .i64 x_x5,.sl (s.2.2.2.1.map Pn),.nils]]⟩)),(10,some (g.2.2,⟨false,false,5,50,s.2.2.1.map Pm⟩)),(8192,some (0,⟨false,true,2,99,[.agg [.sl (s.1.map eU8),.int .i64 s.2.1]]⟩))]) (body:=fun s=>Ti x_x5 i2 params3 s.1 s.2.1 s.2.2.1 s.2.2.2.1 s.2.2.2.2) (s:=(r13.2.list,r13.2.at_,code9,r6.1,r13.1)) (_,_,_) ((Abq [(21,some (_,⟨true,false,2,54,r6.1.map Pn⟩))] ⟨⟨_,_,r,r,r⟩,trivial⟩ ⟨(PF r),(PF r),(PF r),(PF r),(PF r),(PF r),(PF r),trivial⟩ ⟨(.inl r),(.inr ⟨_,_,_,_,r,r,r,r,ZT r ⟨(UY r),(XT (l:=r6.1) (en:=Pn) r r r (by simp)),(UY r),trivial⟩⟩),(.inl r),(.inl r),trivial⟩))<|?_
  rintro ⟨c14,c15,code16,f17,n18⟩ ⟨v8x2,v9x2,v10x2⟩ nn
  try dsimp only
  unfold Ti
  refine A 7 ?_
  refine cD r ?_ ?_
  ·refine A 11 ?_
   refine bD fun r19 hr19=>?_
   refine A 8 ?_
   refine bD fun r20 hr20=>?_
   refine A 10 ?_
   refine cD r ?_ ?_
   ·refine A 3 ?_
    refine bD fun r21 hr21=>?_
    refine A 2 ?_
    refine bS ([(OZ.mk 21 r21.1 (-1) 0 0)] : List OZ) Pm r r r (by simp) r r r<|?_
    exact B
   ·refine A 6 ?_
    refine cD r ?_ ?_
    ·refine A 3 ?_
     refine bD fun r22 hr22=>?_
     refine A 4 ?_
     refine cD r ?_ ?_
     ·refine A 3 ?_
      refine bS ([(OZ.mk 20 (-1) 0 0 0)] : List OZ) Pm r r r (by simp) r r r<|?_
      exact B
     ·exact B
    ·exact B
  ·refine A 12 ?_
   refine sC (E:=fun (_s : (List Int) × Int × Int × Int) (g : Nat × Nat × Nat × Nat)=>[(0,.optr 8192 0 0 0),(8,.optr 8 g.1 0 0),(9,.optr 9 g.2.1 0 0),(10,.osl 10 g.2.2.1 0 code16.length),(13,.optr 13 g.2.2.2 0 0)]) (O:=fun s g=>[(8,some (g.1,⟨false,true,3,40,[.agg [.int .i64 0,.nils,.nils]]⟩)),(9,some (g.2.1,⟨false,true,3,40,[.agg [.int .i64 x_x5,.sl (f17.map Pn),.nils]]⟩)),(10,some (g.2.2.1,⟨false,false,5,50,code16.map Pm⟩)),(13,some (g.2.2.2,⟨false,true,5,50,[.agg [.int .i64 s.2.2.1,.int .i64 0,.int .i64 0,.int .i64 0,.int .u64 s.2.2.2]]⟩)),(8192,some (0,⟨false,true,2,99,[.agg [.sl (s.1.map eU8),.int .i64 s.2.1]]⟩))]) (j:=fun s=>QN code16 x_x5 f17 s.1 s.2.1 s.2.2.1 s.2.2.2) ?_ ?_
   ·exact B
   ·rintro ⟨c23,c24,end25,end26⟩ ⟨v8x3,v9x3,v10x3,v13x3⟩ nn
    try dsimp only
    unfold QN
    refine A 4 ?_
    refine bS ([(OZ.mk end25 0 0 0 end26)] : List OZ) Pm r r r (by simp) r r r<|cK fun hq=>aP (code16) (([(OZ.mk end25 0 0 0 end26)] : List OZ)) Pm r r r r r r r (by simp) (TH _ _ r) r r (by simp) (Sz _ _ r) (fun _=>r) r hq<|?_
    refine A 10 ?_
    refine lP (E:=fun (s : (List Int) × Int × (List OZ) × Int) (g : Nat × Nat × Nat)=>[(0,.optr 8192 0 0 0),(8,.optr 8 g.1 0 0),(9,.optr 9 g.2.1 0 0),(10,.osl 10 g.2.2 0 s.2.2.1.length),(14,.int .i64 s.2.2.2)]) (O:=fun s g=>[(8,some (g.1,⟨false,true,3,40,[.agg [.int .i64 0,.nils,.nils]]⟩)),(9,some (g.2.1,⟨false,true,3,40,[.agg [.int .i64 x_x5,.sl (f17.map Pn),.nils]]⟩)),(10,some (g.2.2,⟨false,false,5,50,s.2.2.1.map Pm⟩)),(8192,some (0,⟨false,true,2,99,[.agg [.sl (s.1.map eU8),.int .i64 s.2.1]]⟩))]) (body:=fun s=>RF x_x5 f17 s.1 s.2.1 s.2.2.1 s.2.2.2) (s:=(c23,c24,code16 ++ ([(OZ.mk end25 0 0 0 end26)] : List OZ),0)) (_,_,_) ((hE ⟨rfl,r,r,r,r,trivial⟩ ⟨rfl,r,r,r,trivial⟩))<|?_
    rintro ⟨c29,c30,code31,k32⟩ ⟨v8x4,v9x4,v10x4⟩ nn
    try dsimp only
    unfold RF
    refine A 9 ?_
    refine cD r ?_ ?_
    ·refine A 8 ?_
     refine bD fun r33 hr33=>?_
     refine A 6 ?_
     refine sC (E:=fun (s : Int) (g : Nat × Nat × Nat)=>[(0,.optr 8192 0 0 0),(8,.optr 8 g.1 0 0),(9,.optr 9 g.2.1 0 0),(10,.osl 10 g.2.2 0 code31.length),(14,.int .i64 k32),(15,.int .i64 s)]) (O:=fun _ g=>[(8,some (g.1,⟨false,true,3,40,[.agg [.int .i64 0,.nils,.nils]]⟩)),(9,some (g.2.1,⟨false,true,3,40,[.agg [.int .i64 x_x5,.sl (f17.map Pn),.nils]]⟩)),(10,some (g.2.2,⟨false,false,5,50,code31.map Pm⟩)),(8192,some (0,⟨false,true,2,99,[.agg [.sl (r33.2.list.map eU8),.int .i64 r33.2.at_]]⟩))]) (j:=fun s=>Qc k32 code31 r33 s) ?_ ?_
     ·exact B
     ·rintro to34 ⟨v8x5,v9x5,v10x5⟩ nn
      try dsimp only
      unfold Qc
      refine A 1 ?_
      refine sC (E:=fun (s : Bool) (g : Nat × Nat × Nat)=>[(0,.optr 8192 0 0 0),(8,.optr 8 g.1 0 0),(9,.optr 9 g.2.1 0 0),(10,.osl 10 g.2.2 0 code31.length),(14,.int .i64 k32),(15,.int .i64 to34),(107,.bool s)]) (O:=fun _ g=>[(8,some (g.1,⟨false,true,3,40,[.agg [.int .i64 0,.nils,.nils]]⟩)),(9,some (g.2.1,⟨false,true,3,40,[.agg [.int .i64 x_x5,.sl (f17.map Pn),.nils]]⟩)),(10,some (g.2.2,⟨false,false,5,50,code31.map Pm⟩)),(8192,some (0,⟨false,true,2,99,[.agg [.sl (r33.2.list.map eU8),.int .i64 r33.2.at_]]⟩))]) (j:=fun s=>RG k32 code31 r33 to34 s) ?_ ?_
      ·exact B
      ·rintro x35 ⟨v8x6,v9x6,v10x6⟩ nn
       try dsimp only
       unfold RG
       refine cD r ?_ ?_
       ·refine A 6 ?_
        refine bD fun code_o38 hcode_o38=>sE (l:=code31) (en:=Pm) (q':=(OZ.mk code_o38.Op to34 code_o38.B code_o38.C code_o38.Imm)) r r r r r r r (by simp) hcode_o38 r r r r r<|?_
        exact B
       ·refine A 6 ?_
        refine bD fun code_e39 hcode_e39=>?_
        refine A 3 ?_
        refine Abk r ?_ ?_
        ·refine A 4 ?_
         refine bD fun code_e40 hcode_e40=>?_
         refine A 6 ?_
         refine cD r ?_ ?_
         ·refine A 6 ?_
          refine bD fun code_o41 hcode_o41=>sE (l:=code31) (en:=Pm) (q':=(OZ.mk code_o41.Op code_o41.A to34 code_o41.C code_o41.Imm)) r r r r r r r (by simp) hcode_o41 r r r r r<|?_
          exact B
         ·exact B
        ·exact B
    ·refine A 19 ?_
     refine UR (b:=((OX.mk x_x5 f17 code31),(Mk.mk c29 c30))) r ?_ r r ?_ (by first | rfl | (simp only [OV]; rfl) | (simp only [OW]; rfl) | (simp only [OV,OW]; rfl) | simp [Aae,PL])
     all_goals first|(simp;done)|(simp;omega)|rfl|(simp [PG,PE];done)

def Tg (a : Mk × Int × Int) : List D:=[Pz a.1,.int .i64 a.2.1,.int .i64 a.2.2]
def Tf (ds : List D) : Mk × Int × Int:=(Se (ds.getD 0 .top),uI (ds.getD 1 .top),uI (ds.getD 2 .top))
theorem Aee (a : Mk × Int × Int) : Tf (Tg a) = a:=by simp [Tf,Tg,uI]
instance : Px Tg Tf:=⟨Aee⟩
def AeM (b : Ph × Mk) : D:=RA b.1
def AeL (b : Ph × Mk) : List D:=[Pz b.2]
noncomputable def Aat : Dw.Spec:=Pf [(0,(2,99))] .val Tg Tf (fun a=>Tn a.1 a.2.1 a.2.2) AeM AeL
theorem Aef : Pd Tryz.prog 27 Aat:=by
 refine fn2 3 (Pk (l:=[(28,PM),(51,Aaf)]) (by simp [PO,AdJ])) Tryz.func27<|?_
 rintro ⟨c1,funcs2,most3⟩
 unfold Tn
 refine A 16 ?_
 refine bD fun r4 hr4=>?_
 refine A 5 ?_
 refine lP (E:=fun (s : (List Int) × Int × (List Int) × Int) (g : Nat × Nat)=>[(0,.optr 8192 0 0 0),(2,.int .i64 most3),(6,.optr 6 g.1 0 0),(7,.osl 7 g.2 0 s.2.2.1.length),(8,.int .i64 s.2.2.2)]) (O:=fun s g=>[(6,some (g.1,⟨false,true,1,26,[.agg [.nils]]⟩)),(7,some (g.2,⟨false,false,1,3,s.2.2.1.map Pa⟩)),(8192,some (0,⟨false,true,2,99,[.agg [.sl (s.1.map eU8),.int .i64 s.2.1]]⟩))]) (body:=fun s=>Tx most3 s.1 s.2.1 s.2.2.1 s.2.2.2) (s:=(r4.2.list,r4.2.at_,([0] : List Int),r4.1)) (_,_) ((hE ⟨rfl,r,r,r,r,trivial⟩ ⟨rfl,r,r,trivial⟩))<|?_
 rintro ⟨c5,c6,params7,n8⟩ ⟨v6x1,v7x1⟩ nn
 try dsimp only
 unfold Tx
 refine A 7 ?_
 refine cD r ?_ ?_
 ·exact B
 ·refine A 17 ?_
  refine lP (E:=fun (s : (List Int) × Int × (List OX) × Int × (List Int)) (g : Nat × Nat)=>[(0,.optr 8192 0 0 0),(2,.int .i64 most3),(6,.optr 6 g.1 0 0),(7,.sl (s.2.2.2.2.map Pa)),(9,.optr 9 g.2 0 0),(10,.int .i64 s.2.2.2.1)]) (O:=fun s g=>[(6,some (g.1,⟨false,true,1,26,[.agg [.nils]]⟩)),(9,some (g.2,⟨false,true,1,26,[.agg [.sl (s.2.2.1.map PL)]]⟩)),(8192,some (0,⟨false,true,2,99,[.agg [.sl (s.1.map eU8),.int .i64 s.2.1]]⟩))]) (body:=fun s=>Ty most3 s.1 s.2.1 s.2.2.1 s.2.2.2.1 s.2.2.2.2) (s:=(c5,c6,[],0,params7)) (_,_) ((Abq [(7,some (_,⟨true,false,1,3,params7.map Pa⟩))] ⟨⟨_,_,r,r,r⟩,trivial⟩ ⟨(PF r),(PF r),(PF r),(Aad (XT (l:=params7) (en:=Pa) r r r (by simp))),(PF r),(PF r),trivial⟩ ⟨(.inl r),(.inr ⟨_,_,_,_,r,r,r,r,ZT r ⟨(XS PL r),trivial⟩⟩),(.inl r),trivial⟩))<|?_
  rintro ⟨c10,c11,p12,i13,params14⟩ ⟨v6x2,v9x2⟩ nn
  try dsimp only
  unfold Ty
  refine A 9 ?_
  refine cD r ?_ ?_
  ·refine A 13 ?_
   refine bD fun r15 hr15=>?_
   refine A 1 ?_
   refine bS ([r15.1] : List OX) PL r r r (by simp) r r r<|?_
   refine A 16 ?_
   exact wf [11] fun _=>B
  ·exact B

def AlC (b : Bool) : D:=.bool b
noncomputable def AfX : Dw.Spec:=Pf [] .ground PY PX (fun a=>AaF a) AlC noE
theorem Akg : Pd Tryz.prog 70 AfX:=by
 refine fn2 1 (Pv) Tryz.func70<|?_
 intro a
 unfold AaF
 exact B

def Akj (b : Bool) : D:=.bool b
noncomputable def ZH : Dw.Spec:=Pf [] .ground PY PX (fun a=>Sd a) Akj noE
theorem Abw : Pd Tryz.prog 58 ZH:=by
 refine fn2 1 (Pv) Tryz.func58<|?_
 intro n1
 unfold Sd
 refine A 12 ?_
 refine lP (E:=fun (s : Int) (_g : Unit)=>[(0,.int .i64 n1),(3,.int .i64 s)]) (O:=fun _ _=>[]) (body:=fun s=>VZ n1 s) (s:=1) () ((hE ⟨rfl,r,trivial⟩ trivial))<|?_
 rintro k2 ⟨⟩ nn
 try dsimp only
 unfold VZ
 exact B

def TD (a : (List Po)) : List D:=[.sl (a.map Pn)]
def TC (ds : List D) : (List Po):=(uL XL) (ds.getD 0 .top)
theorem Ajc (a : (List Po)) : TC (TD a) = a:=by simp [TC,TD,PV (u:=XL) (en:=Pn) AeC]
instance : Px TD TC:=⟨Ajc⟩
def Akl (b : Int) : D:=.int .i64 b
noncomputable def AbS : Dw.Spec:=Pf [] .ground TD TC (fun a=>Xe a) Akl noE
theorem Aen : Pd Tryz.prog 45 AbS:=by
 refine fn2 1 (Pk (l:=[(70,AfX),(58,ZH)]) (by simp [Akg,Abw])) Tryz.func45<|?_
 intro s1
 unfold Xe
 refine A 13 ?_
 refine cD r ?_ ?_
 ·exact B
 ·refine A 9 ?_
  refine lP (E:=fun (s : Int) (_g : Unit)=>[(0,.sl (s1.map Pn)),(3,.int .i64 s)]) (O:=fun _ _=>[]) (body:=fun s=>Yw s1 s) (s:=0) () ((hE ⟨rfl,r,trivial⟩ trivial))<|?_
  rintro i2 ⟨⟩ nn
  try dsimp only
  unfold Yw
  exact B

def Akh (b : Int) : D:=.int .i64 b
noncomputable def AeZ : Dw.Spec:=Pf [] .ground TD TC (fun a=>Vx a) Akh noE
theorem Ajb : Pd Tryz.prog 53 AeZ:=by
 refine fn2 1 (Pk (l:=[(45,AbS)]) (by simp [Aen])) Tryz.func53<|?_
 intro s1
 unfold Vx
 refine A 14 ?_
 refine bD fun r2 hr2=>?_
 refine A 4 ?_
 refine cD r ?_ ?_
 ·exact B
 ·refine A 9 ?_
  refine lP (E:=fun (s : Int × Int) (_g : Unit)=>[(0,.sl (s1.map Pn)),(3,.int .i64 s.1),(4,.int .i64 s.2)]) (O:=fun _ _=>[]) (body:=fun s=>VX s1 s.1 s.2) (s:=(16,0)) () ((hE ⟨rfl,r,r,trivial⟩ trivial))<|?_
  rintro ⟨a3,i4⟩ ⟨⟩ nn
  try dsimp only
  unfold VX
  exact B

def Xv (a : Ph) : List D:=[RA a]
def Xu (ds : List D) : Ph:=VD (ds.getD 0 .top)
theorem Ajh (a : Ph) : Xu (Xv a) = a:=by simp [Xu,Xv]
instance : Px Xv Xu:=⟨Ajh⟩
def Aks (b : Int) : D:=.int .i64 b
noncomputable def AbU : Dw.Spec:=Pf [] .ground Xv Xu (fun a=>Uc a) Aks noE
theorem Aep : Pd Tryz.prog 29 AbU:=by
 refine fn2 1 (Pk (l:=[(53,AeZ)]) (by simp [Ajb])) Tryz.func29<|?_
 intro p1
 unfold Uc
 refine A 18 ?_
 refine lP (E:=fun (s : Int × Int) (g : Nat)=>[(1,.optr 1 g 0 0),(3,.int .i64 s.1),(4,.int .i64 s.2)]) (O:=fun _ g=>[(1,some (g,⟨false,true,1,26,[.agg [.sl (p1.Funcs.map PL)]]⟩))]) (body:=fun s=>Wc p1 s.1 s.2) (s:=(16,0)) _ ((hE ⟨rfl,r,r,trivial⟩ ⟨rfl,trivial⟩))<|?_
 rintro ⟨a2,i3⟩ v1x1 nn
 try dsimp only
 unfold Wc
 exact B

end Go.Proofs.YtnldnldmgceooaaGreatDoor
