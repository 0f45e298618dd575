/-
  Programs on typed data, and the proofs that the code does what they say; written by a program (dx.py).
-/
import Derived.Test.YtnldnldmgceooaaGreatDoorProg
import Derived.Test.YtnldnldmgceooaaGreatDoorDd
import Derived.KernelRfl
import Derived.Test.YtnldnldmgceooaaGreatDoorDxP
namespace Go.Proofs.YtnldnldmgceooaaGreatDoor
open Go Go.Dw Go.Proofs
set_option maxRecDepth 100000
set_option maxHeartbeats 4000000
open Go.Dw renaming QU → bD,PN → cK,AcW → bS,Aey → aP,Ue → sE,Acy → cD,AeS → xL,Aah → hE,Aez → lP,AaZ → sC,Zg → bC,rf → r
def UX (a : Pj × Int) : List D:=[RE a.1,.int .i64 a.2]
def UW (ds : List D) : Pj × Int:=(VV (ds.getD 0 .top),uI (ds.getD 1 .top))
theorem AlD (a : Pj × Int) : UW (UX a) = a:=by simp [UW,UX,uI]
instance : Px UX UW:=⟨AlD⟩
def Amy (b : Int) : D:=.int .i64 b
noncomputable def Aeb : Dw.Spec:=Pf [] .ground UX UW (fun a=>Yw a.1 a.2) Amy noE
theorem Agc : Pd Tryz.prog 68 Aeb:=by
 refine fn2 2 (Pv) Tryz.func68<|?_
 rintro ⟨p1,i2⟩
 unfold Yw
 refine A 17 ?_
 refine bD fun x_x3 hx_x3=>?_
 refine A 8 ?_
 refine lP (E:=fun (s : Int × Int) (g : Nat)=>[(2,.optr 2 g 0 0),(5,.int .i64 s.2),(13,.sl (x_x3.Code.map Pn)),(14,.int .i64 (x_x3.Code.length : Int)),(15,.int .i64 s.1)]) (O:=fun _ g=>[(2,some (g,⟨false,true,1,26,[.agg [.sl (p1.Funcs.map PM)]]⟩))]) (body:=fun s=>Abd x_x3 p1 s.1 s.2) (s:=(0,0)) _ ((hE ⟨rfl,r,r,r,r,trivial⟩ ⟨rfl,trivial⟩))<|?_
 rintro ⟨x4,n5⟩ v2x1 nn
 try dsimp only
 unfold Abd
 exact B

def PY (a : Int) : List D:=[.int .i64 a]
def PX (ds : List D) : Int:=uI (ds.getD 0 .top)
theorem Aii (a : Int) : PX (PY a) = a:=by simp [PX,PY,uI]
instance : Px PY PX:=⟨Aii⟩
def AiU (b : Bool) : D:=.bool b
noncomputable def YQ : Dw.Spec:=Pf [] .ground PY PX (fun a=>Tx a) AiU noE
theorem AaW : Pd Tryz.prog 117 YQ:=by
 refine fn2 1 (Pv) Tryz.func117<|?_
 intro a
 unfold Tx
 exact B

def AiT (b : Bool) : D:=.bool b
noncomputable def Aeq : Dw.Spec:=Pf [] .ground PY PX (fun a=>Yp a) AiT noE
theorem Aih : Pd Tryz.prog 118 Aeq:=by
 refine fn2 1 (Pv) Tryz.func118<|?_
 intro a
 unfold Yp
 exact B

def TU (a : Int × Int) : List D:=[.int .i64 a.1,.int .i64 a.2]
def TT (ds : List D) : Int × Int:=(uI (ds.getD 0 .top),uI (ds.getD 1 .top))
theorem Alr (a : Int × Int) : TT (TU a) = a:=by simp [TT,TU,uI]
instance : Px TU TT:=⟨Alr⟩
def Amt (b : Int) : D:=.int .i64 b
noncomputable def Ahb : Dw.Spec:=Pf [] .ground TU TT (fun a=>Adv a.1 a.2) Amt noE
theorem Alu : Pd Tryz.prog 120 Ahb:=by
 refine fn2 2 (Pv) Tryz.func120<|?_
 intro a
 unfold Adv
 exact B

def Ahz (b : Int × Int) : D:=.tup [.int .i64 b.1,.int .i64 b.2]
noncomputable def Aay : Dw.Spec:=Pf [] .ground PY PX (fun a=>Us a) Ahz noE
theorem Acv : Pd Tryz.prog 119 Aay:=by
 refine fn2 1 (Pv) Tryz.func119<|?_
 intro a
 unfold Us
 exact B

def Ams (b : Int × Int) : D:=.tup [.int .i64 b.1,.int .i64 b.2]
noncomputable def AdT : Dw.Spec:=Pf [] .ground TU TT (fun a=>AaG a.1 a.2) Ams noE
theorem AfU : Pd Tryz.prog 90 AdT:=by
 refine fn2 2 (Pk (l:=[(117,YQ),(118,Aeq),(120,Ahb),(119,Aay)]) (by simp [AaW,Aih,Alu,Acv])) Tryz.func90<|?_
 rintro ⟨n1,align2⟩
 unfold AaG
 refine A 6 ?_
 refine sC (E:=fun (_s : Unit) (_g : Unit)=>[(0,.int .i64 n1),(1,.int .i64 align2)]) (O:=fun _ _=>[]) (j:=fun _=>AaV n1 align2) ?_ ?_
 ·exact B
 ·rintro ⟨⟩ ⟨⟩ nn
  try dsimp only
  unfold AaV
  exact B

def Alo (b : Int × Int) : D:=.tup [.int .i64 b.1,.int .i64 b.2]
noncomputable def AcQ : Dw.Spec:=Pf [] .ground TU TT (fun a=>YP a.1 a.2) Alo noE
theorem Afd : Pd Tryz.prog 91 AcQ:=by
 refine fn2 2 (Pk (l:=[(117,YQ),(119,Aay)]) (by simp [AaW,Acv])) Tryz.func91<|?_
 rintro ⟨x1,y2⟩
 unfold YP
 refine A 6 ?_
 refine sC (E:=fun (_s : Unit) (_g : Unit)=>[(0,.int .i64 x1),(1,.int .i64 y2)]) (O:=fun _ _=>[]) (j:=fun _=>Aae x1 y2) ?_ ?_
 ·exact B
 ·rintro ⟨⟩ ⟨⟩ nn
  try dsimp only
  unfold Aae
  exact B

def YW (a : Pg × Int × Int) : List D:=[Qh a.1,.int .i64 a.2.1,.int .i64 a.2.2]
def YV (ds : List D) : Pg × Int × Int:=(AeI (ds.getD 0 .top),uI (ds.getD 1 .top),uI (ds.getD 2 .top))
theorem Akk (a : Pg × Int × Int) : YV (YW a) = a:=by simp [YV,YW,uI]
instance : Px YW YV:=⟨Akk⟩
def Agd (b : Pg × Int) : D:=.tup [Qh b.1,.int .i64 b.2]
noncomputable def Age : Dw.Spec:=Pf [] .val YW YV (fun a=>AcF a.1 a.2.1 a.2.2) Agd noE
theorem Akl : Pd Tryz.prog 92 Age:=by
 refine fn2 3 (Pk (l:=[(90,AdT),(91,AcQ)]) (by simp [AfU,Afd])) Tryz.func92<|?_
 rintro ⟨y1,end2,align3⟩
 unfold AcF
 refine A 11 ?_
 refine bD fun r4 hr4=>?_
 refine A 8 ?_
 refine sC (E:=fun (s : Int) (g : Nat × Nat)=>[(3,.optr 3 g.1 0 0),(6,.optr 6 g.2 0 0),(8,.int .i64 r4.1),(9,.int .i64 s)]) (O:=fun _ g=>[(3,some (g.1,⟨false,true,3,32,[.agg [.int .i64 y1.Args,.int .i64 y1.Size,.sl (y1.Off.map Pa)]]⟩)),(6,some (g.2,⟨false,true,3,32,[.agg [.int .i64 0,.int .i64 0,.nils]]⟩))]) (j:=fun s=>Xt y1 r4 s) ?_ ?_
 ·exact B
 ·rintro e5 ⟨v3x1,v6x1⟩ nn
  try dsimp only
  unfold Xt
  refine A 7 ?_
  refine cD r ?_ ?_
  ·refine A 9 ?_
   refine Qu (b:=((Pg.mk 0 0 ([])),9)) r ?_ r r ?_ (by first | rfl | (simp only [OV]; rfl) | (simp only [OW]; rfl) | (simp only [OV,OW]; rfl) | simp [Agd,Qh]) (by decide)
   all_goals first|(simp;done)|(simp;omega)|rfl|(simp [PG,PE];done)
  ·exact B

def Ub (a : Pj × Int × Int) : List D:=[RE a.1,.int .i64 a.2.1,.int .i64 a.2.2]
def Ua (ds : List D) : Pj × Int × Int:=(VV (ds.getD 0 .top),uI (ds.getD 1 .top),uI (ds.getD 2 .top))
theorem AhB (a : Pj × Int × Int) : Ua (Ub a) = a:=by simp [Ua,Ub,uI]
instance : Px Ub Ua:=⟨AhB⟩
def Adw (b : Pg × Int) : D:=.tup [Qh b.1,.int .i64 b.2]
noncomputable def Adx : Dw.Spec:=Pf [] .val Ub Ua (fun a=>UZ a.1 a.2.1 a.2.2) Adw noE
theorem AhC : Pd Tryz.prog 67 Adx:=by
 refine fn2 3 (Pk (l:=[(68,Aeb),(90,AdT),(91,AcQ),(92,Age)]) (by simp [Agc,AfU,Afd,Akl])) Tryz.func67<|?_
 rintro ⟨p1,i2,align3⟩
 unfold UZ
 refine A 11 ?_
 refine bD fun r4 hr4=>?_
 refine A 19 ?_
 refine bD fun x_x5 hx_x5=>?_
 refine A 8 ?_
 refine lP (E:=fun (s : (List Int) × Int × Int) (g : Nat × Nat × Nat × Nat)=>[(2,.int .i64 align3),(6,.optr 6 g.1 0 0),(8,.optr 8 g.2.1 0 0),(9,.int .i64 s.2.2),(25,.sl (x_x5.Slots.map Po)),(26,.int .i64 (x_x5.Slots.length : Int)),(27,.int .i64 s.2.1)]) (O:=fun s g=>[(6,some (g.1,⟨false,true,3,32,[.agg [.int .i64 0,.int .i64 0,.osl 2900 g.2.2.1 0 (([] : List Int).length)]]⟩)),(8,some (g.2.1,⟨false,true,3,32,[.agg [.int .i64 r4,.int .i64 0,.osl 2901 g.2.2.2 0 s.1.length]]⟩)),(2900,some (g.2.2.1,⟨false,false,1,3,([] : List Int).map Pa⟩)),(2901,some (g.2.2.2,⟨false,false,1,3,s.1.map Pa⟩))]) (body:=fun s=>WU x_x5 r4 align3 s.1 s.2.1 s.2.2) (s:=(([] : List Int),0,r4)) (_,_,_,_) ((Oc (gg:=6) (off:=2) (tt:=2900) (s:=1) (tyy:=3) r r r r (Oc (gg:=8) (off:=2) (tt:=2901) (s:=1) (tyy:=3) r r r r (hE ⟨rfl,r,r,r,r,r,r,trivial⟩ ⟨rfl,r,r,r,trivial⟩))))<|?_
 rintro ⟨x6,x7,end8⟩ ⟨v6x1,v8x1,v2900x1,v2901x1⟩ nn
 try dsimp only
 unfold WU
 refine A 6 ?_
 refine cD r ?_ ?_
 ·refine A 6 ?_
  refine bD fun x_x9 hx_x9=>?_
  refine A 11 ?_
  refine bD fun r10 hr10=>?_
  refine A 8 ?_
  refine sC (E:=fun (s : Int × Int) (g : Nat × Nat × Nat × Nat)=>[(2,.int .i64 align3),(6,.optr 6 g.1 0 0),(8,.optr 8 g.2.1 0 0),(9,.int .i64 s.2),(12,.int .i64 r10.1),(13,.int .i64 s.1),(25,.sl (x_x5.Slots.map Po)),(26,.int .i64 (x_x5.Slots.length : Int)),(27,.int .i64 x7)]) (O:=fun _ g=>[(6,some (g.1,⟨false,true,3,32,[.agg [.int .i64 0,.int .i64 0,.osl 2900 g.2.2.1 0 (([] : List Int).length)]]⟩)),(8,some (g.2.1,⟨false,true,3,32,[.agg [.int .i64 r4,.int .i64 0,.osl 2901 g.2.2.2 0 x6.length]]⟩)),(2900,some (g.2.2.1,⟨false,false,1,3,([] : List Int).map Pa⟩)),(2901,some (g.2.2.2,⟨false,false,1,3,x6.map Pa⟩))]) (j:=fun s=>UG x6 r10 x7 s.1 s.2) ?_ ?_
  ·exact B
  ·rintro ⟨e11,end12⟩ ⟨v6x2,v8x2,v2900x2,v2901x2⟩ nn
   try dsimp only
   unfold UG
   refine A 7 ?_
   refine cD r ?_ ?_
   ·refine A 14 ?_
    refine Qu (b:=((Pg.mk 0 0 ([])),9)) r ?_ r r ?_ (by first | rfl | (simp only [OV]; rfl) | (simp only [OW]; rfl) | (simp only [OV,OW]; rfl) | simp [Adw,Qh]) (by decide)
    all_goals first|(simp;done)|(simp;omega)|rfl|(simp [PG,PE];done)
   ·refine A 17 ?_
    exact xL (s:=(x6 ++ ([r10.1] : List Int),IntKind.i64.wrap (x7 + 1),end12)) (_,_,_,_) ((Ahq (E1:=[(2,.int .i64 align3),(6,.optr 6 _ 0 0),(8,.optr 8 _ 0 0),(9,.int .i64 end12),(25,.sl (x_x5.Slots.map Po)),(26,.int .i64 (x_x5.Slots.length : Int)),(27,.int .i64 (IntKind.i64.wrap (x7 + 1)))]) (O1:=[(6,some (_,⟨false,true,3,32,[.agg [.int .i64 0,.int .i64 0,.osl 2900 _ 0 (([] : List Int).length)]]⟩)),(8,some (_,⟨false,true,3,32,[.agg [.int .i64 r4,.int .i64 0,.osl 54 _ 0 ((x6 ++ ([r10.1] : List Int)).length)]]⟩)),(54,some (_,⟨false,false,1,3,(x6 ++ ([r10.1] : List Int)).map Pa⟩)),(2900,some (_,⟨false,false,1,3,([] : List Int).map Pa⟩))]) (hE ⟨rfl,r,r,r,r,r,r,trivial⟩ ⟨rfl,r,r,r,trivial⟩) (fun _=>Ahp (fun g=>bif Nat.beq g 54 then 2901 else g) (by rfl) (hE ⟨rfl,r,r,r,r,r,r,trivial⟩ ⟨rfl,r,r,r,trivial⟩))))
 ·exact B

def QE (a : Pp × Int) : List D:=[TN a.1,.int .i64 a.2]
def QD (ds : List D) : Pp × Int:=(TS (ds.getD 0 .top),uI (ds.getD 1 .top))
theorem Acg (a : Pp × Int) : QD (QE a) = a:=by simp [QD,QE,uI]
instance : Px QE QD:=⟨Acg⟩
def AcE (b : Pe) : D:=Qc b
noncomputable def Uj : Dw.Spec:=Pf [] .ground QE QD (fun a=>PZ a.1 a.2) AcE noE
theorem Xs : Pd Tryz.prog 86 Uj:=by
 refine fn2 2 (Pv) Tryz.func86<|?_
 intro a
 unfold PZ
 exact B

def UD (a : Pe) : List D:=[Qc a]
def UC (ds : List D) : Pe:=TE (ds.getD 0 .top)
theorem Aij (a : Pe) : UC (UD a) = a:=by simp [UC,UD]
instance : Px UD UC:=⟨Aij⟩
def AiW (b : Bool) : D:=.bool b
noncomputable def AbC : Dw.Spec:=Pf [] .ground UD UC (fun a=>UB a) AiW noE
theorem Adu : Pd Tryz.prog 114 AbC:=by
 refine fn2 1 (Pk (l:=[(117,YQ)]) (by simp [AaW])) Tryz.func114<|?_
 intro a
 unfold UB
 exact B

def VY (a : Pe × Int) : List D:=[Qc a.1,.int .i64 a.2]
def VX (ds : List D) : Pe × Int:=(TE (ds.getD 0 .top),uI (ds.getD 1 .top))
theorem Ahw (a : Pe × Int) : VX (VY a) = a:=by simp [VX,VY,uI]
instance : Px VY VX:=⟨Ahw⟩
def Aig (b : Bool) : D:=.bool b
noncomputable def Adt : Dw.Spec:=Pf [] .ground VY VX (fun a=>Xq a.1 a.2) Aig noE
theorem Ahx : Pd Tryz.prog 93 Adt:=by
 refine fn2 2 (Pk (l:=[(114,AbC)]) (by simp [Adu])) Tryz.func93<|?_
 intro a
 unfold Xq
 exact B

def Adl (b : Bool) : D:=.bool b
noncomputable def ZD : Dw.Spec:=Pf [] .ground QE QD (fun a=>RZ a.1 a.2) Adl noE
theorem AcS : Pd Tryz.prog 69 ZD:=by
 refine fn2 2 (Pk (l:=[(86,Uj),(93,Adt)]) (by simp [Xs,Ahx])) Tryz.func69<|?_
 intro a
 unfold RZ
 exact B

def Su (a : Pp) : List D:=[TN a]
def Ss (ds : List D) : Pp:=TS (ds.getD 0 .top)
theorem Adn (a : Pp) : Ss (Su a) = a:=by simp [Ss,Su]
instance : Px Su Ss:=⟨Adn⟩
def AdY (b : Int) : D:=.int .i64 b
noncomputable def VN : Dw.Spec:=Pf [] .ground Su Ss (fun a=>Ry a) AdY noE
theorem ZF : Pd Tryz.prog 42 VN:=by
 refine fn2 1 (Pk (l:=[(67,Adx),(68,Aeb),(69,ZD)]) (by simp [AhC,Agc,AcS])) Tryz.func42<|?_
 intro s1
 unfold Ry
 refine A 14 ?_
 refine bD fun r2 hr2=>?_
 refine A 16 ?_
 refine cD r ?_ ?_
 ·exact B
 ·refine A 2 ?_
  refine sC (E:=fun (_s : Unit) (g : Nat × Nat)=>[(1,.optr 1 g.1 0 0),(3,.optr 3 g.2 0 0)]) (O:=fun _ g=>[(1,some (g.1,⟨false,true,9,78,[.agg [.sl (s1.p.Funcs.map PM),.int .i64 s1.i,.int .i64 s1.align,.int .i64 s1.f.Params,.sl (s1.f.Slots.map Po),.sl (s1.f.Code.map Pn),.int .i64 s1.y.Args,.int .i64 s1.y.Size,.sl (s1.y.Off.map Pa)]]⟩)),(3,some (g.2,⟨false,true,3,32,[.agg [.int .i64 r2.1.Args,.int .i64 r2.1.Size,.sl (r2.1.Off.map Pa)]]⟩))]) (j:=fun _=>SP s1 r2) ?_ ?_
  ·exact B
  ·rintro ⟨⟩ ⟨v1x1,v3x1⟩ nn
   try dsimp only
   unfold SP
   refine A 11 ?_
   refine lP (E:=fun (s : Int) (g : Nat × Nat)=>[(1,.optr 1 g.1 0 0),(3,.optr 3 g.2 0 0),(42,.int .i64 (s1.f.Slots.length : Int)),(43,.int .i64 s)]) (O:=fun _ g=>[(1,some (g.1,⟨false,true,9,78,[.agg [.sl (s1.p.Funcs.map PM),.int .i64 s1.i,.int .i64 s1.align,.int .i64 s1.f.Params,.sl (s1.f.Slots.map Po),.sl (s1.f.Code.map Pn),.int .i64 s1.y.Args,.int .i64 s1.y.Size,.sl (s1.y.Off.map Pa)]]⟩)),(3,some (g.2,⟨false,true,3,32,[.agg [.int .i64 r2.1.Args,.int .i64 r2.1.Size,.sl (r2.1.Off.map Pa)]]⟩))]) (body:=fun s=>SO s1 r2 s) (s:=0) (_,_) ((hE ⟨rfl,r,r,r,trivial⟩ ⟨rfl,r,trivial⟩))<|?_
   rintro x4 ⟨v1x2,v3x2⟩ nn
   try dsimp only
   unfold SO
   exact B

def WT (a : Pj × Int × Int × Pg) : List D:=[RE a.1,.int .i64 a.2.1,.int .i64 a.2.2.1,Qh a.2.2.2]
def WS (ds : List D) : Pj × Int × Int × Pg:=(VV (ds.getD 0 .top),uI (ds.getD 1 .top),uI (ds.getD 2 .top),AeI (ds.getD 3 .top))
theorem Ain (a : Pj × Int × Int × Pg) : WS (WT a) = a:=by simp [WS,WT,uI]
instance : Px WT WS:=⟨Ain⟩
def Ajf (b : Int) : D:=.int .i64 b
noncomputable def Aeu : Dw.Spec:=Pf [] .ground WT WS (fun a=>Wq a.1 a.2.1 a.2.2.1 a.2.2.2) Ajf noE
theorem Aio : Pd Tryz.prog 20 Aeu:=by
 refine fn2 4 (Pk (l:=[(42,VN)]) (by simp [ZF])) Tryz.func20<|?_
 intro a
 unfold Wq
 exact B

def Abc (_a : Unit) : List D:=[]
def Abb (_ds : List D) : Unit:=()
theorem Aja (a : Unit) : Abb (Abc a) = a:=rfl
instance : Px Abc Abb:=⟨Aja⟩
def Akh (b : Bool) : D:=.bool b
noncomputable def Aff : Dw.Spec:=Pf [] .ground Abc Abb (fun _a=>ZO) Akh noE
theorem Ajb : Pd Tryz.prog 8 Aff:=by
 refine fn2 0 (Pk (l:=[(20,Aeu)]) (by simp [Aio])) Tryz.func8<|?_
 intro _
 unfold ZO
 refine A 8 ?_
 refine bS ([(OZ.mk 23 0 0 0 0)] : List OZ) Pn r r r (by simp) r r r<|?_
 refine A 1 ?_
 refine bS ([(OX.mk 0 ([]) ([(OZ.mk 23 0 0 0 0)] : List OZ))] : List OX) PM r r r (by simp) r (by simp [Xr,PM]) r<|?_
 exact B

def AaU (a : (List Int) × Int) : List D:=[.sl (a.1.map eU8),.int .i64 a.2]
def AaT (ds : List D) : (List Int) × Int:=((uL uI) (ds.getD 0 .top),uI (ds.getD 1 .top))
theorem Amo (a : (List Int) × Int) : AaT (AaU a) = a:=by simp [AaT,AaU,uI,PV (u:=uI) (en:=eU8) (fun _=>rfl)]
instance : Px AaU AaT:=⟨Amo⟩
def Ang (b : Mk) : D:=Pz b
noncomputable def Aif : Dw.Spec:=Pf [] (.ptr 2 99) AaU AaT (fun a=>AcP a.1 a.2) Ang noE
theorem Amp : Pd Tryz.prog 26 Aif:=by
 refine fn2 2 (Pv) Tryz.func26<|?_
 intro a
 unfold AcP
 exact B

def QT (a : Mk) : List D:=[Pz a]
def QS (ds : List D) : Mk:=Sl (ds.getD 0 .top)
theorem AfD (a : Mk) : QS (QT a) = a:=by simp [QS,QT]
instance : Px QT QS:=⟨AfD⟩
def AgD (b : Bool × Mk) : D:=.bool b.1
def AgC (b : Bool × Mk) : List D:=[Pz b.2]
noncomputable def Acn : Dw.Spec:=Pf [(0,(2,99))] .val QT QS (fun a=>XP a) AgD AgC
theorem AfE : Pd Tryz.prog 52 Acn:=by
 refine fn2 1 (Pv) Tryz.func52<|?_
 intro a
 unfold XP
 exact B

def SV (a : Mk × Int) : List D:=[Pz a.1,.int .i64 a.2]
def SU (ds : List D) : Mk × Int:=(Sl (ds.getD 0 .top),uI (ds.getD 1 .top))
theorem AfH (a : Mk × Int) : SU (SV a) = a:=by simp [SU,SV,uI]
instance : Px SV SU:=⟨AfH⟩
def AgG (b : Int × Mk) : D:=.int .i64 b.1
def AgF (b : Int × Mk) : List D:=[Pz b.2]
noncomputable def PO : Dw.Spec:=Pf [(0,(2,99))] .val SV SU (fun a=>Pc a.1 a.2) AgG AgF
theorem PQ : Pd Tryz.prog 28 PO:=by
 refine fn2 2 (Pk (l:=[(52,Acn)]) (by simp [AfE])) Tryz.func28<|?_
 rintro ⟨c1,n2⟩
 unfold Pc
 refine A 5 ?_
 refine sC (E:=fun (_s : (List Int) × Int) (_g : Unit)=>[(0,.optr 8192 0 0 0),(1,.int .i64 n2)]) (O:=fun s _=>[(8192,some (0,⟨false,true,2,99,[.agg [.sl (s.1.map eU8),.int .i64 s.2]]⟩))]) (j:=fun s=>Vm n2 s.1 s.2) ?_ ?_
 ·exact B
 ·rintro ⟨c3,c4⟩ ⟨⟩ nn
  try dsimp only
  unfold Vm
  refine A 10 ?_
  refine bD fun x_x6 hx_x6=>?_
  refine A 15 ?_
  refine Xl (i:=0) (es':=[.agg [.sl (c3.map eU8),.int .i64 (IntKind.i64.wrap (c4 + 1))]]) r r r r r r r (by first | trivial | (simp; done) | (simp; omega)) r r r r r r<|?_
  exact B

def AgI (b : Pm × Mk) : D:=Po b.1
def AgH (b : Pm × Mk) : List D:=[Pz b.2]
noncomputable def Acp : Dw.Spec:=Pf [(0,(2,99))] .val QT QS (fun a=>Vn a) AgI AgH
theorem AfI : Pd Tryz.prog 94 Acp:=by
 refine fn2 1 (Pk (l:=[(28,PO)]) (by simp [PQ])) Tryz.func94<|?_
 intro c1
 unfold Vn
 refine A 7 ?_
 refine bS ([8,4,8,1,2,16,8] : List Int) Pa r r r (by simp) r r r<|?_
 refine A 1 ?_
 refine bD fun r2 hr2=>?_
 refine A 2 ?_
 refine bD fun x_e3 hx_e3=>?_
 refine A 1 ?_
 refine bS ([8,4,1,8,16,2,32,64] : List Int) Pa r r r (by simp) r r r<|?_
 exact B

def AfK (b : (List Pm) × Mk) : D:=.sl (b.1.map Po)
def AfJ (b : (List Pm) × Mk) : List D:=[Pz b.2]
noncomputable def AbV : Dw.Spec:=Pf [(0,(2,99))] (.row 2 54) SV SU (fun a=>UA a.1 a.2) AfK AfJ
theorem AfA : Pd Tryz.prog 74 AbV:=by
 refine fn2 2 (Pk (l:=[(28,PO),(94,Acp)]) (by simp [PQ,AfI])) Tryz.func74<|?_
 rintro ⟨c1,most2⟩
 unfold UA
 refine A 16 ?_
 refine bD fun r3 hr3=>?_
 refine A 5 ?_
 refine lP (E:=fun (s : (List Int) × Int × (List Pm) × Int) (g : Nat)=>[(0,.optr 8192 0 0 0),(5,.osl 5 g 0 s.2.2.1.length),(6,.int .i64 s.2.2.2)]) (O:=fun s g=>[(5,some (g,⟨false,false,2,54,s.2.2.1.map Po⟩)),(8192,some (0,⟨false,true,2,99,[.agg [.sl (s.1.map eU8),.int .i64 s.2.1]]⟩))]) (body:=fun s=>UL s.1 s.2.1 s.2.2.1 s.2.2.2) (s:=(r3.2.list,r3.2.at_,([] : List Pm),r3.1)) _ ((hE ⟨rfl,r,r,trivial⟩ ⟨rfl,r,trivial⟩))<|?_
 rintro ⟨c4,c5,l6,n7⟩ v5x1 nn
 try dsimp only
 unfold UL
 refine A 7 ?_
 refine cD r ?_ ?_
 ·refine A 7 ?_
  refine bD fun r8 hr8=>?_
  refine A 1 ?_
  refine bS ([r8.1] : List Pm) Po r r r (by simp) r r r<|?_
  exact B
 ·exact B

def UP (a : Mk × OX × Int) : List D:=[Pz a.1,PM a.2.1,.int .i64 a.2.2]
def UO (ds : List D) : Mk × OX × Int:=(Sl (ds.getD 0 .top),SS (ds.getD 1 .top),uI (ds.getD 2 .top))
theorem AfO (a : Mk × OX × Int) : UO (UP a) = a:=by simp [UO,UP,uI]
instance : Px UP UO:=⟨AfO⟩
def AgO (b : Int × Mk) : D:=.int .i64 b.1
def AgN (b : Int × Mk) : List D:=[Pz b.2]
noncomputable def Acr : Dw.Spec:=Pf [(0,(2,99))] .val UP UO (fun a=>Vq a.1 a.2.1 a.2.2) AgO AgN
theorem AfP : Pd Tryz.prog 95 Acr:=by
 refine fn2 3 (Pk (l:=[(28,PO)]) (by simp [PQ])) Tryz.func95<|?_
 rintro ⟨c1,f2,s3⟩
 unfold Vq
 refine A 18 ?_
 refine lP (E:=fun (s : (List Int) × Int) (g : Nat × Nat)=>[(0,.optr 8192 0 0 0),(2,.int .i64 s3),(4,.optr 4 g.1 0 0),(7,.osl 7 g.2 0 s.1.length),(8,.int .i64 s.2)]) (O:=fun s g=>[(4,some (g.1,⟨false,true,3,40,[.agg [.int .i64 f2.Params,.sl (f2.Slots.map Po),.sl (f2.Code.map Pn)]]⟩)),(7,some (g.2,⟨false,false,1,3,s.1.map Pa⟩)),(8192,some (0,⟨false,true,2,99,[.agg [.sl (c1.list.map eU8),.int .i64 c1.at_]]⟩))]) (body:=fun s=>Vr f2 s3 c1 s.1 s.2) (s:=(([] : List Int),0)) (_,_) ((hE ⟨rfl,r,r,r,r,trivial⟩ ⟨rfl,r,r,trivial⟩))<|?_
 rintro ⟨l4,k5⟩ ⟨v4x1,v7x1⟩ nn
 try dsimp only
 unfold Vr
 exact B

def AgK (b : Int × Mk) : D:=.int .u64 b.1
def AgJ (b : Int × Mk) : List D:=[Pz b.2]
noncomputable def ZH : Dw.Spec:=Pf [(0,(2,99))] .val QT QS (fun a=>TL a) AgK AgJ
theorem AbW : Pd Tryz.prog 76 ZH:=by
 refine fn2 1 (Pk (l:=[(28,PO)]) (by simp [PQ])) Tryz.func76<|?_
 intro a
 unfold TL
 exact B

def UN (a : Mk × OX × Int × (List Int)) : List D:=[Pz a.1,PM a.2.1,.int .i64 a.2.2.1,.sl (a.2.2.2.map Pa)]
def UM (ds : List D) : Mk × OX × Int × (List Int):=(Sl (ds.getD 0 .top),SS (ds.getD 1 .top),uI (ds.getD 2 .top),(uL uI) (ds.getD 3 .top))
theorem AfL (a : Mk × OX × Int × (List Int)) : UM (UN a) = a:=by simp [UM,UN,uI,PV (u:=uI) (en:=Pa) (fun _=>rfl)]
instance : Px UN UM:=⟨AfL⟩
def AgM (b : (List OZ) × Mk) : D:=.sl (b.1.map Pn)
def AgL (b : (List OZ) × Mk) : List D:=[Pz b.2]
noncomputable def Acq : Dw.Spec:=Pf [(0,(2,99))] (.row 5 50) UN UM (fun a=>Vo a.1 a.2.1 a.2.2.1 a.2.2.2) AgM AgL
theorem AfN : Pd Tryz.prog 75 Acq:=by
 refine fn2 4 (Pk (l:=[(28,PO),(95,Acr),(76,ZH)]) (by simp [PQ,AfP,AbW])) Tryz.func75<|?_
 rintro ⟨c1,f2,i3,params4⟩
 unfold Vo
 refine A 9 ?_
 refine bD fun r5 hr5=>?_
 refine A 15 ?_
 refine bD fun r6 hr6=>?_
 refine A 4 ?_
 refine bC (E:=fun (_s : Unit) (_g : Unit)=>[(9,.int .i64 r5.1)]) (O:=fun _ _=>[(8192,some (0,⟨false,true,2,99,[.agg [.sl (r6.2.list.map eU8),.int .i64 r6.2.at_]]⟩))]) (j:=fun _=>Yo r5 r6) ?_ ?_
 ·refine sC (E:=fun (s : Bool) (g : Nat)=>[(0,.optr 8192 0 0 0),(2,.int .i64 i3),(3,.sl (params4.map Pa)),(5,.optr 5 g 0 0),(9,.int .i64 r5.1),(10,.int .i64 (f2.Slots.length : Int)),(11,.int .i64 r6.1),(23,.bool s)]) (O:=fun _ g=>[(5,some (g,⟨false,true,3,40,[.agg [.int .i64 f2.Params,.sl (f2.Slots.map Po),.sl (f2.Code.map Pn)]]⟩)),(8192,some (0,⟨false,true,2,99,[.agg [.sl (r6.2.list.map eU8),.int .i64 r6.2.at_]]⟩))]) (j:=fun s=>RU r6 f2 r5 params4 i3 s) ?_ ?_
  ·exact B
  ·rintro x7 v5x1 nn
   try dsimp only
   unfold RU
   refine cD r ?_ ?_
   ·refine A 4 ?_
    refine bD fun r8 hr8=>?_
    refine A 3 ?_
    refine bS ([(OZ.mk 16 r8.1 r5.1 0 0)] : List OZ) Pn r r r (by simp) r r r<|?_
    exact B
   ·refine sC (E:=fun (s : Bool) (g : Nat)=>[(0,.optr 8192 0 0 0),(2,.int .i64 i3),(3,.sl (params4.map Pa)),(5,.optr 5 g 0 0),(9,.int .i64 r5.1),(10,.int .i64 (f2.Slots.length : Int)),(11,.int .i64 r6.1),(36,.bool s)]) (O:=fun _ g=>[(5,some (g,⟨false,true,3,40,[.agg [.int .i64 f2.Params,.sl (f2.Slots.map Po),.sl (f2.Code.map Pn)]]⟩)),(8192,some (0,⟨false,true,2,99,[.agg [.sl (r6.2.list.map eU8),.int .i64 r6.2.at_]]⟩))]) (j:=fun s=>RV r6 f2 r5 params4 i3 s) ?_ ?_
    ·exact B
    ·rintro x9 v5x2 nn
     try dsimp only
     unfold RV
     refine cD r ?_ ?_
     ·refine A 5 ?_
      refine bD fun r10 hr10=>?_
      refine A 2 ?_
      refine bS ([(OZ.mk 15 r5.1 r10.1 0 0)] : List OZ) Pn r r r (by simp) r r r<|?_
      exact B
     ·refine sC (E:=fun (s : Bool) (g : Nat)=>[(0,.optr 8192 0 0 0),(2,.int .i64 i3),(3,.sl (params4.map Pa)),(5,.optr 5 g 0 0),(9,.int .i64 r5.1),(10,.int .i64 (f2.Slots.length : Int)),(11,.int .i64 r6.1),(49,.bool s)]) (O:=fun _ g=>[(5,some (g,⟨false,true,3,40,[.agg [.int .i64 f2.Params,.sl (f2.Slots.map Po),.sl (f2.Code.map Pn)]]⟩)),(8192,some (0,⟨false,true,2,99,[.agg [.sl (r6.2.list.map eU8),.int .i64 r6.2.at_]]⟩))]) (j:=fun s=>RW r6 f2 r5 params4 i3 s) ?_ ?_
      ·exact B
      ·rintro x11 v5x3 nn
       try dsimp only
       unfold RW
       refine cD r ?_ ?_
       ·refine A 4 ?_
        refine bD fun r12 hr12=>?_
        refine A 9 ?_
        refine bD fun r13 hr13=>?_
        refine A 3 ?_
        refine bS ([(OZ.mk 17 r13.1 r12.1 0 0)] : List OZ) Pn r r r (by simp) r r r<|?_
        exact B
       ·refine A 7 ?_
        refine cD r ?_ ?_
        ·refine A 4 ?_
         refine bD fun r14 hr14=>?_
         refine A 2 ?_
         refine bS ([(OZ.mk 0 r5.1 0 0 r14.1)] : List OZ) Pn r r r (by simp) r r r<|?_
         exact B
        ·refine A 7 ?_
         refine cD r ?_ ?_
         ·refine A 3 ?_
          refine bD fun r15 hr15=>?_
          refine A 4 ?_
          refine bD fun r16 hr16=>?_
          refine A 2 ?_
          refine bD fun r17 hr17=>?_
          refine A 2 ?_
          refine bS ([(OZ.mk (IntKind.i64.wrap (2 + r15.1)) r5.1 r16.1 r17.1 0)] : List OZ) Pn r r r (by simp) r r r<|?_
          exact B
         ·refine A 7 ?_
          refine cD r ?_ ?_
          ·refine A 4 ?_
           refine bS ([(OZ.mk 14 r5.1 0 0 0)] : List OZ) Pn r r r (by simp) r r r<|?_
           exact B
          ·refine A 7 ?_
           refine cD r ?_ ?_
           ·refine A 2 ?_
            refine bS ([13,12,1] : List Int) Pa r r r (by simp) r r r<|?_
            refine A 1 ?_
            refine bD fun r18 hr18=>?_
            refine A 2 ?_
            refine bD fun x_e19 hx_e19=>?_
            refine A 3 ?_
            refine bS ([(OZ.mk x_e19 r5.1 0 0 0)] : List OZ) Pn r r r (by simp) r r r<|?_
            exact B
           ·refine sC (E:=fun (s : Bool) (g : Nat)=>[(0,.optr 8192 0 0 0),(2,.int .i64 i3),(3,.sl (params4.map Pa)),(5,.optr 5 g 0 0),(9,.int .i64 r5.1),(11,.int .i64 r6.1),(104,.bool s)]) (O:=fun _ g=>[(5,some (g,⟨false,true,3,40,[.agg [.int .i64 f2.Params,.sl (f2.Slots.map Po),.sl (f2.Code.map Pn)]]⟩)),(8192,some (0,⟨false,true,2,99,[.agg [.sl (r6.2.list.map eU8),.int .i64 r6.2.at_]]⟩))]) (j:=fun s=>RX r6 f2 r5 params4 i3 s) ?_ ?_
            ·exact B
            ·rintro x20 v5x4 nn
             try dsimp only
             unfold RX
             refine cD r ?_ ?_
             ·refine A 6 ?_
              refine bD fun r21 hr21=>?_
              refine A 2 ?_
              refine bS ([(OZ.mk 19 r5.1 r21.1 0 0)] : List OZ) Pn r r r (by simp) r r r<|?_
              exact B
             ·refine sC (E:=fun (s : Bool) (_g : Unit)=>[(0,.optr 8192 0 0 0),(2,.int .i64 i3),(3,.sl (params4.map Pa)),(9,.int .i64 r5.1),(119,.bool s)]) (O:=fun _ _=>[(8192,some (0,⟨false,true,2,99,[.agg [.sl (r6.2.list.map eU8),.int .i64 r6.2.at_]]⟩))]) (j:=fun s=>RY r6 params4 i3 r5 s) ?_ ?_
              ·exact B
              ·rintro x22 ⟨⟩ nn
               try dsimp only
               unfold RY
               refine cD r ?_ ?_
               ·refine A 10 ?_
                refine bD fun r23 hr23=>?_
                refine A 17 ?_
                refine lP (E:=fun (s : (List Int) × Int × (List OZ) × Int) (g : Nat)=>[(0,.optr 8192 0 0 0),(3,.sl (params4.map Pa)),(13,.int .i64 (IntKind.i64.wrap ((IntKind.i64.wrap (i3 + 1)) + r23.1))),(14,.osl 14 g 0 s.2.2.1.length),(15,.int .i64 s.2.2.2)]) (O:=fun s g=>[(14,some (g,⟨false,false,5,50,s.2.2.1.map Pn⟩)),(8192,some (0,⟨false,true,2,99,[.agg [.sl (s.1.map eU8),.int .i64 s.2.1]]⟩))]) (body:=fun s=>Vp params4 i3 r23 s.1 s.2.1 s.2.2.1 s.2.2.2) (s:=(r23.2.list,r23.2.at_,([] : List OZ),0)) _ ((hE ⟨rfl,r,r,r,r,trivial⟩ ⟨rfl,r,trivial⟩))<|?_
                rintro ⟨c24,c25,out26,a27⟩ v14x6 nn
                try dsimp only
                unfold Vp
                refine A 6 ?_
                refine bD fun x_x28 hx_x28=>?_
                refine A 5 ?_
                refine cD r ?_ ?_
                ·refine A 7 ?_
                 refine bD fun r29 hr29=>?_
                 refine A 4 ?_
                 refine cD r ?_ ?_
                 ·refine A 4 ?_
                  refine bD fun r30 hr30=>?_
                  refine A 2 ?_
                  refine bS ([(OZ.mk 18 a27 r30.1 0 0)] : List OZ) Pn r r r (by simp) r r r<|?_
                  exact B
                 ·exact B
                ·refine A 10 ?_
                 refine bS ([(OZ.mk 22 (IntKind.i64.wrap ((IntKind.i64.wrap (i3 + 1)) + r23.1)) 0 0 0)] : List OZ) Pn r r r (by simp) r r r<|?_
                 exact B
               ·exact B
 ·rintro ⟨⟩ ⟨⟩ nn
  try dsimp only
  unfold Yo
  refine A 4 ?_
  refine bS ([(OZ.mk 14 r5.1 0 0 0)] : List OZ) Pn r r r (by simp) r r r<|?_
  exact B

def SL (a : Mk × Int × (List Int) × Int) : List D:=[Pz a.1,.int .i64 a.2.1,.sl (a.2.2.1.map Pa),.int .i64 a.2.2.2]
def SK (ds : List D) : Mk × Int × (List Int) × Int:=(Sl (ds.getD 0 .top),uI (ds.getD 1 .top),(uL uI) (ds.getD 2 .top),uI (ds.getD 3 .top))
theorem AdR (a : Mk × Int × (List Int) × Int) : SK (SL a) = a:=by simp [SK,SL,uI,PV (u:=uI) (en:=Pa) (fun _=>rfl)]
instance : Px SL SK:=⟨AdR⟩
def AaE (b : OX × Mk) : D:=PM b.1
def Aeo (b : OX × Mk) : List D:=[Pz b.2]
noncomputable def AaF : Dw.Spec:=Pf [(0,(2,99))] .val SL SK (fun a=>SW a.1 a.2.1 a.2.2.1 a.2.2.2) AaE Aeo
theorem AdS : Pd Tryz.prog 51 AaF:=by
 refine fn2 4 (Pk (l:=[(74,AbV),(28,PO),(75,Acq),(76,ZH)]) (by simp [AfA,PQ,AfN,AbW])) Tryz.func51<|?_
 rintro ⟨c1,i2,params3,most4⟩
 unfold SW
 refine A 9 ?_
 refine bD fun x_x5 hx_x5=>?_
 refine A 3 ?_
 refine bD fun r6 hr6=>?_
 refine A 18 ?_
 refine lP (E:=fun (s : (List Int) × Int × (List OZ) × Int) (g : Nat × Nat × Nat × Nat)=>[(0,.optr 8192 0 0 0),(1,.int .i64 i2),(2,.sl (params3.map Pa)),(3,.int .i64 most4),(8,.optr 8 g.1 0 0),(9,.optr 9 g.2.1 0 0),(10,.osl 10 g.2.2.1 0 s.2.2.1.length),(11,.int .i64 s.2.2.2)]) (O:=fun s g=>[(8,some (g.1,⟨false,true,3,40,[.agg [.int .i64 0,.nils,.nils]]⟩)),(9,some (g.2.1,⟨false,true,3,40,[.agg [.int .i64 x_x5,.osl 21 g.2.2.2 0 r6.1.length,.nils]]⟩)),(10,some (g.2.2.1,⟨false,false,5,50,s.2.2.1.map Pn⟩)),(21,some (g.2.2.2,⟨false,false,2,54,r6.1.map Po⟩)),(8192,some (0,⟨false,true,2,99,[.agg [.sl (s.1.map eU8),.int .i64 s.2.1]]⟩))]) (body:=fun s=>Tn r6 most4 x_x5 i2 params3 s.1 s.2.1 s.2.2.1 s.2.2.2) (s:=(r6.2.list,r6.2.at_,([] : List OZ),0)) (_,_,_,_) ((hE ⟨rfl,r,r,r,r,r,r,r,trivial⟩ ⟨rfl,r,r,r,r,trivial⟩))<|?_
 rintro ⟨c7,c8,code9,s10⟩ ⟨v8x1,v9x1,v10x1,v21x1⟩ nn
 try dsimp only
 unfold Tn
 refine A 10 ?_
 refine cD r ?_ ?_
 ·refine A 7 ?_
  refine bD fun r11 hr11=>?_
  refine A 4 ?_
  refine cD r ?_ ?_
  ·refine A 4 ?_
   refine bD fun r12 hr12=>?_
   refine A 2 ?_
   refine bS ([(OZ.mk 16 s10 r12.1 0 0)] : List OZ) Pn r r r (by simp) r r r<|?_
   exact B
  ·exact B
 ·refine A 11 ?_
  refine bD fun r13 hr13=>?_
  refine A 5 ?_
  refine lP (E:=fun (s : (List Int) × Int × (List OZ) × (List Pm) × Int) (g : Nat × Nat × Nat)=>[(0,.optr 8192 0 0 0),(1,.int .i64 i2),(2,.sl (params3.map Pa)),(8,.optr 8 g.1 0 0),(9,.optr 9 g.2.1 0 0),(10,.osl 10 g.2.2 0 s.2.2.1.length),(12,.int .i64 s.2.2.2.2)]) (O:=fun s g=>[(8,some (g.1,⟨false,true,3,40,[.agg [.int .i64 0,.nils,.nils]]⟩)),(9,some (g.2.1,⟨false,true,3,40,[.agg [.int .i64 x_x5,.sl (s.2.2.2.1.map Po),.nils]]⟩)),(10,some (g.2.2,⟨false,false,5,50,s.2.2.1.map Pn⟩)),(8192,some (0,⟨false,true,2,99,[.agg [.sl (s.1.map eU8),.int .i64 s.2.1]]⟩))]) (body:=fun s=>Tp x_x5 i2 params3 s.1 s.2.1 s.2.2.1 s.2.2.2.1 s.2.2.2.2) (s:=(r13.2.list,r13.2.at_,code9,r6.1,r13.1)) (_,_,_) ((Abq [(21,some (_,⟨true,false,2,54,r6.1.map Po⟩))] ⟨⟨_,_,r,r,r⟩,trivial⟩ ⟨(PF r),(PF r),(PF r),(PF r),(PF r),(PF r),(PF r),trivial⟩ ⟨(.inl r),(.inr ⟨_,_,_,_,r,r,r,r,ZT r ⟨(UY r),(XT (l:=r6.1) (en:=Po) r r r (by simp)),(UY r),trivial⟩⟩),(.inl r),(.inl r),trivial⟩))<|?_
  rintro ⟨c14,c15,code16,f17,n18⟩ ⟨v8x2,v9x2,v10x2⟩ nn
  try dsimp only
  unfold Tp
  refine A 7 ?_
  refine cD r ?_ ?_
  ·refine A 11 ?_
   refine bD fun r19 hr19=>?_
   refine A 8 ?_
   refine bD fun r20 hr20=>?_
   refine A 10 ?_
   refine cD r ?_ ?_
   ·refine A 3 ?_
    refine bD fun r21 hr21=>?_
    refine A 2 ?_
    refine bS ([(OZ.mk 21 r21.1 (-1) 0 0)] : List OZ) Pn r r r (by simp) r r r<|?_
    exact B
   ·refine A 6 ?_
    refine cD r ?_ ?_
    ·refine A 3 ?_
     refine bD fun r22 hr22=>?_
     refine A 4 ?_
     refine cD r ?_ ?_
     ·refine A 3 ?_
      refine bS ([(OZ.mk 20 (-1) 0 0 0)] : List OZ) Pn r r r (by simp) r r r<|?_
      exact B
     ·exact B
    ·exact B
  ·refine A 12 ?_
   refine sC (E:=fun (_s : (List Int) × Int × Int × Int) (g : Nat × Nat × Nat × Nat)=>[(0,.optr 8192 0 0 0),(8,.optr 8 g.1 0 0),(9,.optr 9 g.2.1 0 0),(10,.osl 10 g.2.2.1 0 code16.length),(13,.optr 13 g.2.2.2 0 0)]) (O:=fun s g=>[(8,some (g.1,⟨false,true,3,40,[.agg [.int .i64 0,.nils,.nils]]⟩)),(9,some (g.2.1,⟨false,true,3,40,[.agg [.int .i64 x_x5,.sl (f17.map Po),.nils]]⟩)),(10,some (g.2.2.1,⟨false,false,5,50,code16.map Pn⟩)),(13,some (g.2.2.2,⟨false,true,5,50,[.agg [.int .i64 s.2.2.1,.int .i64 0,.int .i64 0,.int .i64 0,.int .u64 s.2.2.2]]⟩)),(8192,some (0,⟨false,true,2,99,[.agg [.sl (s.1.map eU8),.int .i64 s.2.1]]⟩))]) (j:=fun s=>QO code16 x_x5 f17 s.1 s.2.1 s.2.2.1 s.2.2.2) ?_ ?_
   ·exact B
   ·rintro ⟨c23,c24,end25,end26⟩ ⟨v8x3,v9x3,v10x3,v13x3⟩ nn
    try dsimp only
    unfold QO
    refine A 4 ?_
    refine bS ([(OZ.mk end25 0 0 0 end26)] : List OZ) Pn r r r (by simp) r r r<|cK fun hq=>aP (code16) (([(OZ.mk end25 0 0 0 end26)] : List OZ)) Pn r r r r r r r (by simp) (TH _ _ r) r r (by simp) (Sz _ _ r) (fun _=>r) r hq<|?_
    refine A 10 ?_
    refine lP (E:=fun (s : (List Int) × Int × (List OZ) × Int) (g : Nat × Nat × Nat)=>[(0,.optr 8192 0 0 0),(8,.optr 8 g.1 0 0),(9,.optr 9 g.2.1 0 0),(10,.osl 10 g.2.2 0 s.2.2.1.length),(14,.int .i64 s.2.2.2)]) (O:=fun s g=>[(8,some (g.1,⟨false,true,3,40,[.agg [.int .i64 0,.nils,.nils]]⟩)),(9,some (g.2.1,⟨false,true,3,40,[.agg [.int .i64 x_x5,.sl (f17.map Po),.nils]]⟩)),(10,some (g.2.2,⟨false,false,5,50,s.2.2.1.map Pn⟩)),(8192,some (0,⟨false,true,2,99,[.agg [.sl (s.1.map eU8),.int .i64 s.2.1]]⟩))]) (body:=fun s=>RL x_x5 f17 s.1 s.2.1 s.2.2.1 s.2.2.2) (s:=(c23,c24,code16 ++ ([(OZ.mk end25 0 0 0 end26)] : List OZ),0)) (_,_,_) ((hE ⟨rfl,r,r,r,r,trivial⟩ ⟨rfl,r,r,r,trivial⟩))<|?_
    rintro ⟨c29,c30,code31,k32⟩ ⟨v8x4,v9x4,v10x4⟩ nn
    try dsimp only
    unfold RL
    refine A 9 ?_
    refine cD r ?_ ?_
    ·refine A 8 ?_
     refine bD fun r33 hr33=>?_
     refine A 6 ?_
     refine sC (E:=fun (s : Int) (g : Nat × Nat × Nat)=>[(0,.optr 8192 0 0 0),(8,.optr 8 g.1 0 0),(9,.optr 9 g.2.1 0 0),(10,.osl 10 g.2.2 0 code31.length),(14,.int .i64 k32),(15,.int .i64 s)]) (O:=fun _ g=>[(8,some (g.1,⟨false,true,3,40,[.agg [.int .i64 0,.nils,.nils]]⟩)),(9,some (g.2.1,⟨false,true,3,40,[.agg [.int .i64 x_x5,.sl (f17.map Po),.nils]]⟩)),(10,some (g.2.2,⟨false,false,5,50,code31.map Pn⟩)),(8192,some (0,⟨false,true,2,99,[.agg [.sl (r33.2.list.map eU8),.int .i64 r33.2.at_]]⟩))]) (j:=fun s=>Qb k32 code31 r33 s) ?_ ?_
     ·exact B
     ·rintro to34 ⟨v8x5,v9x5,v10x5⟩ nn
      try dsimp only
      unfold Qb
      refine A 1 ?_
      refine sC (E:=fun (s : Bool) (g : Nat × Nat × Nat)=>[(0,.optr 8192 0 0 0),(8,.optr 8 g.1 0 0),(9,.optr 9 g.2.1 0 0),(10,.osl 10 g.2.2 0 code31.length),(14,.int .i64 k32),(15,.int .i64 to34),(107,.bool s)]) (O:=fun _ g=>[(8,some (g.1,⟨false,true,3,40,[.agg [.int .i64 0,.nils,.nils]]⟩)),(9,some (g.2.1,⟨false,true,3,40,[.agg [.int .i64 x_x5,.sl (f17.map Po),.nils]]⟩)),(10,some (g.2.2,⟨false,false,5,50,code31.map Pn⟩)),(8192,some (0,⟨false,true,2,99,[.agg [.sl (r33.2.list.map eU8),.int .i64 r33.2.at_]]⟩))]) (j:=fun s=>RM k32 code31 r33 to34 s) ?_ ?_
      ·exact B
      ·rintro x35 ⟨v8x6,v9x6,v10x6⟩ nn
       try dsimp only
       unfold RM
       refine cD r ?_ ?_
       ·refine A 6 ?_
        refine bD fun code_o38 hcode_o38=>sE (l:=code31) (en:=Pn) (q':=(OZ.mk code_o38.Op to34 code_o38.B code_o38.C code_o38.Imm)) r r r r r r r (by simp) hcode_o38 r r r r r<|?_
        exact B
       ·refine A 6 ?_
        refine bD fun code_e39 hcode_e39=>?_
        refine A 3 ?_
        refine Abk r ?_ ?_
        ·refine A 4 ?_
         refine bD fun code_e40 hcode_e40=>?_
         refine A 6 ?_
         refine cD r ?_ ?_
         ·refine A 6 ?_
          refine bD fun code_o41 hcode_o41=>sE (l:=code31) (en:=Pn) (q':=(OZ.mk code_o41.Op code_o41.A to34 code_o41.C code_o41.Imm)) r r r r r r r (by simp) hcode_o41 r r r r r<|?_
          exact B
         ·exact B
        ·exact B
    ·refine A 19 ?_
     refine UR (b:=((OX.mk x_x5 f17 code31),(Mk.mk c29 c30))) r ?_ r r ?_ (by first | rfl | (simp only [OV]; rfl) | (simp only [OW]; rfl) | (simp only [OV,OW]; rfl) | simp [AaE,PM])
     all_goals first|(simp;done)|(simp;omega)|rfl|(simp [PG,PE];done)

def Tm (a : Mk × Int × Int) : List D:=[Pz a.1,.int .i64 a.2.1,.int .i64 a.2.2]
def Tl (ds : List D) : Mk × Int × Int:=(Sl (ds.getD 0 .top),uI (ds.getD 1 .top),uI (ds.getD 2 .top))
theorem Aem (a : Mk × Int × Int) : Tl (Tm a) = a:=by simp [Tl,Tm,uI]
instance : Px Tm Tl:=⟨Aem⟩
def AeW (b : Pj × Mk) : D:=RE b.1
def AeV (b : Pj × Mk) : List D:=[Pz b.2]
noncomputable def AaS : Dw.Spec:=Pf [(0,(2,99))] .val Tm Tl (fun a=>Tw a.1 a.2.1 a.2.2) AeW AeV
theorem Aen : Pd Tryz.prog 27 AaS:=by
 refine fn2 3 (Pk (l:=[(28,PO),(51,AaF)]) (by simp [PQ,AdS])) Tryz.func27<|?_
 rintro ⟨c1,funcs2,most3⟩
 unfold Tw
 refine A 16 ?_
 refine bD fun r4 hr4=>?_
 refine A 5 ?_
 refine lP (E:=fun (s : (List Int) × Int × (List Int) × Int) (g : Nat × Nat)=>[(0,.optr 8192 0 0 0),(2,.int .i64 most3),(6,.optr 6 g.1 0 0),(7,.osl 7 g.2 0 s.2.2.1.length),(8,.int .i64 s.2.2.2)]) (O:=fun s g=>[(6,some (g.1,⟨false,true,1,26,[.agg [.nils]]⟩)),(7,some (g.2,⟨false,false,1,3,s.2.2.1.map Pa⟩)),(8192,some (0,⟨false,true,2,99,[.agg [.sl (s.1.map eU8),.int .i64 s.2.1]]⟩))]) (body:=fun s=>TJ most3 s.1 s.2.1 s.2.2.1 s.2.2.2) (s:=(r4.2.list,r4.2.at_,([0] : List Int),r4.1)) (_,_) ((hE ⟨rfl,r,r,r,r,trivial⟩ ⟨rfl,r,r,trivial⟩))<|?_
 rintro ⟨c5,c6,params7,n8⟩ ⟨v6x1,v7x1⟩ nn
 try dsimp only
 unfold TJ
 refine A 7 ?_
 refine cD r ?_ ?_
 ·exact B
 ·refine A 17 ?_
  refine lP (E:=fun (s : (List Int) × Int × (List OX) × Int × (List Int)) (g : Nat × Nat)=>[(0,.optr 8192 0 0 0),(2,.int .i64 most3),(6,.optr 6 g.1 0 0),(7,.sl (s.2.2.2.2.map Pa)),(9,.optr 9 g.2 0 0),(10,.int .i64 s.2.2.2.1)]) (O:=fun s g=>[(6,some (g.1,⟨false,true,1,26,[.agg [.nils]]⟩)),(9,some (g.2,⟨false,true,1,26,[.agg [.sl (s.2.2.1.map PM)]]⟩)),(8192,some (0,⟨false,true,2,99,[.agg [.sl (s.1.map eU8),.int .i64 s.2.1]]⟩))]) (body:=fun s=>TK most3 s.1 s.2.1 s.2.2.1 s.2.2.2.1 s.2.2.2.2) (s:=(c5,c6,[],0,params7)) (_,_) ((Abq [(7,some (_,⟨true,false,1,3,params7.map Pa⟩))] ⟨⟨_,_,r,r,r⟩,trivial⟩ ⟨(PF r),(PF r),(PF r),(Aad (XT (l:=params7) (en:=Pa) r r r (by simp))),(PF r),(PF r),trivial⟩ ⟨(.inl r),(.inr ⟨_,_,_,_,r,r,r,r,ZT r ⟨(XS PM r),trivial⟩⟩),(.inl r),trivial⟩))<|?_
  rintro ⟨c10,c11,p12,i13,params14⟩ ⟨v6x2,v9x2⟩ nn
  try dsimp only
  unfold TK
  refine A 9 ?_
  refine cD r ?_ ?_
  ·refine A 13 ?_
   refine bD fun r15 hr15=>?_
   refine A 1 ?_
   refine bS ([r15.1] : List OX) PM r r r (by simp) r r r<|?_
   refine A 16 ?_
   exact wf [11] fun _=>B
  ·exact B

def AlI (b : Bool) : D:=.bool b
noncomputable def Agf : Dw.Spec:=Pf [] .ground PY PX (fun a=>WV a) AlI noE
theorem Akm : Pd Tryz.prog 70 Agf:=by
 refine fn2 1 (Pv) Tryz.func70<|?_
 intro a
 unfold WV
 exact B

def Akp (b : Bool) : D:=.bool b
noncomputable def Aai : Dw.Spec:=Pf [] .ground PY PX (fun a=>Ro a) Akp noE
theorem AbL : Pd Tryz.prog 58 Aai:=by
 refine fn2 1 (Pv) Tryz.func58<|?_
 intro n1
 unfold Ro
 refine A 12 ?_
 refine lP (E:=fun (s : Int) (_g : Unit)=>[(0,.int .i64 n1),(3,.int .i64 s)]) (O:=fun _ _=>[]) (body:=fun s=>Wt n1 s) (s:=1) () ((hE ⟨rfl,r,trivial⟩ trivial))<|?_
 rintro k2 ⟨⟩ nn
 try dsimp only
 unfold Wt
 exact B

def TP (a : (List Pm)) : List D:=[.sl (a.map Po)]
def TO (ds : List D) : (List Pm):=(uL Yg) (ds.getD 0 .top)
theorem Ajk (a : (List Pm)) : TO (TP a) = a:=by simp [TO,TP,PV (u:=Yg) (en:=Po) AeK]
instance : Px TP TO:=⟨Ajk⟩
def Akr (b : Int) : D:=.int .i64 b
noncomputable def Ach : Dw.Spec:=Pf [] .ground TP TO (fun a=>Un a) Akr noE
theorem Aew : Pd Tryz.prog 45 Ach:=by
 refine fn2 1 (Pk (l:=[(70,Agf),(58,Aai)]) (by simp [Akm,AbL])) Tryz.func45<|?_
 intro s1
 unfold Un
 refine A 13 ?_
 refine cD r ?_ ?_
 ·exact B
 ·refine A 9 ?_
  refine lP (E:=fun (s : Int) (_g : Unit)=>[(0,.sl (s1.map Po)),(3,.int .i64 s)]) (O:=fun _ _=>[]) (body:=fun s=>Wu s1 s) (s:=0) () ((hE ⟨rfl,r,trivial⟩ trivial))<|?_
  rintro i2 ⟨⟩ nn
  try dsimp only
  unfold Wu
  exact B

def Akn (b : Int) : D:=.int .i64 b
noncomputable def Afh : Dw.Spec:=Pf [] .ground TP TO (fun a=>VO a) Akn noE
theorem Ajj : Pd Tryz.prog 53 Afh:=by
 refine fn2 1 (Pk (l:=[(45,Ach)]) (by simp [Aew])) Tryz.func53<|?_
 intro s1
 unfold VO
 refine A 14 ?_
 refine bD fun r2 hr2=>?_
 refine A 4 ?_
 refine cD r ?_ ?_
 ·exact B
 ·refine A 9 ?_
  refine lP (E:=fun (s : Int × Int) (_g : Unit)=>[(0,.sl (s1.map Po)),(3,.int .i64 s.1),(4,.int .i64 s.2)]) (O:=fun _ _=>[]) (body:=fun s=>Ws s1 s.1 s.2) (s:=(16,0)) () ((hE ⟨rfl,r,r,trivial⟩ trivial))<|?_
  rintro ⟨a3,i4⟩ ⟨⟩ nn
  try dsimp only
  unfold Ws
  exact B

def XV (a : Pj) : List D:=[RE a]
def XU (ds : List D) : Pj:=VV (ds.getD 0 .top)
theorem Ajp (a : Pj) : XU (XV a) = a:=by simp [XU,XV]
instance : Px XV XU:=⟨Ajp⟩
def Aky (b : Int) : D:=.int .i64 b
noncomputable def Acj : Dw.Spec:=Pf [] .ground XV XU (fun a=>Up a) Aky noE
theorem AeA : Pd Tryz.prog 29 Acj:=by
 refine fn2 1 (Pk (l:=[(53,Afh)]) (by simp [Ajj])) Tryz.func29<|?_
 intro p1
 unfold Up
 refine A 18 ?_
 refine lP (E:=fun (s : Int × Int) (g : Nat)=>[(1,.optr 1 g 0 0),(3,.int .i64 s.1),(4,.int .i64 s.2)]) (O:=fun _ g=>[(1,some (g,⟨false,true,1,26,[.agg [.sl (p1.Funcs.map PM)]]⟩))]) (body:=fun s=>Wx p1 s.1 s.2) (s:=(16,0)) _ ((hE ⟨rfl,r,r,trivial⟩ ⟨rfl,trivial⟩))<|?_
 rintro ⟨a2,i3⟩ v1x1 nn
 try dsimp only
 unfold Wx
 exact B

end Go.Proofs.YtnldnldmgceooaaGreatDoor
