/-
  Programs on typed data, and the proofs that the code does what they say; written by a program (dx.py).
-/
import Derived.Test.YtnldnldmgceooaaGreatDoorProg
import Derived.Test.YtnldnldmgceooaaGreatDoorDd
import Derived.KernelRfl
import Derived.Test.YtnldnldmgceooaaGreatDoorDxP
namespace Go.Proofs.YtnldnldmgceooaaGreatDoor
open Go Go.Dw Go.Proofs
set_option maxRecDepth 100000
set_option maxHeartbeats 4000000
open Go.Dw renaming QS → bD,PM → cK,AcP → bS,Aer → aP,Ub → sE,Aco → cD,AeL → xL,Aaf → hE,Aes → lP,AaV → sC,Ze → bC,rf → r
def UH (a : Ph × Int) : List D:=[Rv a.1,.int .i64 a.2]
def UG (ds : List D) : Ph × Int:=(Vy (ds.getD 0 .top),uI (ds.getD 1 .top))
theorem Alq (a : Ph × Int) : UG (UH a) = a:=by simp [UG,UH,uI]
instance : Px UH UG:=⟨Alq⟩
def Amk (b : Int) : D:=.int .i64 b
noncomputable def AdK : Dw.Spec:=Pe [] .ground UH UG (fun a=>XX a.1 a.2) Amk noE
theorem AfO : Pd Tryz.prog 68 AdK:=by
 refine fn2 2 (Pv) Tryz.func68<|?_
 rintro ⟨p1,i2⟩
 unfold XX
 refine A 17 ?_
 refine bD fun x_x3 hx_x3=>?_
 refine A 8 ?_
 refine lP (E:=fun (s : Int × Int) (g : Nat)=>[(2,.optr 2 g 0 0),(5,.int .i64 s.2),(13,.sl (x_x3.Code.map Pm)),(14,.int .i64 (x_x3.Code.length : Int)),(15,.int .i64 s.1)]) (O:=fun _ g=>[(2,some (g,⟨false,true,1,26,[.agg [.sl (p1.Funcs.map PN)]]⟩))]) (body:=fun s=>AaA x_x3 p1 s.1 s.2) (s:=(0,0)) _ ((hE ⟨rfl,r,r,r,r,trivial⟩ ⟨rfl,trivial⟩))<|?_
 rintro ⟨x4,n5⟩ v2x1 nn
 try dsimp only
 unfold AaA
 exact B

def PY (a : Int) : List D:=[.int .i64 a]
def PX (ds : List D) : Int:=uI (ds.getD 0 .top)
theorem AhW (a : Int) : PX (PY a) = a:=by simp [PX,PY,uI]
instance : Px PY PX:=⟨AhW⟩
def AiJ (b : Bool) : D:=.bool b
noncomputable def Yk : Dw.Spec:=Pe [] .ground PY PX (fun a=>Tl a) AiJ noE
theorem Aaw : Pd Tryz.prog 117 Yk:=by
 refine fn2 1 (Pv) Tryz.func117<|?_
 intro a
 unfold Tl
 exact B

def AiI (b : Bool) : D:=.bool b
noncomputable def Aeb : Dw.Spec:=Pe [] .ground PY PX (fun a=>XS a) AiI noE
theorem AhV : Pd Tryz.prog 118 Aeb:=by
 refine fn2 1 (Pv) Tryz.func118<|?_
 intro a
 unfold XS
 exact B

def TH (a : Int × Int) : List D:=[.int .i64 a.1,.int .i64 a.2]
def TG (ds : List D) : Int × Int:=(uI (ds.getD 0 .top),uI (ds.getD 1 .top))
theorem Ald (a : Int × Int) : TG (TH a) = a:=by simp [TG,TH,uI]
instance : Px TH TG:=⟨Ald⟩
def Amf (b : Int) : D:=.int .i64 b
noncomputable def AgM : Dw.Spec:=Pe [] .ground TH TG (fun a=>Adi a.1 a.2) Amf noE
theorem Ale : Pd Tryz.prog 120 AgM:=by
 refine fn2 2 (Pv) Tryz.func120<|?_
 intro a
 unfold Adi
 exact B

def Ahj (b : Int × Int) : D:=.tup [.int .i64 b.1,.int .i64 b.2]
noncomputable def ZW : Dw.Spec:=Pe [] .ground PY PX (fun a=>Ud a) Ahj noE
theorem AbZ : Pd Tryz.prog 119 ZW:=by
 refine fn2 1 (Pv) Tryz.func119<|?_
 intro a
 unfold Ud
 exact B

def Ame (b : Int × Int) : D:=.tup [.int .i64 b.1,.int .i64 b.2]
noncomputable def AdD : Dw.Spec:=Pe [] .ground TH TG (fun a=>Aae a.1 a.2) Ame noE
theorem AfD : Pd Tryz.prog 90 AdD:=by
 refine fn2 2 (Pk (l:=[(117,Yk),(118,Aeb),(120,AgM),(119,ZW)]) (by simp [Aaw,AhV,Ale,AbZ])) Tryz.func90<|?_
 rintro ⟨n1,align2⟩
 unfold Aae
 refine A 6 ?_
 refine sC (E:=fun (_s : Unit) (_g : Unit)=>[(0,.int .i64 n1),(1,.int .i64 align2)]) (O:=fun _ _=>[]) (j:=fun _=>Aav n1 align2) ?_ ?_
 ·exact B
 ·rintro ⟨⟩ ⟨⟩ nn
  try dsimp only
  unfold Aav
  exact B

def Alc (b : Int × Int) : D:=.tup [.int .i64 b.1,.int .i64 b.2]
noncomputable def Acw : Dw.Spec:=Pe [] .ground TH TG (fun a=>Yj a.1 a.2) Alc noE
theorem AeO : Pd Tryz.prog 91 Acw:=by
 refine fn2 2 (Pk (l:=[(117,Yk),(119,ZW)]) (by simp [Aaw,AbZ])) Tryz.func91<|?_
 rintro ⟨x1,y2⟩
 unfold Yj
 refine A 6 ?_
 refine sC (E:=fun (_s : Unit) (_g : Unit)=>[(0,.int .i64 x1),(1,.int .i64 y2)]) (O:=fun _ _=>[]) (j:=fun _=>ZE x1 y2) ?_ ?_
 ·exact B
 ·rintro ⟨⟩ ⟨⟩ nn
  try dsimp only
  unfold ZE
  exact B

def Yr (a : Pf × Int × Int) : List D:=[Qh a.1,.int .i64 a.2.1,.int .i64 a.2.2]
def Yq (ds : List D) : Pf × Int × Int:=(Aet (ds.getD 0 .top),uI (ds.getD 1 .top),uI (ds.getD 2 .top))
theorem AjY (a : Pf × Int × Int) : Yq (Yr a) = a:=by simp [Yq,Yr,uI]
instance : Px Yr Yq:=⟨AjY⟩
def AfP (b : Pf × Int) : D:=.tup [Qh b.1,.int .i64 b.2]
noncomputable def AfQ : Dw.Spec:=Pe [] .val Yr Yq (fun a=>Ach a.1 a.2.1 a.2.2) AfP noE
theorem AjZ : Pd Tryz.prog 92 AfQ:=by
 refine fn2 3 (Pk (l:=[(90,AdD),(91,Acw)]) (by simp [AfD,AeO])) Tryz.func92<|?_
 rintro ⟨y1,end2,align3⟩
 unfold Ach
 refine A 11 ?_
 refine bD fun r4 hr4=>?_
 refine A 8 ?_
 refine sC (E:=fun (s : Int) (g : Nat × Nat)=>[(3,.optr 3 g.1 0 0),(6,.optr 6 g.2 0 0),(8,.int .i64 r4.1),(9,.int .i64 s)]) (O:=fun _ g=>[(3,some (g.1,⟨false,true,3,32,[.agg [.int .i64 y1.Args,.int .i64 y1.Size,.sl (y1.Off.map Pa)]]⟩)),(6,some (g.2,⟨false,true,3,32,[.agg [.int .i64 0,.int .i64 0,.nils]]⟩))]) (j:=fun s=>WO y1 r4 s) ?_ ?_
 ·exact B
 ·rintro e5 ⟨v3x1,v6x1⟩ nn
  try dsimp only
  unfold WO
  refine A 7 ?_
  refine cD r ?_ ?_
  ·refine A 9 ?_
   refine Qw (b:=((Pf.mk 0 0 ([])),9)) r ?_ r r ?_ (by first | rfl | (simp only [OV]; rfl) | (simp only [OW]; rfl) | (simp only [OV,OW]; rfl) | simp [AfP,Qh]) (by decide)
   all_goals first|(simp;done)|(simp;omega)|rfl|(simp [PG,PE];done)
  ·exact B

def TN (a : Ph × Int × Int) : List D:=[Rv a.1,.int .i64 a.2.1,.int .i64 a.2.2]
def TM (ds : List D) : Ph × Int × Int:=(Vy (ds.getD 0 .top),uI (ds.getD 1 .top),uI (ds.getD 2 .top))
theorem Ahp (a : Ph × Int × Int) : TM (TN a) = a:=by simp [TM,TN,uI]
instance : Px TN TM:=⟨Ahp⟩
def Adj (b : Pf × Int) : D:=.tup [Qh b.1,.int .i64 b.2]
noncomputable def Adk : Dw.Spec:=Pe [] .val TN TM (fun a=>UI a.1 a.2.1 a.2.2) Adj noE
theorem Ahq : Pd Tryz.prog 67 Adk:=by
 refine fn2 3 (Pk (l:=[(68,AdK),(90,AdD),(91,Acw),(92,AfQ)]) (by simp [AfO,AfD,AeO,AjZ])) Tryz.func67<|?_
 rintro ⟨p1,i2,align3⟩
 unfold UI
 refine A 11 ?_
 refine bD fun r4 hr4=>?_
 refine A 19 ?_
 refine bD fun x_x5 hx_x5=>?_
 refine A 8 ?_
 refine lP (E:=fun (s : (List Int) × Int × Int) (g : Nat × Nat × Nat × Nat)=>[(2,.int .i64 align3),(6,.optr 6 g.1 0 0),(8,.optr 8 g.2.1 0 0),(9,.int .i64 s.2.2),(25,.sl (x_x5.Slots.map Pn)),(26,.int .i64 (x_x5.Slots.length : Int)),(27,.int .i64 s.2.1)]) (O:=fun s g=>[(6,some (g.1,⟨false,true,3,32,[.agg [.int .i64 0,.int .i64 0,.osl 2900 g.2.2.1 0 (([] : List Int).length)]]⟩)),(8,some (g.2.1,⟨false,true,3,32,[.agg [.int .i64 r4,.int .i64 0,.osl 2901 g.2.2.2 0 s.1.length]]⟩)),(2900,some (g.2.2.1,⟨false,false,1,3,([] : List Int).map Pa⟩)),(2901,some (g.2.2.2,⟨false,false,1,3,s.1.map Pa⟩))]) (body:=fun s=>Ws x_x5 r4 align3 s.1 s.2.1 s.2.2) (s:=(([] : List Int),0,r4)) (_,_,_,_) ((Oc (gg:=6) (off:=2) (tt:=2900) (s:=1) (tyy:=3) r r r r (Oc (gg:=8) (off:=2) (tt:=2901) (s:=1) (tyy:=3) r r r r (hE ⟨rfl,r,r,r,r,r,r,trivial⟩ ⟨rfl,r,r,r,trivial⟩))))<|?_
 rintro ⟨x6,x7,end8⟩ ⟨v6x1,v8x1,v2900x1,v2901x1⟩ nn
 try dsimp only
 unfold Ws
 refine A 6 ?_
 refine cD r ?_ ?_
 ·refine A 6 ?_
  refine bD fun x_x9 hx_x9=>?_
  refine A 11 ?_
  refine bD fun r10 hr10=>?_
  refine A 8 ?_
  refine sC (E:=fun (s : Int × Int) (g : Nat × Nat × Nat × Nat)=>[(2,.int .i64 align3),(6,.optr 6 g.1 0 0),(8,.optr 8 g.2.1 0 0),(9,.int .i64 s.2),(12,.int .i64 r10.1),(13,.int .i64 s.1),(25,.sl (x_x5.Slots.map Pn)),(26,.int .i64 (x_x5.Slots.length : Int)),(27,.int .i64 x7)]) (O:=fun _ g=>[(6,some (g.1,⟨false,true,3,32,[.agg [.int .i64 0,.int .i64 0,.osl 2900 g.2.2.1 0 (([] : List Int).length)]]⟩)),(8,some (g.2.1,⟨false,true,3,32,[.agg [.int .i64 r4,.int .i64 0,.osl 2901 g.2.2.2 0 x6.length]]⟩)),(2900,some (g.2.2.1,⟨false,false,1,3,([] : List Int).map Pa⟩)),(2901,some (g.2.2.2,⟨false,false,1,3,x6.map Pa⟩))]) (j:=fun s=>Us x6 r10 x7 s.1 s.2) ?_ ?_
  ·exact B
  ·rintro ⟨e11,end12⟩ ⟨v6x2,v8x2,v2900x2,v2901x2⟩ nn
   try dsimp only
   unfold Us
   refine A 7 ?_
   refine cD r ?_ ?_
   ·refine A 14 ?_
    refine Qw (b:=((Pf.mk 0 0 ([])),9)) r ?_ r r ?_ (by first | rfl | (simp only [OV]; rfl) | (simp only [OW]; rfl) | (simp only [OV,OW]; rfl) | simp [Adj,Qh]) (by decide)
    all_goals first|(simp;done)|(simp;omega)|rfl|(simp [PG,PE];done)
   ·refine A 17 ?_
    exact xL (s:=(x6 ++ ([r10.1] : List Int),IntKind.i64.wrap (x7 + 1),end12)) (_,_,_,_) ((Ahl (E1:=[(2,.int .i64 align3),(6,.optr 6 _ 0 0),(8,.optr 8 _ 0 0),(9,.int .i64 end12),(25,.sl (x_x5.Slots.map Pn)),(26,.int .i64 (x_x5.Slots.length : Int)),(27,.int .i64 (IntKind.i64.wrap (x7 + 1)))]) (O1:=[(6,some (_,⟨false,true,3,32,[.agg [.int .i64 0,.int .i64 0,.osl 2900 _ 0 (([] : List Int).length)]]⟩)),(8,some (_,⟨false,true,3,32,[.agg [.int .i64 r4,.int .i64 0,.osl 54 _ 0 ((x6 ++ ([r10.1] : List Int)).length)]]⟩)),(54,some (_,⟨false,false,1,3,(x6 ++ ([r10.1] : List Int)).map Pa⟩)),(2900,some (_,⟨false,false,1,3,([] : List Int).map Pa⟩))]) (hE ⟨rfl,r,r,r,r,r,r,trivial⟩ ⟨rfl,r,r,r,trivial⟩) (fun _=>Ahk (fun g=>bif Nat.beq g 54 then 2901 else g) (by rfl) (hE ⟨rfl,r,r,r,r,r,r,trivial⟩ ⟨rfl,r,r,r,trivial⟩))))
 ·exact B

def QA (a : Pp × Int) : List D:=[Tx a.1,.int .i64 a.2]
def Qz (ds : List D) : Pp × Int:=(TE (ds.getD 0 .top),uI (ds.getD 1 .top))
theorem AbL (a : Pp × Int) : Qz (QA a) = a:=by simp [Qz,QA,uI]
instance : Px QA Qz:=⟨AbL⟩
def Acf (b : Pj) : D:=Qc b
noncomputable def TU : Dw.Spec:=Pe [] .ground QA Qz (fun a=>PZ a.1 a.2) Acf noE
theorem WN : Pd Tryz.prog 86 TU:=by
 refine fn2 2 (Pv) Tryz.func86<|?_
 intro a
 unfold PZ
 exact B

def Ur (a : Pj) : List D:=[Qc a]
def Uq (ds : List D) : Pj:=Tp (ds.getD 0 .top)
theorem AhX (a : Pj) : Uq (Ur a) = a:=by simp [Uq,Ur]
instance : Px Ur Uq:=⟨AhX⟩
def AiL (b : Bool) : D:=.bool b
noncomputable def Abi : Dw.Spec:=Pe [] .ground Ur Uq (fun a=>Up a) AiL noE
theorem Adh : Pd Tryz.prog 114 Abi:=by
 refine fn2 1 (Pk (l:=[(117,Yk)]) (by simp [Aaw])) Tryz.func114<|?_
 intro a
 unfold Up
 exact B

def VC (a : Pj × Int) : List D:=[Qc a.1,.int .i64 a.2]
def VB (ds : List D) : Pj × Int:=(Tp (ds.getD 0 .top),uI (ds.getD 1 .top))
theorem Ahg (a : Pj × Int) : VB (VC a) = a:=by simp [VB,VC,uI]
instance : Px VC VB:=⟨Ahg⟩
def AhU (b : Bool) : D:=.bool b
noncomputable def Adg : Dw.Spec:=Pe [] .ground VC VB (fun a=>WM a.1 a.2) AhU noE
theorem Ahh : Pd Tryz.prog 93 Adg:=by
 refine fn2 2 (Pk (l:=[(114,Abi)]) (by simp [Adh])) Tryz.func93<|?_
 intro a
 unfold WM
 exact B

def AcV (b : Bool) : D:=.bool b
noncomputable def Zf : Dw.Spec:=Pe [] .ground QA Qz (fun a=>RQ a.1 a.2) AcV noE
theorem Acz : Pd Tryz.prog 69 Zf:=by
 refine fn2 2 (Pk (l:=[(86,TU),(93,Adg)]) (by simp [WN,Ahh])) Tryz.func69<|?_
 intro a
 unfold RQ
 exact B

def Sh (a : Pp) : List D:=[Tx a]
def Sg (ds : List D) : Pp:=TE (ds.getD 0 .top)
theorem AcY (a : Pp) : Sg (Sh a) = a:=by simp [Sg,Sh]
instance : Px Sh Sg:=⟨AcY⟩
def AdH (b : Int) : D:=.int .i64 b
noncomputable def Vr : Dw.Spec:=Pe [] .ground Sh Sg (fun a=>Rr a) AdH noE
theorem Zg : Pd Tryz.prog 42 Vr:=by
 refine fn2 1 (Pk (l:=[(67,Adk),(68,AdK),(69,Zf)]) (by simp [Ahq,AfO,Acz])) Tryz.func42<|?_
 intro s1
 unfold Rr
 refine A 14 ?_
 refine bD fun r2 hr2=>?_
 refine A 16 ?_
 refine cD r ?_ ?_
 ·exact B
 ·refine A 2 ?_
  refine sC (E:=fun (_s : Unit) (g : Nat × Nat)=>[(1,.optr 1 g.1 0 0),(3,.optr 3 g.2 0 0)]) (O:=fun _ g=>[(1,some (g.1,⟨false,true,9,78,[.agg [.sl (s1.p.Funcs.map PN),.int .i64 s1.i,.int .i64 s1.align,.int .i64 s1.f.Params,.sl (s1.f.Slots.map Pn),.sl (s1.f.Code.map Pm),.int .i64 s1.y.Args,.int .i64 s1.y.Size,.sl (s1.y.Off.map Pa)]]⟩)),(3,some (g.2,⟨false,true,3,32,[.agg [.int .i64 r2.1.Args,.int .i64 r2.1.Size,.sl (r2.1.Off.map Pa)]]⟩))]) (j:=fun _=>SF s1 r2) ?_ ?_
  ·exact B
  ·rintro ⟨⟩ ⟨v1x1,v3x1⟩ nn
   try dsimp only
   unfold SF
   refine A 11 ?_
   refine lP (E:=fun (s : Int) (g : Nat × Nat)=>[(1,.optr 1 g.1 0 0),(3,.optr 3 g.2 0 0),(42,.int .i64 (s1.f.Slots.length : Int)),(43,.int .i64 s)]) (O:=fun _ g=>[(1,some (g.1,⟨false,true,9,78,[.agg [.sl (s1.p.Funcs.map PN),.int .i64 s1.i,.int .i64 s1.align,.int .i64 s1.f.Params,.sl (s1.f.Slots.map Pn),.sl (s1.f.Code.map Pm),.int .i64 s1.y.Args,.int .i64 s1.y.Size,.sl (s1.y.Off.map Pa)]]⟩)),(3,some (g.2,⟨false,true,3,32,[.agg [.int .i64 r2.1.Args,.int .i64 r2.1.Size,.sl (r2.1.Off.map Pa)]]⟩))]) (body:=fun s=>SE s1 r2 s) (s:=0) (_,_) ((hE ⟨rfl,r,r,r,trivial⟩ ⟨rfl,r,trivial⟩))<|?_
   rintro x4 ⟨v1x2,v3x2⟩ nn
   try dsimp only
   unfold SE
   exact B

def Wq (a : Ph × Int × Int × Pf) : List D:=[Rv a.1,.int .i64 a.2.1,.int .i64 a.2.2.1,Qh a.2.2.2]
def Wp (ds : List D) : Ph × Int × Int × Pf:=(Vy (ds.getD 0 .top),uI (ds.getD 1 .top),uI (ds.getD 2 .top),Aet (ds.getD 3 .top))
theorem Aia (a : Ph × Int × Int × Pf) : Wp (Wq a) = a:=by simp [Wp,Wq,uI]
instance : Px Wq Wp:=⟨Aia⟩
def AiT (b : Int) : D:=.int .i64 b
noncomputable def Aee : Dw.Spec:=Pe [] .ground Wq Wp (fun a=>VT a.1 a.2.1 a.2.2.1 a.2.2.2) AiT noE
theorem Aib : Pd Tryz.prog 20 Aee:=by
 refine fn2 4 (Pk (l:=[(42,Vr)]) (by simp [Zg])) Tryz.func20<|?_
 intro a
 unfold VT
 exact B

def Aaz (_a : Unit) : List D:=[]
def Aay (_ds : List D) : Unit:=()
theorem AiP (a : Unit) : Aay (Aaz a) = a:=rfl
instance : Px Aaz Aay:=⟨AiP⟩
def AjV (b : Bool) : D:=.bool b
noncomputable def AeQ : Dw.Spec:=Pe [] .ground Aaz Aay (fun _a=>Zm) AjV noE
theorem AiQ : Pd Tryz.prog 8 AeQ:=by
 refine fn2 0 (Pk (l:=[(20,Aee)]) (by simp [Aib])) Tryz.func8<|?_
 intro _
 unfold Zm
 refine A 8 ?_
 refine bS ([(OZ.mk 23 0 0 0 0)] : List OZ) Pm r r r (by simp) r r r<|?_
 refine A 1 ?_
 refine bS ([(OX.mk 0 ([]) ([(OZ.mk 23 0 0 0 0)] : List OZ))] : List OX) PN r r r (by simp) r (by simp [Xo,PN]) r<|?_
 exact B

def Aau (a : (List Int) × Int) : List D:=[.sl (a.1.map eU8),.int .i64 a.2]
def Aat (ds : List D) : (List Int) × Int:=((uL uI) (ds.getD 0 .top),uI (ds.getD 1 .top))
theorem Ama (a : (List Int) × Int) : Aat (Aau a) = a:=by simp [Aat,Aau,uI,PV (u:=uI) (en:=eU8) (fun _=>rfl)]
instance : Px Aau Aat:=⟨Ama⟩
def AmR (b : Mk) : D:=Pz b
noncomputable def AhT : Dw.Spec:=Pe [] (.ptr 2 99) Aau Aat (fun a=>Acv a.1 a.2) AmR noE
theorem Amb : Pd Tryz.prog 26 AhT:=by
 refine fn2 2 (Pv) Tryz.func26<|?_
 intro a
 unfold Acv
 exact B

def QP (a : Mk) : List D:=[Pz a]
def QO (ds : List D) : Mk:=Sa (ds.getD 0 .top)
theorem Afp (a : Mk) : QO (QP a) = a:=by simp [QO,QP]
instance : Px QP QO:=⟨Afp⟩
def Ago (b : Bool × Mk) : D:=.bool b.1
def Agn (b : Bool × Mk) : List D:=[Pz b.2]
noncomputable def AbT : Dw.Spec:=Pe [(0,(2,99))] .val QP QO (fun a=>Xn a) Ago Agn
theorem Afq : Pd Tryz.prog 52 AbT:=by
 refine fn2 1 (Pv) Tryz.func52<|?_
 intro a
 unfold Xn
 exact B

def SK (a : Mk × Int) : List D:=[Pz a.1,.int .i64 a.2]
def SJ (ds : List D) : Mk × Int:=(Sa (ds.getD 0 .top),uI (ds.getD 1 .top))
theorem Aft (a : Mk × Int) : SJ (SK a) = a:=by simp [SJ,SK,uI]
instance : Px SK SJ:=⟨Aft⟩
def Agr (b : Int × Mk) : D:=.int .i64 b.1
def Agq (b : Int × Mk) : List D:=[Pz b.2]
noncomputable def PL : Dw.Spec:=Pe [(0,(2,99))] .val SK SJ (fun a=>Pc a.1 a.2) Agr Agq
theorem PO : Pd Tryz.prog 28 PL:=by
 refine fn2 2 (Pk (l:=[(52,AbT)]) (by simp [Afq])) Tryz.func28<|?_
 rintro ⟨c1,n2⟩
 unfold Pc
 refine A 5 ?_
 refine sC (E:=fun (_s : (List Int) × Int) (_g : Unit)=>[(0,.optr 8192 0 0 0),(1,.int .i64 n2)]) (O:=fun s _=>[(8192,some (0,⟨false,true,2,99,[.agg [.sl (s.1.map eU8),.int .i64 s.2]]⟩))]) (j:=fun s=>UZ n2 s.1 s.2) ?_ ?_
 ·exact B
 ·rintro ⟨c3,c4⟩ ⟨⟩ nn
  try dsimp only
  unfold UZ
  refine A 10 ?_
  refine bD fun x_x6 hx_x6=>?_
  refine A 15 ?_
  refine Xi (i:=0) (es':=[.agg [.sl (c3.map eU8),.int .i64 (IntKind.i64.wrap (c4 + 1))]]) r r r r r r r (by first | trivial | (simp; done) | (simp; omega)) r r r r r r<|?_
  exact B

def Agt (b : Po × Mk) : D:=Pn b.1
def Ags (b : Po × Mk) : List D:=[Pz b.2]
noncomputable def AbV : Dw.Spec:=Pe [(0,(2,99))] .val QP QO (fun a=>Va a) Agt Ags
theorem Afu : Pd Tryz.prog 94 AbV:=by
 refine fn2 1 (Pk (l:=[(28,PL)]) (by simp [PO])) Tryz.func94<|?_
 intro c1
 unfold Va
 refine A 7 ?_
 refine bS ([8,4,8,1,2,16,8] : List Int) Pa r r r (by simp) r r r<|?_
 refine A 1 ?_
 refine bD fun r2 hr2=>?_
 refine A 2 ?_
 refine bD fun x_e3 hx_e3=>?_
 refine A 1 ?_
 refine bS ([8,4,1,8,16,2,32,64] : List Int) Pa r r r (by simp) r r r<|?_
 exact B

def Afw (b : (List Po) × Mk) : D:=.sl (b.1.map Pn)
def Afv (b : (List Po) × Mk) : List D:=[Pz b.2]
noncomputable def Aby : Dw.Spec:=Pe [(0,(2,99))] (.row 2 54) SK SJ (fun a=>Uo a.1 a.2) Afw Afv
theorem Afm : Pd Tryz.prog 74 Aby:=by
 refine fn2 2 (Pk (l:=[(28,PL),(94,AbV)]) (by simp [PO,Afu])) Tryz.func74<|?_
 rintro ⟨c1,most2⟩
 unfold Uo
 refine A 16 ?_
 refine bD fun r3 hr3=>?_
 refine A 5 ?_
 refine lP (E:=fun (s : (List Int) × Int × (List Po) × Int) (g : Nat)=>[(0,.optr 8192 0 0 0),(5,.osl 5 g 0 s.2.2.1.length),(6,.int .i64 s.2.2.2)]) (O:=fun s g=>[(5,some (g,⟨false,false,2,54,s.2.2.1.map Pn⟩)),(8192,some (0,⟨false,true,2,99,[.agg [.sl (s.1.map eU8),.int .i64 s.2.1]]⟩))]) (body:=fun s=>Ux s.1 s.2.1 s.2.2.1 s.2.2.2) (s:=(r3.2.list,r3.2.at_,([] : List Po),r3.1)) _ ((hE ⟨rfl,r,r,trivial⟩ ⟨rfl,r,trivial⟩))<|?_
 rintro ⟨c4,c5,l6,n7⟩ v5x1 nn
 try dsimp only
 unfold Ux
 refine A 7 ?_
 refine cD r ?_ ?_
 ·refine A 7 ?_
  refine bD fun r8 hr8=>?_
  refine A 1 ?_
  refine bS ([r8.1] : List Po) Pn r r r (by simp) r r r<|?_
  exact B
 ·exact B

def UB (a : Mk × OX × Int) : List D:=[Pz a.1,PN a.2.1,.int .i64 a.2.2]
def UA (ds : List D) : Mk × OX × Int:=(Sa (ds.getD 0 .top),SI (ds.getD 1 .top),uI (ds.getD 2 .top))
theorem Afz (a : Mk × OX × Int) : UA (UB a) = a:=by simp [UA,UB,uI]
instance : Px UB UA:=⟨Afz⟩
def Agz (b : Int × Mk) : D:=.int .i64 b.1
def Agy (b : Int × Mk) : List D:=[Pz b.2]
noncomputable def AbX : Dw.Spec:=Pe [(0,(2,99))] .val UB UA (fun a=>Vd a.1 a.2.1 a.2.2) Agz Agy
theorem AfA : Pd Tryz.prog 95 AbX:=by
 refine fn2 3 (Pk (l:=[(28,PL)]) (by simp [PO])) Tryz.func95<|?_
 rintro ⟨c1,f2,s3⟩
 unfold Vd
 refine A 18 ?_
 refine lP (E:=fun (s : (List Int) × Int) (g : Nat × Nat)=>[(0,.optr 8192 0 0 0),(2,.int .i64 s3),(4,.optr 4 g.1 0 0),(7,.osl 7 g.2 0 s.1.length),(8,.int .i64 s.2)]) (O:=fun s g=>[(4,some (g.1,⟨false,true,3,40,[.agg [.int .i64 f2.Params,.sl (f2.Slots.map Pn),.sl (f2.Code.map Pm)]]⟩)),(7,some (g.2,⟨false,false,1,3,s.1.map Pa⟩)),(8192,some (0,⟨false,true,2,99,[.agg [.sl (c1.list.map eU8),.int .i64 c1.at_]]⟩))]) (body:=fun s=>Ve f2 s3 c1 s.1 s.2) (s:=(([] : List Int),0)) (_,_) ((hE ⟨rfl,r,r,r,r,trivial⟩ ⟨rfl,r,r,trivial⟩))<|?_
 rintro ⟨l4,k5⟩ ⟨v4x1,v7x1⟩ nn
 try dsimp only
 unfold Ve
 exact B

def Agv (b : Int × Mk) : D:=.int .u64 b.1
def Agu (b : Int × Mk) : List D:=[Pz b.2]
noncomputable def Zi : Dw.Spec:=Pe [(0,(2,99))] .val QP QO (fun a=>Tv a) Agv Agu
theorem Abz : Pd Tryz.prog 76 Zi:=by
 refine fn2 1 (Pk (l:=[(28,PL)]) (by simp [PO])) Tryz.func76<|?_
 intro a
 unfold Tv
 exact B

def Uz (a : Mk × OX × Int × (List Int)) : List D:=[Pz a.1,PN a.2.1,.int .i64 a.2.2.1,.sl (a.2.2.2.map Pa)]
def Uy (ds : List D) : Mk × OX × Int × (List Int):=(Sa (ds.getD 0 .top),SI (ds.getD 1 .top),uI (ds.getD 2 .top),(uL uI) (ds.getD 3 .top))
theorem Afx (a : Mk × OX × Int × (List Int)) : Uy (Uz a) = a:=by simp [Uy,Uz,uI,PV (u:=uI) (en:=Pa) (fun _=>rfl)]
instance : Px Uz Uy:=⟨Afx⟩
def Agx (b : (List OZ) × Mk) : D:=.sl (b.1.map Pm)
def Agw (b : (List OZ) × Mk) : List D:=[Pz b.2]
noncomputable def AbW : Dw.Spec:=Pe [(0,(2,99))] (.row 5 50) Uz Uy (fun a=>Vb a.1 a.2.1 a.2.2.1 a.2.2.2) Agx Agw
theorem Afy : Pd Tryz.prog 75 AbW:=by
 refine fn2 4 (Pk (l:=[(28,PL),(95,AbX),(76,Zi)]) (by simp [PO,AfA,Abz])) Tryz.func75<|?_
 rintro ⟨c1,f2,i3,params4⟩
 unfold Vb
 refine A 9 ?_
 refine bD fun r5 hr5=>?_
 refine A 15 ?_
 refine bD fun r6 hr6=>?_
 refine A 4 ?_
 refine bC (E:=fun (_s : Unit) (_g : Unit)=>[(9,.int .i64 r5.1)]) (O:=fun _ _=>[(8192,some (0,⟨false,true,2,99,[.agg [.sl (r6.2.list.map eU8),.int .i64 r6.2.at_]]⟩))]) (j:=fun _=>XR r5 r6) ?_ ?_
 ·refine sC (E:=fun (s : Bool) (g : Nat)=>[(0,.optr 8192 0 0 0),(2,.int .i64 i3),(3,.sl (params4.map Pa)),(5,.optr 5 g 0 0),(9,.int .i64 r5.1),(10,.int .i64 (f2.Slots.length : Int)),(11,.int .i64 r6.1),(23,.bool s)]) (O:=fun _ g=>[(5,some (g,⟨false,true,3,40,[.agg [.int .i64 f2.Params,.sl (f2.Slots.map Pn),.sl (f2.Code.map Pm)]]⟩)),(8192,some (0,⟨false,true,2,99,[.agg [.sl (r6.2.list.map eU8),.int .i64 r6.2.at_]]⟩))]) (j:=fun s=>RK r6 f2 r5 params4 i3 s) ?_ ?_
  ·exact B
  ·rintro x7 v5x1 nn
   try dsimp only
   unfold RK
   refine cD r ?_ ?_
   ·refine A 4 ?_
    refine bD fun r8 hr8=>?_
    refine A 3 ?_
    refine bS ([(OZ.mk 16 r8.1 r5.1 0 0)] : List OZ) Pm r r r (by simp) r r r<|?_
    exact B
   ·refine sC (E:=fun (s : Bool) (g : Nat)=>[(0,.optr 8192 0 0 0),(2,.int .i64 i3),(3,.sl (params4.map Pa)),(5,.optr 5 g 0 0),(9,.int .i64 r5.1),(10,.int .i64 (f2.Slots.length : Int)),(11,.int .i64 r6.1),(36,.bool s)]) (O:=fun _ g=>[(5,some (g,⟨false,true,3,40,[.agg [.int .i64 f2.Params,.sl (f2.Slots.map Pn),.sl (f2.Code.map Pm)]]⟩)),(8192,some (0,⟨false,true,2,99,[.agg [.sl (r6.2.list.map eU8),.int .i64 r6.2.at_]]⟩))]) (j:=fun s=>RL r6 f2 r5 params4 i3 s) ?_ ?_
    ·exact B
    ·rintro x9 v5x2 nn
     try dsimp only
     unfold RL
     refine cD r ?_ ?_
     ·refine A 5 ?_
      refine bD fun r10 hr10=>?_
      refine A 2 ?_
      refine bS ([(OZ.mk 15 r5.1 r10.1 0 0)] : List OZ) Pm r r r (by simp) r r r<|?_
      exact B
     ·refine sC (E:=fun (s : Bool) (g : Nat)=>[(0,.optr 8192 0 0 0),(2,.int .i64 i3),(3,.sl (params4.map Pa)),(5,.optr 5 g 0 0),(9,.int .i64 r5.1),(10,.int .i64 (f2.Slots.length : Int)),(11,.int .i64 r6.1),(49,.bool s)]) (O:=fun _ g=>[(5,some (g,⟨false,true,3,40,[.agg [.int .i64 f2.Params,.sl (f2.Slots.map Pn),.sl (f2.Code.map Pm)]]⟩)),(8192,some (0,⟨false,true,2,99,[.agg [.sl (r6.2.list.map eU8),.int .i64 r6.2.at_]]⟩))]) (j:=fun s=>RM r6 f2 r5 params4 i3 s) ?_ ?_
      ·exact B
      ·rintro x11 v5x3 nn
       try dsimp only
       unfold RM
       refine cD r ?_ ?_
       ·refine A 4 ?_
        refine bD fun r12 hr12=>?_
        refine A 9 ?_
        refine bD fun r13 hr13=>?_
        refine A 3 ?_
        refine bS ([(OZ.mk 17 r13.1 r12.1 0 0)] : List OZ) Pm r r r (by simp) r r r<|?_
        exact B
       ·refine A 7 ?_
        refine cD r ?_ ?_
        ·refine A 4 ?_
         refine bD fun r14 hr14=>?_
         refine A 2 ?_
         refine bS ([(OZ.mk 0 r5.1 0 0 r14.1)] : List OZ) Pm r r r (by simp) r r r<|?_
         exact B
        ·refine A 7 ?_
         refine cD r ?_ ?_
         ·refine A 3 ?_
          refine bD fun r15 hr15=>?_
          refine A 4 ?_
          refine bD fun r16 hr16=>?_
          refine A 2 ?_
          refine bD fun r17 hr17=>?_
          refine A 2 ?_
          refine bS ([(OZ.mk (IntKind.i64.wrap (2 + r15.1)) r5.1 r16.1 r17.1 0)] : List OZ) Pm r r r (by simp) r r r<|?_
          exact B
         ·refine A 7 ?_
          refine cD r ?_ ?_
          ·refine A 4 ?_
           refine bS ([(OZ.mk 14 r5.1 0 0 0)] : List OZ) Pm r r r (by simp) r r r<|?_
           exact B
          ·refine A 7 ?_
           refine cD r ?_ ?_
           ·refine A 2 ?_
            refine bS ([13,12,1] : List Int) Pa r r r (by simp) r r r<|?_
            refine A 1 ?_
            refine bD fun r18 hr18=>?_
            refine A 2 ?_
            refine bD fun x_e19 hx_e19=>?_
            refine A 3 ?_
            refine bS ([(OZ.mk x_e19 r5.1 0 0 0)] : List OZ) Pm r r r (by simp) r r r<|?_
            exact B
           ·refine sC (E:=fun (s : Bool) (g : Nat)=>[(0,.optr 8192 0 0 0),(2,.int .i64 i3),(3,.sl (params4.map Pa)),(5,.optr 5 g 0 0),(9,.int .i64 r5.1),(11,.int .i64 r6.1),(104,.bool s)]) (O:=fun _ g=>[(5,some (g,⟨false,true,3,40,[.agg [.int .i64 f2.Params,.sl (f2.Slots.map Pn),.sl (f2.Code.map Pm)]]⟩)),(8192,some (0,⟨false,true,2,99,[.agg [.sl (r6.2.list.map eU8),.int .i64 r6.2.at_]]⟩))]) (j:=fun s=>RN r6 f2 r5 params4 i3 s) ?_ ?_
            ·exact B
            ·rintro x20 v5x4 nn
             try dsimp only
             unfold RN
             refine cD r ?_ ?_
             ·refine A 6 ?_
              refine bD fun r21 hr21=>?_
              refine A 2 ?_
              refine bS ([(OZ.mk 19 r5.1 r21.1 0 0)] : List OZ) Pm r r r (by simp) r r r<|?_
              exact B
             ·refine sC (E:=fun (s : Bool) (_g : Unit)=>[(0,.optr 8192 0 0 0),(2,.int .i64 i3),(3,.sl (params4.map Pa)),(9,.int .i64 r5.1),(119,.bool s)]) (O:=fun _ _=>[(8192,some (0,⟨false,true,2,99,[.agg [.sl (r6.2.list.map eU8),.int .i64 r6.2.at_]]⟩))]) (j:=fun s=>RO r6 params4 i3 r5 s) ?_ ?_
              ·exact B
              ·rintro x22 ⟨⟩ nn
               try dsimp only
               unfold RO
               refine cD r ?_ ?_
               ·refine A 10 ?_
                refine bD fun r23 hr23=>?_
                refine A 17 ?_
                refine lP (E:=fun (s : (List Int) × Int × (List OZ) × Int) (g : Nat)=>[(0,.optr 8192 0 0 0),(3,.sl (params4.map Pa)),(13,.int .i64 (IntKind.i64.wrap ((IntKind.i64.wrap (i3 + 1)) + r23.1))),(14,.osl 14 g 0 s.2.2.1.length),(15,.int .i64 s.2.2.2)]) (O:=fun s g=>[(14,some (g,⟨false,false,5,50,s.2.2.1.map Pm⟩)),(8192,some (0,⟨false,true,2,99,[.agg [.sl (s.1.map eU8),.int .i64 s.2.1]]⟩))]) (body:=fun s=>Vc params4 i3 r23 s.1 s.2.1 s.2.2.1 s.2.2.2) (s:=(r23.2.list,r23.2.at_,([] : List OZ),0)) _ ((hE ⟨rfl,r,r,r,r,trivial⟩ ⟨rfl,r,trivial⟩))<|?_
                rintro ⟨c24,c25,out26,a27⟩ v14x6 nn
                try dsimp only
                unfold Vc
                refine A 6 ?_
                refine bD fun x_x28 hx_x28=>?_
                refine A 5 ?_
                refine cD r ?_ ?_
                ·refine A 7 ?_
                 refine bD fun r29 hr29=>?_
                 refine A 4 ?_
                 refine cD r ?_ ?_
                 ·refine A 4 ?_
                  refine bD fun r30 hr30=>?_
                  refine A 2 ?_
                  refine bS ([(OZ.mk 18 a27 r30.1 0 0)] : List OZ) Pm r r r (by simp) r r r<|?_
                  exact B
                 ·exact B
                ·refine A 10 ?_
                 refine bS ([(OZ.mk 22 (IntKind.i64.wrap ((IntKind.i64.wrap (i3 + 1)) + r23.1)) 0 0 0)] : List OZ) Pm r r r (by simp) r r r<|?_
                 exact B
               ·exact B
 ·rintro ⟨⟩ ⟨⟩ nn
  try dsimp only
  unfold XR
  refine A 4 ?_
  refine bS ([(OZ.mk 14 r5.1 0 0 0)] : List OZ) Pm r r r (by simp) r r r<|?_
  exact B

def SB (a : Mk × Int × (List Int) × Int) : List D:=[Pz a.1,.int .i64 a.2.1,.sl (a.2.2.1.map Pa),.int .i64 a.2.2.2]
def SA (ds : List D) : Mk × Int × (List Int) × Int:=(Sa (ds.getD 0 .top),uI (ds.getD 1 .top),(uL uI) (ds.getD 2 .top),uI (ds.getD 3 .top))
theorem AdB (a : Mk × Int × (List Int) × Int) : SA (SB a) = a:=by simp [SA,SB,uI,PV (u:=uI) (en:=Pa) (fun _=>rfl)]
instance : Px SB SA:=⟨AdB⟩
def Aac (b : OX × Mk) : D:=PN b.1
def AdZ (b : OX × Mk) : List D:=[Pz b.2]
noncomputable def Aad : Dw.Spec:=Pe [(0,(2,99))] .val SB SA (fun a=>SL a.1 a.2.1 a.2.2.1 a.2.2.2) Aac AdZ
theorem AdC : Pd Tryz.prog 51 Aad:=by
 refine fn2 4 (Pk (l:=[(74,Aby),(28,PL),(75,AbW),(76,Zi)]) (by simp [Afm,PO,Afy,Abz])) Tryz.func51<|?_
 rintro ⟨c1,i2,params3,most4⟩
 unfold SL
 refine A 9 ?_
 refine bD fun x_x5 hx_x5=>?_
 refine A 3 ?_
 refine bD fun r6 hr6=>?_
 refine A 18 ?_
 refine lP (E:=fun (s : (List Int) × Int × (List OZ) × Int) (g : Nat × Nat × Nat × Nat)=>[(0,.optr 8192 0 0 0),(1,.int .i64 i2),(2,.sl (params3.map Pa)),(3,.int .i64 most4),(8,.optr 8 g.1 0 0),(9,.optr 9 g.2.1 0 0),(10,.osl 10 g.2.2.1 0 s.2.2.1.length),(11,.int .i64 s.2.2.2)]) (O:=fun s g=>[(8,some (g.1,⟨false,true,3,40,[.agg [.int .i64 0,.nils,.nils]]⟩)),(9,some (g.2.1,⟨false,true,3,40,[.agg [.int .i64 x_x5,.osl 21 g.2.2.2 0 r6.1.length,.nils]]⟩)),(10,some (g.2.2.1,⟨false,false,5,50,s.2.2.1.map Pm⟩)),(21,some (g.2.2.2,⟨false,false,2,54,r6.1.map Pn⟩)),(8192,some (0,⟨false,true,2,99,[.agg [.sl (s.1.map eU8),.int .i64 s.2.1]]⟩))]) (body:=fun s=>Td r6 most4 x_x5 i2 params3 s.1 s.2.1 s.2.2.1 s.2.2.2) (s:=(r6.2.list,r6.2.at_,([] : List OZ),0)) (_,_,_,_) ((hE ⟨rfl,r,r,r,r,r,r,r,trivial⟩ ⟨rfl,r,r,r,r,trivial⟩))<|?_
 rintro ⟨c7,c8,code9,s10⟩ ⟨v8x1,v9x1,v10x1,v21x1⟩ nn
 try dsimp only
 unfold Td
 refine A 10 ?_
 refine cD r ?_ ?_
 ·refine A 7 ?_
  refine bD fun r11 hr11=>?_
  refine A 4 ?_
  refine cD r ?_ ?_
  ·refine A 4 ?_
   refine bD fun r12 hr12=>?_
   refine A 2 ?_
   refine bS ([(OZ.mk 16 s10 r12.1 0 0)] : List OZ) Pm r r r (by simp) r r r<|?_
   exact B
  ·exact B
 ·refine A 11 ?_
  refine bD fun r13 hr13=>?_
  refine A 5 ?_
  refine lP (E:=fun (s : (List Int) × Int × (List OZ) × (List Po) × Int) (g : Nat × Nat × Nat)=>[(0,.optr 8192 0 0 0),(1,.int .i64 i2),(2,.sl (params3.map Pa)),(8,.optr 8 g.1 0 0),(9,.optr 9 g.2.1 0 0),(10,.osl 10 g.2.2 0 s.2.2.1.length),(12,.int .i64 s.2.2.2.2)]) (O:=fun s g=>[(8,some (g.1,⟨false,true,3,40,[.agg [.int .i64 0,.nils,.nils]]⟩)),(9,some (g.2.1,⟨false,true,3,40,[.agg [.int .i64 x_x5,.sl (s.2.2.2.1.map Pn),.nils]]⟩)),(10,some (g.2.2,⟨false,false,5,50,s.2.2.1.map Pm⟩)),(8192,some (0,⟨false,true,2,99,[.agg [.sl (s.1.map eU8),.int .i64 s.2.1]]⟩))]) (body:=fun s=>Te x_x5 i2 params3 s.1 s.2.1 s.2.2.1 s.2.2.2.1 s.2.2.2.2) (s:=(r13.2.list,r13.2.at_,code9,r6.1,r13.1)) (_,_,_) ((Abk [(21,some (_,⟨true,false,2,54,r6.1.map Pn⟩))] ⟨⟨_,_,r,r,r⟩,trivial⟩ ⟨(PF r),(PF r),(PF r),(PF r),(PF r),(PF r),(PF r),trivial⟩ ⟨(.inl r),(.inr ⟨_,_,_,_,r,r,r,r,ZS r ⟨(UT r),(XP (l:=r6.1) (en:=Pn) r r r (by simp)),(UT r),trivial⟩⟩),(.inl r),(.inl r),trivial⟩))<|?_
  rintro ⟨c14,c15,code16,f17,n18⟩ ⟨v8x2,v9x2,v10x2⟩ nn
  try dsimp only
  unfold Te
  refine A 7 ?_
  refine cD r ?_ ?_
  ·refine A 11 ?_
   refine bD fun r19 hr19=>?_
   refine A 8 ?_
   refine bD fun r20 hr20=>?_
   refine A 10 ?_
   refine cD r ?_ ?_
   ·refine A 3 ?_
    refine bD fun r21 hr21=>?_
    refine A 2 ?_
    refine bS ([(OZ.mk 21 r21.1 (-1) 0 0)] : List OZ) Pm r r r (by simp) r r r<|?_
    exact B
   ·refine A 6 ?_
    refine cD r ?_ ?_
    ·refine A 3 ?_
     refine bD fun r22 hr22=>?_
     refine A 4 ?_
     refine cD r ?_ ?_
     ·refine A 3 ?_
      refine bS ([(OZ.mk 20 (-1) 0 0 0)] : List OZ) Pm r r r (by simp) r r r<|?_
      exact B
     ·exact B
    ·exact B
  ·refine A 12 ?_
   refine sC (E:=fun (_s : (List Int) × Int × Int × Int) (g : Nat × Nat × Nat × Nat)=>[(0,.optr 8192 0 0 0),(8,.optr 8 g.1 0 0),(9,.optr 9 g.2.1 0 0),(10,.osl 10 g.2.2.1 0 code16.length),(13,.optr 13 g.2.2.2 0 0)]) (O:=fun s g=>[(8,some (g.1,⟨false,true,3,40,[.agg [.int .i64 0,.nils,.nils]]⟩)),(9,some (g.2.1,⟨false,true,3,40,[.agg [.int .i64 x_x5,.sl (f17.map Pn),.nils]]⟩)),(10,some (g.2.2.1,⟨false,false,5,50,code16.map Pm⟩)),(13,some (g.2.2.2,⟨false,true,5,50,[.agg [.int .i64 s.2.2.1,.int .i64 0,.int .i64 0,.int .i64 0,.int .u64 s.2.2.2]]⟩)),(8192,some (0,⟨false,true,2,99,[.agg [.sl (s.1.map eU8),.int .i64 s.2.1]]⟩))]) (j:=fun s=>QL code16 x_x5 f17 s.1 s.2.1 s.2.2.1 s.2.2.2) ?_ ?_
   ·exact B
   ·rintro ⟨c23,c24,end25,end26⟩ ⟨v8x3,v9x3,v10x3,v13x3⟩ nn
    try dsimp only
    unfold QL
    refine A 4 ?_
    refine bS ([(OZ.mk end25 0 0 0 end26)] : List OZ) Pm r r r (by simp) r r r<|cK fun hq=>aP (code16) (([(OZ.mk end25 0 0 0 end26)] : List OZ)) Pm r r r r r r r (by simp) (TD _ _ r) r r (by simp) (Sv _ _ r) (fun _=>r) r hq<|?_
    refine A 10 ?_
    refine lP (E:=fun (s : (List Int) × Int × (List OZ) × Int) (g : Nat × Nat × Nat)=>[(0,.optr 8192 0 0 0),(8,.optr 8 g.1 0 0),(9,.optr 9 g.2.1 0 0),(10,.osl 10 g.2.2 0 s.2.2.1.length),(14,.int .i64 s.2.2.2)]) (O:=fun s g=>[(8,some (g.1,⟨false,true,3,40,[.agg [.int .i64 0,.nils,.nils]]⟩)),(9,some (g.2.1,⟨false,true,3,40,[.agg [.int .i64 x_x5,.sl (f17.map Pn),.nils]]⟩)),(10,some (g.2.2,⟨false,false,5,50,s.2.2.1.map Pm⟩)),(8192,some (0,⟨false,true,2,99,[.agg [.sl (s.1.map eU8),.int .i64 s.2.1]]⟩))]) (body:=fun s=>RB x_x5 f17 s.1 s.2.1 s.2.2.1 s.2.2.2) (s:=(c23,c24,code16 ++ ([(OZ.mk end25 0 0 0 end26)] : List OZ),0)) (_,_,_) ((hE ⟨rfl,r,r,r,r,trivial⟩ ⟨rfl,r,r,r,trivial⟩))<|?_
    rintro ⟨c29,c30,code31,k32⟩ ⟨v8x4,v9x4,v10x4⟩ nn
    try dsimp only
    unfold RB
    refine A 9 ?_
    refine cD r ?_ ?_
    ·refine A 8 ?_
     refine bD fun r33 hr33=>?_
     refine A 6 ?_
     refine sC (E:=fun (s : Int) (g : Nat × Nat × Nat)=>[(0,.optr 8192 0 0 0),(8,.optr 8 g.1 0 0),(9,.optr 9 g.2.1 0 0),(10,.osl 10 g.2.2 0 code31.length),(14,.int .i64 k32),(15,.int .i64 s)]) (O:=fun _ g=>[(8,some (g.1,⟨false,true,3,40,[.agg [.int .i64 0,.nils,.nils]]⟩)),(9,some (g.2.1,⟨false,true,3,40,[.agg [.int .i64 x_x5,.sl (f17.map Pn),.nils]]⟩)),(10,some (g.2.2,⟨false,false,5,50,code31.map Pm⟩)),(8192,some (0,⟨false,true,2,99,[.agg [.sl (r33.2.list.map eU8),.int .i64 r33.2.at_]]⟩))]) (j:=fun s=>Qb k32 code31 r33 s) ?_ ?_
     ·exact B
     ·rintro to34 ⟨v8x5,v9x5,v10x5⟩ nn
      try dsimp only
      unfold Qb
      refine A 1 ?_
      refine sC (E:=fun (s : Bool) (g : Nat × Nat × Nat)=>[(0,.optr 8192 0 0 0),(8,.optr 8 g.1 0 0),(9,.optr 9 g.2.1 0 0),(10,.osl 10 g.2.2 0 code31.length),(14,.int .i64 k32),(15,.int .i64 to34),(107,.bool s)]) (O:=fun _ g=>[(8,some (g.1,⟨false,true,3,40,[.agg [.int .i64 0,.nils,.nils]]⟩)),(9,some (g.2.1,⟨false,true,3,40,[.agg [.int .i64 x_x5,.sl (f17.map Pn),.nils]]⟩)),(10,some (g.2.2,⟨false,false,5,50,code31.map Pm⟩)),(8192,some (0,⟨false,true,2,99,[.agg [.sl (r33.2.list.map eU8),.int .i64 r33.2.at_]]⟩))]) (j:=fun s=>RC k32 code31 r33 to34 s) ?_ ?_
      ·exact B
      ·rintro x35 ⟨v8x6,v9x6,v10x6⟩ nn
       try dsimp only
       unfold RC
       refine cD r ?_ ?_
       ·refine A 6 ?_
        refine bD fun code_o38 hcode_o38=>sE (l:=code31) (en:=Pm) (q':=(OZ.mk code_o38.Op to34 code_o38.B code_o38.C code_o38.Imm)) r r r r r r r (by simp) hcode_o38 r r r r r<|?_
        exact B
       ·refine A 6 ?_
        refine bD fun code_e39 hcode_e39=>?_
        refine A 3 ?_
        refine Abe r ?_ ?_
        ·refine A 4 ?_
         refine bD fun code_e40 hcode_e40=>?_
         refine A 6 ?_
         refine cD r ?_ ?_
         ·refine A 6 ?_
          refine bD fun code_o41 hcode_o41=>sE (l:=code31) (en:=Pm) (q':=(OZ.mk code_o41.Op code_o41.A to34 code_o41.C code_o41.Imm)) r r r r r r r (by simp) hcode_o41 r r r r r<|?_
          exact B
         ·exact B
        ·exact B
    ·refine A 19 ?_
     refine UO (b:=((OX.mk x_x5 f17 code31),(Mk.mk c29 c30))) r ?_ r r ?_ (by first | rfl | (simp only [OV]; rfl) | (simp only [OW]; rfl) | (simp only [OV,OW]; rfl) | simp [Aac,PN])
     all_goals first|(simp;done)|(simp;omega)|rfl|(simp [PG,PE];done)

def Tc (a : Mk × Int × Int) : List D:=[Pz a.1,.int .i64 a.2.1,.int .i64 a.2.2]
def Tb (ds : List D) : Mk × Int × Int:=(Sa (ds.getD 0 .top),uI (ds.getD 1 .top),uI (ds.getD 2 .top))
theorem AdX (a : Mk × Int × Int) : Tb (Tc a) = a:=by simp [Tb,Tc,uI]
instance : Px Tc Tb:=⟨AdX⟩
def AeG (b : Ph × Mk) : D:=Rv b.1
def AeF (b : Ph × Mk) : List D:=[Pz b.2]
noncomputable def Aas : Dw.Spec:=Pe [(0,(2,99))] .val Tc Tb (fun a=>Tk a.1 a.2.1 a.2.2) AeG AeF
theorem AdY : Pd Tryz.prog 27 Aas:=by
 refine fn2 3 (Pk (l:=[(28,PL),(51,Aad)]) (by simp [PO,AdC])) Tryz.func27<|?_
 rintro ⟨c1,funcs2,most3⟩
 unfold Tk
 refine A 16 ?_
 refine bD fun r4 hr4=>?_
 refine A 5 ?_
 refine lP (E:=fun (s : (List Int) × Int × (List Int) × Int) (g : Nat × Nat)=>[(0,.optr 8192 0 0 0),(2,.int .i64 most3),(6,.optr 6 g.1 0 0),(7,.osl 7 g.2 0 s.2.2.1.length),(8,.int .i64 s.2.2.2)]) (O:=fun s g=>[(6,some (g.1,⟨false,true,1,26,[.agg [.nils]]⟩)),(7,some (g.2,⟨false,false,1,3,s.2.2.1.map Pa⟩)),(8192,some (0,⟨false,true,2,99,[.agg [.sl (s.1.map eU8),.int .i64 s.2.1]]⟩))]) (body:=fun s=>Tt most3 s.1 s.2.1 s.2.2.1 s.2.2.2) (s:=(r4.2.list,r4.2.at_,([0] : List Int),r4.1)) (_,_) ((hE ⟨rfl,r,r,r,r,trivial⟩ ⟨rfl,r,r,trivial⟩))<|?_
 rintro ⟨c5,c6,params7,n8⟩ ⟨v6x1,v7x1⟩ nn
 try dsimp only
 unfold Tt
 refine A 7 ?_
 refine cD r ?_ ?_
 ·exact B
 ·refine A 17 ?_
  refine lP (E:=fun (s : (List Int) × Int × (List OX) × Int × (List Int)) (g : Nat × Nat)=>[(0,.optr 8192 0 0 0),(2,.int .i64 most3),(6,.optr 6 g.1 0 0),(7,.sl (s.2.2.2.2.map Pa)),(9,.optr 9 g.2 0 0),(10,.int .i64 s.2.2.2.1)]) (O:=fun s g=>[(6,some (g.1,⟨false,true,1,26,[.agg [.nils]]⟩)),(9,some (g.2,⟨false,true,1,26,[.agg [.sl (s.2.2.1.map PN)]]⟩)),(8192,some (0,⟨false,true,2,99,[.agg [.sl (s.1.map eU8),.int .i64 s.2.1]]⟩))]) (body:=fun s=>Tu most3 s.1 s.2.1 s.2.2.1 s.2.2.2.1 s.2.2.2.2) (s:=(c5,c6,[],0,params7)) (_,_) ((Abk [(7,some (_,⟨true,false,1,3,params7.map Pa⟩))] ⟨⟨_,_,r,r,r⟩,trivial⟩ ⟨(PF r),(PF r),(PF r),(Aab (XP (l:=params7) (en:=Pa) r r r (by simp))),(PF r),(PF r),trivial⟩ ⟨(.inl r),(.inr ⟨_,_,_,_,r,r,r,r,ZS r ⟨(XO PN r),trivial⟩⟩),(.inl r),trivial⟩))<|?_
  rintro ⟨c10,c11,p12,i13,params14⟩ ⟨v6x2,v9x2⟩ nn
  try dsimp only
  unfold Tu
  refine A 9 ?_
  refine cD r ?_ ?_
  ·refine A 13 ?_
   refine bD fun r15 hr15=>?_
   refine A 1 ?_
   refine bS ([r15.1] : List OX) PN r r r (by simp) r r r<|?_
   refine A 16 ?_
   exact wf [11] fun _=>B
  ·exact B

def Alu (b : Bool) : D:=.bool b
noncomputable def AfR : Dw.Spec:=Pe [] .ground PY PX (fun a=>AaB a) Alu noE
theorem Aka : Pd Tryz.prog 70 AfR:=by
 refine fn2 1 (Pv) Tryz.func70<|?_
 intro a
 unfold AaB
 exact B

def Akd (b : Bool) : D:=.bool b
noncomputable def ZH : Dw.Spec:=Pe [] .ground PY PX (fun a=>RZ a) Akd noE
theorem Abp : Pd Tryz.prog 58 ZH:=by
 refine fn2 1 (Pv) Tryz.func58<|?_
 intro n1
 unfold RZ
 refine A 12 ?_
 refine lP (E:=fun (s : Int) (_g : Unit)=>[(0,.int .i64 n1),(3,.int .i64 s)]) (O:=fun _ _=>[]) (body:=fun s=>VW n1 s) (s:=1) () ((hE ⟨rfl,r,trivial⟩ trivial))<|?_
 rintro k2 ⟨⟩ nn
 try dsimp only
 unfold VW
 exact B

def Tz (a : (List Po)) : List D:=[.sl (a.map Pn)]
def Ty (ds : List D) : (List Po):=(uL XI) (ds.getD 0 .top)
theorem AiY (a : (List Po)) : Ty (Tz a) = a:=by simp [Ty,Tz,PV (u:=XI) (en:=Pn) Aev]
instance : Px Tz Ty:=⟨AiY⟩
def Akf (b : Int) : D:=.int .i64 b
noncomputable def AbM : Dw.Spec:=Pe [] .ground Tz Ty (fun a=>Xb a) Akf noE
theorem Aeg : Pd Tryz.prog 45 AbM:=by
 refine fn2 1 (Pk (l:=[(70,AfR),(58,ZH)]) (by simp [Aka,Abp])) Tryz.func45<|?_
 intro s1
 unfold Xb
 refine A 13 ?_
 refine cD r ?_ ?_
 ·exact B
 ·refine A 9 ?_
  refine lP (E:=fun (s : Int) (_g : Unit)=>[(0,.sl (s1.map Pn)),(3,.int .i64 s)]) (O:=fun _ _=>[]) (body:=fun s=>Yt s1 s) (s:=0) () ((hE ⟨rfl,r,trivial⟩ trivial))<|?_
  rintro i2 ⟨⟩ nn
  try dsimp only
  unfold Yt
  exact B

def Akb (b : Int) : D:=.int .i64 b
noncomputable def AeS : Dw.Spec:=Pe [] .ground Tz Ty (fun a=>Vs a) Akb noE
theorem AiX : Pd Tryz.prog 53 AeS:=by
 refine fn2 1 (Pk (l:=[(45,AbM)]) (by simp [Aeg])) Tryz.func53<|?_
 intro s1
 unfold Vs
 refine A 14 ?_
 refine bD fun r2 hr2=>?_
 refine A 4 ?_
 refine cD r ?_ ?_
 ·exact B
 ·refine A 9 ?_
  refine lP (E:=fun (s : Int × Int) (_g : Unit)=>[(0,.sl (s1.map Pn)),(3,.int .i64 s.1),(4,.int .i64 s.2)]) (O:=fun _ _=>[]) (body:=fun s=>VU s1 s.1 s.2) (s:=(16,0)) () ((hE ⟨rfl,r,r,trivial⟩ trivial))<|?_
  rintro ⟨a3,i4⟩ ⟨⟩ nn
  try dsimp only
  unfold VU
  exact B

def Xs (a : Ph) : List D:=[Rv a]
def Xr (ds : List D) : Ph:=Vy (ds.getD 0 .top)
theorem Ajd (a : Ph) : Xr (Xs a) = a:=by simp [Xr,Xs]
instance : Px Xs Xr:=⟨Ajd⟩
def Akm (b : Int) : D:=.int .i64 b
noncomputable def AbO : Dw.Spec:=Pe [] .ground Xs Xr (fun a=>Ua a) Akm noE
theorem Aei : Pd Tryz.prog 29 AbO:=by
 refine fn2 1 (Pk (l:=[(53,AeS)]) (by simp [AiX])) Tryz.func29<|?_
 intro p1
 unfold Ua
 refine A 18 ?_
 refine lP (E:=fun (s : Int × Int) (g : Nat)=>[(1,.optr 1 g 0 0),(3,.int .i64 s.1),(4,.int .i64 s.2)]) (O:=fun _ g=>[(1,some (g,⟨false,true,1,26,[.agg [.sl (p1.Funcs.map PN)]]⟩))]) (body:=fun s=>VZ p1 s.1 s.2) (s:=(16,0)) _ ((hE ⟨rfl,r,r,trivial⟩ ⟨rfl,trivial⟩))<|?_
 rintro ⟨a2,i3⟩ v1x1 nn
 try dsimp only
 unfold VZ
 exact B

end Go.Proofs.YtnldnldmgceooaaGreatDoor
