/-
  Programs on typed data, and the proofs that the code does what they say; written by a program (dx.py).
-/
import Derived.Test.YtpagjjmondojpaaGreatDoorProg
import Derived.Test.YtpagjjmondojpaaGreatDoorDc
import Derived.Test.YtpagjjmondojpaaGreatDoorDd
import Derived.KernelRfl
import Derived.Test.YtpagjjmondojpaaGreatDoorDxP
import Derived.Test.YtpagjjmondojpaaGreatDoorDxF2
import Derived.Test.YtpagjjmondojpaaGreatDoorDxF3
namespace Go.Proofs.YtpagjjmondojpaaGreatDoor
open Go Go.Dw Go.Proofs
set_option maxRecDepth 100000
set_option maxHeartbeats 4000000
open Go.Dw renaming QE → bD,Py → cK,AcZ → bS,Abe → aP,UJ → sE,Aau → iO,Abf → cD,Zf → hE,AcI → lP,ZT → sC,Yb → bC,rf → r
def UT (a : OJ × (List (List Int))) : List D:=[PS a.1,.sl (a.2.map (eL OM))]
def US (ds : List D) : OJ × (List (List Int)):=(Se (ds.getD 0 .top),(uL (uL uI)) (ds.getD 1 .top))
theorem AfC (a : OJ × (List (List Int))) : US (UT a) = a:=by simp [US,UT,PN (u:=(uL uI)) (en:=(eL OM)) (PN (u:=uI) (en:=OM) (fun _=>rfl))]
instance : Pn UT US:=⟨AfC⟩
def Agd (b : (List Int)) : D:=.sl (b.map OM)
noncomputable def AbR : Dw.Spec:=OQ [] (.row 1 3) UT US (fun a=>Uf a.1 a.2) Agd noE
theorem AfD : OP Tryz.prog 73 AbR:=by
 refine fn2 2 (OW (l:=[(97,Ads),(98,Adu)]) (by simp [AgX,Ahc])) Tryz.func73<|?_
 rintro ⟨f1,g2⟩
 unfold Uf
 refine A 18 ?_
 refine lP (E:=fun (s : (List Int) × Int) (g : Nat × Nat)=>[(1,.sl (g2.map (eL OM))),(2,.optr 2 g.1 0 0),(5,.osl 5 g.2 0 s.1.length),(6,.int .i64 s.2)]) (O:=fun s g=>[(2,some (g.1,⟨false,true,3,40,[.agg [.int .i64 f1.Params,.sl (f1.Slots.map OV),.sl (f1.Code.map OT)]]⟩)),(5,some (g.2,⟨false,false,1,3,s.1.map OM⟩))]) (body:=fun s=>Vr f1 g2 s.1 s.2) (s:=(([] : List Int),0)) (_,_) ((hE ⟨rfl,r,r,r,trivial⟩ ⟨rfl,r,trivial⟩))<|?_
 rintro ⟨to3,s4⟩ ⟨v2x1,v5x1⟩ nn
 try dsimp only
 unfold Vr
 refine A 10 ?_
 refine cD r ?_ ?_
 ·exact B
 ·refine A 8 ?_
  refine bD fun r5 hr5=>?_
  refine A 11 ?_
  refine lP (E:=fun (s : (List Int) × Int) (g : Nat × Nat)=>[(1,.sl (g2.map (eL OM))),(5,.osl 5 g.1 0 s.1.length),(7,.osl 7 g.2 0 r5.length),(8,.int .i64 s.2)]) (O:=fun s g=>[(5,some (g.1,⟨false,false,1,3,s.1.map OM⟩)),(7,some (g.2,⟨false,false,2,149,r5.map SY⟩))]) (body:=fun s=>Vs r5 g2 s.1 s.2) (s:=(to3,0)) (_,_) ((hE ⟨rfl,r,r,r,trivial⟩ ⟨rfl,r,trivial⟩))<|?_
  rintro ⟨to6,i7⟩ ⟨v5x2,v7x2⟩ nn
  try dsimp only
  unfold Vs
  refine A 9 ?_
  refine cD r ?_ ?_
  ·refine A 2 ?_
   refine bC (E:=fun (s : (List Int)) (g : Nat × Nat)=>[(1,.sl (g2.map (eL OM))),(5,.osl 5 g.1 0 s.length),(7,.osl 7 g.2 0 r5.length),(8,.int .i64 i7)]) (O:=fun s g=>[(5,some (g.1,⟨false,false,1,3,s.map OM⟩)),(7,some (g.2,⟨false,false,2,149,r5.map SY⟩))]) (j:=fun s=>QN i7 s) ?_ ?_
   ·refine A 6 ?_
    refine TH r r r (by decide)<|bD fun moves_e9 hmoves_e9=>?_
    refine A 2 ?_
    refine bD fun to_e10 hto_e10=>?_
    refine A 5 ?_
    refine TH r r r (by decide)<|bD fun moves_e11 hmoves_e11=>?_
    refine A 2 ?_
    refine bD fun to_e12 hto_e12=>?_
    refine A 5 ?_
    refine sC (E:=fun (s : Bool × Bool) (g : Nat × Nat)=>[(1,.sl (g2.map (eL OM))),(5,.osl 5 g.1 0 to6.length),(7,.osl 7 g.2 0 r5.length),(8,.int .i64 i7),(9,.int .i64 to_e10),(10,.int .i64 to_e12),(51,.sl (g2.map (eL OM))),(52,.osl 5 g.1 0 to6.length),(53,.int .i64 to_e10),(54,.int .i64 to_e12),(55,.bool s.1),(56,.bool s.2)]) (O:=fun _ g=>[(5,some (g.1,⟨false,false,1,3,to6.map OM⟩)),(7,some (g.2,⟨false,false,2,149,r5.map SY⟩))]) (j:=fun s=>Vu to_e10 to_e12 i7 to6 s.1 s.2) ?_ ?_
    ·exact B
    ·rintro ⟨x13,x14⟩ ⟨v5x3,v7x3⟩ nn
     try dsimp only
     unfold Vu
     refine A 6 ?_
     refine lP (E:=fun (s : (List Int) × Int) (g : Nat × Nat)=>[(1,.sl (g2.map (eL OM))),(5,.osl 5 g.1 0 s.1.length),(7,.osl 7 g.2 0 r5.length),(8,.int .i64 i7),(9,.int .i64 to_e10),(10,.int .i64 to_e12),(11,.int .i64 s.2),(51,.sl (g2.map (eL OM))),(52,.osl 5 g.1 0 s.1.length),(53,.int .i64 to_e10),(54,.int .i64 to_e12),(55,.bool x13),(56,.bool x14)]) (O:=fun s g=>[(5,some (g.1,⟨false,false,1,3,s.1.map OM⟩)),(7,some (g.2,⟨false,false,2,149,r5.map SY⟩))]) (body:=fun s=>Vt to_e10 to_e12 i7 s.1 s.2) (s:=(to6,0)) (_,_) ((hE ⟨rfl,r,r,r,r,r,r,r,r,r,r,r,r,trivial⟩ ⟨rfl,r,trivial⟩))<|?_
     rintro ⟨to16,s17⟩ ⟨v5x4,v7x4⟩ nn
     try dsimp only
     unfold Vt
     refine A 9 ?_
     refine cD r ?_ ?_
     ·refine A 4 ?_
      refine sC (E:=fun (s : Bool) (g : Nat × Nat)=>[(1,.sl (g2.map (eL OM))),(5,.osl 5 g.1 0 to16.length),(7,.osl 7 g.2 0 r5.length),(8,.int .i64 i7),(9,.int .i64 to_e10),(10,.int .i64 to_e12),(11,.int .i64 s17),(51,.sl (g2.map (eL OM))),(52,.osl 5 g.1 0 to16.length),(53,.int .i64 to_e10),(54,.int .i64 to_e12),(55,.bool x13),(56,.bool x14),(77,.bool s)]) (O:=fun _ g=>[(5,some (g.1,⟨false,false,1,3,to16.map OM⟩)),(7,some (g.2,⟨false,false,2,149,r5.map SY⟩))]) (j:=fun s=>Sr s17 to16 to_e10 to_e12 s) ?_ ?_
      ·exact B
      ·rintro x18 ⟨v5x5,v7x5⟩ nn
       try dsimp only
       unfold Sr
       exact B
     ·exact B
   ·rintro to8 ⟨v5x6,v7x6⟩ nn
    try dsimp only
    unfold QN
    exact B
  ·exact B

def Ajg (b : Bool) : D:=.bool b
noncomputable def Aek : Dw.Spec:=OQ [] .ground Tj Ti (fun a=>ZM a.1 a.2.1 a.2.2) Ajg noE
theorem Aig : OP Tryz.prog 99 Aek:=by
 refine fn2 3 (OW (l:=[(61,UA),(62,Wb)]) (by simp [Vq,WX])) Tryz.func99<|?_
 intro a
 unfold ZM
 exact B

def XP (a : OJ × OR × (List Int)) : List D:=[PS a.1,Qo a.2.1,.sl (a.2.2.map OM)]
def XO (ds : List D) : OJ × OR × (List Int):=(Se (ds.getD 0 .top),VK (ds.getD 1 .top),(uL uI) (ds.getD 2 .top))
theorem Aie (a : OJ × OR × (List Int)) : XO (XP a) = a:=by simp [XO,XP,PN (u:=uI) (en:=OM) (fun _=>rfl)]
instance : Pn XP XO:=⟨Aie⟩
def Ajf (b : (List Bool)) : D:=.sl (b.map D.bool)
noncomputable def Aej : Dw.Spec:=OQ [] (.row 1 4) XP XO (fun a=>XN a.1 a.2.1 a.2.2) Ajf noE
theorem Aif : OP Tryz.prog 74 Aej:=by
 refine fn2 3 (OW (l:=[(99,Aek)]) (by simp [Aig])) Tryz.func74<|?_
 rintro ⟨f1,l2,to3⟩
 unfold XN
 refine A 19 ?_
 refine lP (E:=fun (s : (List Bool) × Int) (g : Nat × Nat × Nat)=>[(2,.sl (to3.map OM)),(3,.optr 3 g.1 0 0),(4,.optr 4 g.2.1 0 0),(7,.osl 7 g.2.2 0 s.1.length),(8,.int .i64 s.2)]) (O:=fun s g=>[(3,some (g.1,⟨false,true,3,40,[.agg [.int .i64 f1.Params,.sl (f1.Slots.map OV),.sl (f1.Code.map OT)]]⟩)),(4,some (g.2.1,⟨false,true,1,29,[.agg [.sl (l2.Out.map (eL OM))]]⟩)),(7,some (g.2.2,⟨false,false,1,4,s.1.map D.bool⟩))]) (body:=fun s=>YK f1 l2 to3 s.1 s.2) (s:=(([] : List Bool),0)) (_,_,_) ((hE ⟨rfl,r,r,r,r,trivial⟩ ⟨rfl,r,r,trivial⟩))<|?_
 rintro ⟨out4,k5⟩ ⟨v3x1,v4x1,v7x1⟩ nn
 try dsimp only
 unfold YK
 exact B

def Aic (b : Bool) : D:=.bool b
noncomputable def Adt : Dw.Spec:=OQ [] .ground SM SL (fun a=>Yw a.1 a.2) Aic noE
theorem Aha : OP Tryz.prog 59 Adt:=by
 refine fn2 2 (Pm) Tryz.func59<|?_
 rintro ⟨f1,to2⟩
 unfold Yw
 refine A 17 ?_
 refine cD r ?_ ?_
 ·exact B
 ·refine A 9 ?_
  refine lP (E:=fun (s : Int) (g : Nat)=>[(1,.sl (to2.map OM)),(2,.optr 2 g 0 0),(5,.int .i64 s)]) (O:=fun _ g=>[(2,some (g,⟨false,true,3,40,[.agg [.int .i64 f1.Params,.sl (f1.Slots.map OV),.sl (f1.Code.map OT)]]⟩))]) (body:=fun s=>XI to2 f1 s) (s:=0) _ ((hE ⟨rfl,r,r,trivial⟩ ⟨rfl,trivial⟩))<|?_
  rintro s3 v2x1 nn
  try dsimp only
  unfold XI
  refine A 9 ?_
  refine cD r ?_ ?_
  ·exact B
  ·refine A 12 ?_
   refine lP (E:=fun (s : Int) (g : Nat)=>[(1,.sl (to2.map OM)),(2,.optr 2 g 0 0),(6,.int .i64 s)]) (O:=fun _ g=>[(2,some (g,⟨false,true,3,40,[.agg [.int .i64 f1.Params,.sl (f1.Slots.map OV),.sl (f1.Code.map OT)]]⟩))]) (body:=fun s=>XJ to2 f1 s) (s:=0) _ ((hE ⟨rfl,r,r,trivial⟩ ⟨rfl,trivial⟩))<|?_
   rintro s6 v2x2 nn
   try dsimp only
   unfold XJ
   exact B

def Aih (b : Int) : D:=.int .i64 b
noncomputable def Adx : Dw.Spec:=OQ [] .ground Rg Rf (fun a=>Yy a.1 a.2) Aih noE
theorem Ahe : OP Tryz.prog 31 Adx:=by
 refine fn2 2 (OW (l:=[(59,Adt),(60,Yl)]) (by simp [Aha,AaH])) Tryz.func31<|?_
 rintro ⟨f1,r2⟩
 unfold Yy
 refine A 7 ?_
 refine sC (E:=fun (_s : Unit) (g : Nat × Nat)=>[(2,.optr 2 g.1 0 0),(3,.optr 3 g.2 0 0)]) (O:=fun _ g=>[(2,some (g.1,⟨false,true,3,40,[.agg [.int .i64 f1.Params,.sl (f1.Slots.map OV),.sl (f1.Code.map OT)]]⟩)),(3,some (g.2,⟨false,true,2,33,[.agg [.sl (r2.To.map OM),.sl (r2.Keep.map D.bool)]]⟩))]) (j:=fun _=>XT f1 r2) ?_ ?_
 ·exact B
 ·rintro ⟨⟩ ⟨v2x1,v3x1⟩ nn
  try dsimp only
  unfold XT
  refine A 7 ?_
  refine lP (E:=fun (s : Int) (g : Nat × Nat)=>[(2,.optr 2 g.1 0 0),(3,.optr 3 g.2 0 0),(5,.int .i64 s)]) (O:=fun _ g=>[(2,some (g.1,⟨false,true,3,40,[.agg [.int .i64 f1.Params,.sl (f1.Slots.map OV),.sl (f1.Code.map OT)]]⟩)),(3,some (g.2,⟨false,true,2,33,[.agg [.sl (r2.To.map OM),.sl (r2.Keep.map D.bool)]]⟩))]) (body:=fun s=>XS f1 r2 s) (s:=0) (_,_) ((hE ⟨rfl,r,r,trivial⟩ ⟨rfl,r,trivial⟩))<|?_
  rintro k4 ⟨v2x2,v3x2⟩ nn
  try dsimp only
  unfold XS
  exact B

def UR (a : Int × (List Int)) : List D:=[.int .i64 a.1,.sl (a.2.map OM)]
def UQ (ds : List D) : Int × (List Int):=(uI (ds.getD 0 .top),(uL uI) (ds.getD 1 .top))
theorem Afy (a : Int × (List Int)) : UQ (UR a) = a:=by simp [UQ,UR,uI,PN (u:=uI) (en:=OM) (fun _=>rfl)]
instance : Pn UR UQ:=⟨Afy⟩
def Aga (b : Int) : D:=.int .i64 b
noncomputable def AbP : Dw.Spec:=OQ [] .ground UR UQ (fun a=>RU a.1 a.2) Aga noE
theorem Afz : OP Tryz.prog 64 AbP:=by
 refine fn2 2 (Pm) Tryz.func64<|?_
 intro a
 unfold RU
 exact B

def AfZ (b : OL) : D:=OT b
noncomputable def ZH : Dw.Spec:=OQ [] .ground Ub Ua (fun a=>Uc a.1 a.2) AfZ noE
theorem Abu : OP Tryz.prog 37 ZH:=by
 refine fn2 2 (OW (l:=[(64,AbP)]) (by simp [Afz])) Tryz.func37<|?_
 intro a
 unfold Uc
 exact B

def Ajh (b : (List Int)) : D:=.sl (b.map OM)
noncomputable def Ael : Dw.Spec:=OQ [] (.row 1 3) Rg Rf (fun a=>ZN a.1 a.2) Ajh noE
theorem Aii : OP Tryz.prog 33 Ael:=by
 refine fn2 2 (OW (l:=[(37,ZH),(63,Abv),(52,VQ),(61,UA),(42,VZ)]) (by simp [Abu,Adn,Xr,Vq,WV])) Tryz.func33<|?_
 rintro ⟨f1,r2⟩
 unfold ZN
 refine A 19 ?_
 refine lP (E:=fun (s : (List Int) × Int) (g : Nat × Nat × Nat)=>[(2,.optr 2 g.1 0 0),(3,.optr 3 g.2.1 0 0),(5,.osl 5 g.2.2 0 s.1.length),(6,.int .i64 s.2)]) (O:=fun s g=>[(2,some (g.1,⟨false,true,3,40,[.agg [.int .i64 f1.Params,.sl (f1.Slots.map OV),.sl (f1.Code.map OT)]]⟩)),(3,some (g.2.1,⟨false,true,2,33,[.agg [.sl (r2.To.map OM),.sl (r2.Keep.map D.bool)]]⟩)),(5,some (g.2.2,⟨false,false,1,3,s.1.map OM⟩))]) (body:=fun s=>YM f1 r2 s.1 s.2) (s:=(([] : List Int),0)) (_,_,_) ((hE ⟨rfl,r,r,r,trivial⟩ ⟨rfl,r,r,trivial⟩))<|?_
 rintro ⟨out3,k4⟩ ⟨v2x1,v3x1,v5x1⟩ nn
 try dsimp only
 unfold YM
 refine sC (E:=fun (_s : Unit) (g : Nat × Nat × Nat)=>[(2,.optr 2 g.1 0 0),(3,.optr 3 g.2.1 0 0),(5,.osl 5 g.2.2 0 out3.length),(6,.int .i64 k4),(16,.int .i64 k4),(17,.optr 3 g.2.1 0 1),(18,.sl (r2.Keep.map D.bool)),(19,.int .i64 (r2.Keep.length : Int)),(20,.bool (decide (k4 < (r2.Keep.length : Int))))]) (O:=fun _ g=>[(2,some (g.1,⟨false,true,3,40,[.agg [.int .i64 f1.Params,.sl (f1.Slots.map OV),.sl (f1.Code.map OT)]]⟩)),(3,some (g.2.1,⟨false,true,2,33,[.agg [.sl (r2.To.map OM),.sl (r2.Keep.map D.bool)]]⟩)),(5,some (g.2.2,⟨false,false,1,3,out3.map OM⟩))]) (j:=fun _=>YN r2 k4 out3 f1) ?_ ?_
 ·exact B
 ·rintro ⟨⟩ ⟨v2x2,v3x2,v5x2⟩ nn
  try dsimp only
  unfold YN
  exact B

def UW (a : OU × (List Int)) : List D:=[TZ a.1,.sl (a.2.map OM)]
def UU (ds : List D) : OU × (List Int):=(Aas (ds.getD 0 .top),(uL uI) (ds.getD 1 .top))
theorem AfG (a : OU × (List Int)) : UU (UW a) = a:=by simp [UU,UW,PN (u:=uI) (en:=OM) (fun _=>rfl)]
instance : Pn UW UU:=⟨AfG⟩
def Agh (b : (List Int)) : D:=.sl (b.map OM)
noncomputable def AbU : Dw.Spec:=OQ [] (.row 1 3) UW UU (fun a=>VT a.1 a.2) Agh noE
theorem AfH : OP Tryz.prog 35 AbU:=by
 refine fn2 2 (Pm) Tryz.func35<|?_
 rintro ⟨r1,used2⟩
 unfold VT
 refine A 18 ?_
 refine lP (E:=fun (s : (List Int) × Int) (g : Nat × Nat)=>[(1,.sl (used2.map OM)),(2,.optr 2 g.1 0 0),(5,.osl 5 g.2 0 s.1.length),(6,.int .i64 s.2)]) (O:=fun s g=>[(2,some (g.1,⟨false,true,2,33,[.agg [.sl (r1.To.map OM),.sl (r1.Keep.map D.bool)]]⟩)),(5,some (g.2,⟨false,false,1,3,s.1.map OM⟩))]) (body:=fun s=>Vy r1 used2 s.1 s.2) (s:=(([] : List Int),0)) (_,_) ((hE ⟨rfl,r,r,r,trivial⟩ ⟨rfl,r,trivial⟩))<|?_
 rintro ⟨out3,s4⟩ ⟨v2x1,v5x1⟩ nn
 try dsimp only
 unfold Vy
 refine A 10 ?_
 refine cD r ?_ ?_
 ·refine A 2 ?_
  refine bC (E:=fun (s : (List Int)) (g : Nat × Nat)=>[(1,.sl (used2.map OM)),(2,.optr 2 g.1 0 0),(5,.osl 5 g.2 0 s.length),(6,.int .i64 s4)]) (O:=fun s g=>[(2,some (g.1,⟨false,true,2,33,[.agg [.sl (r1.To.map OM),.sl (r1.Keep.map D.bool)]]⟩)),(5,some (g.2,⟨false,false,1,3,s.map OM⟩))]) (j:=fun s=>VA s4 s) ?_ ?_
  ·refine A 12 ?_
   refine lP (E:=fun (s : Int × Int) (g : Nat × Nat)=>[(1,.sl (used2.map OM)),(2,.optr 2 g.1 0 0),(5,.osl 5 g.2 0 out3.length),(6,.int .i64 s4),(7,.int .i64 s.1),(8,.int .i64 s.2)]) (O:=fun _ g=>[(2,some (g.1,⟨false,true,2,33,[.agg [.sl (r1.To.map OM),.sl (r1.Keep.map D.bool)]]⟩)),(5,some (g.2,⟨false,false,1,3,out3.map OM⟩))]) (body:=fun s=>Vz used2 r1 s4 out3 s.1 s.2) (s:=(0,0)) (_,_) ((hE ⟨rfl,r,r,r,r,r,trivial⟩ ⟨rfl,r,trivial⟩))<|?_
   rintro ⟨n6,i7⟩ ⟨v2x2,v5x2⟩ nn
   try dsimp only
   unfold Vz
   exact B
  ·rintro out5 ⟨v2x3,v5x3⟩ nn
   try dsimp only
   unfold VA
   exact B
 ·exact B

def Vx (a : OU) : List D:=[TZ a]
def Vw (ds : List D) : OU:=Aas (ds.getD 0 .top)
theorem Agf (a : OU) : Vw (Vx a) = a:=by simp [Vw,Vx]
instance : Pn Vx Vw:=⟨Agf⟩
def Ahf (b : (List Int)) : D:=.sl (b.map OM)
noncomputable def AcE : Dw.Spec:=OQ [] (.row 1 3) Vx Vw (fun a=>WY a) Ahf noE
theorem Agg : OP Tryz.prog 36 AcE:=by
 refine fn2 1 (Pm) Tryz.func36<|?_
 intro r1
 unfold WY
 refine A 23 ?_
 refine lP (E:=fun (s : (List Int) × Int × Int) (g : Nat × Nat)=>[(1,.optr 1 g.1 0 0),(3,.osl 3 g.2 0 s.1.length),(4,.int .i64 s.2.1),(5,.int .i64 s.2.2)]) (O:=fun s g=>[(1,some (g.1,⟨false,true,2,33,[.agg [.sl (r1.To.map OM),.sl (r1.Keep.map D.bool)]]⟩)),(3,some (g.2,⟨false,false,1,3,s.1.map OM⟩))]) (body:=fun s=>WA r1 s.1 s.2.1 s.2.2) (s:=(([] : List Int),0,0)) (_,_) ((hE ⟨rfl,r,r,r,trivial⟩ ⟨rfl,r,trivial⟩))<|?_
 rintro ⟨out2,n3,k4⟩ ⟨v1x1,v3x1⟩ nn
 try dsimp only
 unfold WA
 exact B

def Adv (b : OJ × Int) : D:=.tup [PS b.1,.int .i64 b.2]
noncomputable def Adw : Dw.Spec:=OQ [] .val Rg Rf (fun a=>UH a.1 a.2) Adv noE
theorem Ahd : OP Tryz.prog 13 Adw:=by
 refine fn2 2 (OW (l:=[(31,Adx),(33,Ael),(34,ZL),(35,AbU),(36,AcE),(37,ZH)]) (by simp [Ahe,Aii,Abw,AfH,Agg,Abu])) Tryz.func13<|?_
 rintro ⟨f1,r2⟩
 unfold UH
 refine A 13 ?_
 refine bD fun r3 hr3=>?_
 refine A 10 ?_
 refine cD r ?_ ?_
 ·refine A 10 ?_
  refine UI (b:=((OJ.mk 0 ([]) ([])),r3)) r ?_ r r ?_ (by first | rfl | (simp only [OH]; rfl) | (simp only [OI]; rfl) | (simp only [OH,OI]; rfl) | simp [Adv,PS]) (by decide)
  all_goals first|(simp;done)|(simp;omega)|rfl|(simp [Pu,PA];done)
 ·refine A 6 ?_
  refine bD fun r4 hr4=>?_
  refine A 20 ?_
  refine lP (E:=fun (s : (List OZ) × Int) (g : Nat × Nat × Nat × Nat × Nat)=>[(2,.optr 2 g.1 0 0),(3,.optr 3 g.2.1 0 0),(4,.optr 4 g.2.2.1 0 0),(7,.osl 7 g.2.2.2.1 0 r4.length),(8,.optr 8 g.2.2.2.2 0 0),(9,.int .i64 s.2)]) (O:=fun s g=>[(2,some (g.1,⟨false,true,3,40,[.agg [.int .i64 f1.Params,.sl (f1.Slots.map OV),.sl (f1.Code.map OT)]]⟩)),(3,some (g.2.1,⟨false,true,2,33,[.agg [.sl (r2.To.map OM),.sl (r2.Keep.map D.bool)]]⟩)),(4,some (g.2.2.1,⟨false,true,3,40,[.agg [.int .i64 0,.nils,.nils]]⟩)),(7,some (g.2.2.2.1,⟨false,false,1,3,r4.map OM⟩)),(8,some (g.2.2.2.2,⟨false,true,3,40,[.agg [.int .i64 f1.Params,.sl (s.1.map OV),.nils]]⟩))]) (body:=fun s=>XQ r4 f1 r2 s.1 s.2) (s:=([],0)) (_,_,_,_,_) ((Aaf [] trivial ⟨(Pp r),(Pp r),(Pp r),(Pp r),(Pp r),(Pp r),trivial⟩ ⟨(.inl r),(.inl r),(.inl r),(.inl r),(.inr ⟨_,_,_,_,r,r,r,r,YS r ⟨(Ul r),(WM OV r),(Ul r),trivial⟩⟩),trivial⟩))<|?_
  rintro ⟨out5,i6⟩ ⟨v2x1,v3x1,v4x1,v7x1,v8x1⟩ nn
  try dsimp only
  unfold XQ
  refine A 9 ?_
  refine cD r ?_ ?_
  ·refine A 2 ?_
   refine bC (E:=fun (_s : (List OZ)) (g : Nat × Nat × Nat × Nat × Nat × Nat)=>[(2,.optr 2 g.1 0 0),(3,.optr 3 g.2.1 0 0),(4,.optr 4 g.2.2.1 0 0),(7,.osl 7 g.2.2.2.1 0 r4.length),(8,.optr 8 g.2.2.2.2.1 0 0),(9,.int .i64 i6)]) (O:=fun s g=>[(2,some (g.1,⟨false,true,3,40,[.agg [.int .i64 f1.Params,.sl (f1.Slots.map OV),.sl (f1.Code.map OT)]]⟩)),(3,some (g.2.1,⟨false,true,2,33,[.agg [.sl (r2.To.map OM),.sl (r2.Keep.map D.bool)]]⟩)),(4,some (g.2.2.1,⟨false,true,3,40,[.agg [.int .i64 0,.nils,.nils]]⟩)),(7,some (g.2.2.2.1,⟨false,false,1,3,r4.map OM⟩)),(8,some (g.2.2.2.2.1,⟨false,true,3,40,[.agg [.int .i64 f1.Params,.osl 13 g.2.2.2.2.2 0 s.length,.nils]]⟩)),(13,some (g.2.2.2.2.2,⟨false,false,2,67,s.map OV⟩))]) (j:=fun s=>XR i6 s) ?_ ?_
   ·refine A 7 ?_
    refine bD fun used_e8 hused_e8=>?_
    refine A 1 ?_
    refine bD fun x_x9 hx_x9=>?_
    refine A 13 ?_
    refine bD fun used_e10 hused_e10=>?_
    refine A 1 ?_
    refine bD fun r11 hr11=>?_
    refine A 11 ?_
    refine lP (E:=fun (s : Int × Int) (g : Nat × Nat × Nat × Nat × Nat × Nat × Nat)=>[(2,.optr 2 g.1 0 0),(3,.optr 3 g.2.1 0 0),(4,.optr 4 g.2.2.1 0 0),(7,.osl 7 g.2.2.2.1 0 r4.length),(8,.optr 8 g.2.2.2.2.1 0 0),(9,.int .i64 i6),(10,.optr 10 g.2.2.2.2.2.1 0 0),(11,.osl 11 g.2.2.2.2.2.2 0 r11.length),(12,.int .i64 s.2)]) (O:=fun s g=>[(2,some (g.1,⟨false,true,3,40,[.agg [.int .i64 f1.Params,.sl (f1.Slots.map OV),.sl (f1.Code.map OT)]]⟩)),(3,some (g.2.1,⟨false,true,2,33,[.agg [.sl (r2.To.map OM),.sl (r2.Keep.map D.bool)]]⟩)),(4,some (g.2.2.1,⟨false,true,3,40,[.agg [.int .i64 0,.nils,.nils]]⟩)),(7,some (g.2.2.2.1,⟨false,false,1,3,r4.map OM⟩)),(8,some (g.2.2.2.2.1,⟨false,true,3,40,[.agg [.int .i64 f1.Params,.sl (out5.map OV),.nils]]⟩)),(10,some (g.2.2.2.2.2.1,⟨false,true,2,67,[.agg [.int .i64 x_x9.Size,.int .i64 s.1]]⟩)),(11,some (g.2.2.2.2.2.2,⟨false,false,1,3,r11.map OM⟩))]) (body:=fun s=>Vg r11 f1 out5 x_x9 i6 s.1 s.2) (s:=(x_x9.Align,0)) (_,_,_,_,_,_,_) ((hE ⟨rfl,r,r,r,r,r,r,r,r,trivial⟩ ⟨rfl,r,r,r,r,r,r,trivial⟩))<|?_
    rintro ⟨s12,k13⟩ ⟨v2x2,v3x2,v4x2,v7x2,v8x2,v10x2,v11x2⟩ nn
    try dsimp only
    unfold Vg
    refine A 9 ?_
    refine cD r ?_ ?_
    ·exact B
    ·refine A 11 ?_
     refine bS ([(OZ.mk x_x9.Size s12)] : List OZ) OV r r r (by simp) r r r<|?_
     exact B
   ·rintro slots7 ⟨v2x3,v3x3,v4x3,v7x3,v8x3,v13x3⟩ nn
    try dsimp only
    unfold XR
    refine A 5 ?_
    exact wf [13] fun _=>B
  ·refine A 9 ?_
   refine bD fun r16 hr16=>?_
   refine A 2 ?_
   refine bD fun r17 hr17=>?_
   refine A 12 ?_
   refine lP (E:=fun (s : (List OL) × Int) (g : Nat × Nat × Nat × Nat × Nat × Nat)=>[(2,.optr 2 g.1 0 0),(3,.optr 3 g.2.1 0 0),(4,.optr 4 g.2.2.1 0 0),(8,.optr 8 g.2.2.2.1 0 0),(14,.osl 14 g.2.2.2.2.1 0 r16.length),(15,.osl 15 g.2.2.2.2.2 0 r17.length),(16,.int .i64 s.2)]) (O:=fun s g=>[(2,some (g.1,⟨false,true,3,40,[.agg [.int .i64 f1.Params,.sl (f1.Slots.map OV),.sl (f1.Code.map OT)]]⟩)),(3,some (g.2.1,⟨false,true,2,33,[.agg [.sl (r2.To.map OM),.sl (r2.Keep.map D.bool)]]⟩)),(4,some (g.2.2.1,⟨false,true,3,40,[.agg [.int .i64 0,.nils,.nils]]⟩)),(8,some (g.2.2.2.1,⟨false,true,3,40,[.agg [.int .i64 f1.Params,.sl (out5.map OV),.sl (s.1.map OT)]]⟩)),(14,some (g.2.2.2.2.1,⟨false,false,1,3,r16.map OM⟩)),(15,some (g.2.2.2.2.2,⟨false,false,1,3,r17.map OM⟩))]) (body:=fun s=>Vh f1 r2 r16 r17 out5 s.1 s.2) (s:=([],0)) (_,_,_,_,_,_) ((Aaf [] trivial ⟨(Pp r),(Pp r),(Pp r),(Pp r),(Pp r),(Pp r),(Pp r),trivial⟩ ⟨(.inl r),(.inl r),(.inl r),(.inr ⟨_,_,_,_,r,r,r,r,YS r ⟨(Ul r),(Ul r),(WM OT r),trivial⟩⟩),(.inl r),(.inl r),trivial⟩))<|?_
   rintro ⟨out18,k19⟩ ⟨v2x4,v3x4,v4x4,v8x4,v14x4,v15x4⟩ nn
   try dsimp only
   unfold Vh
   refine A 10 ?_
   refine cD r ?_ ?_
   ·refine A 10 ?_
    refine bD fun x_x20 hx_x20=>?_
    refine A 5 ?_
    refine cD r ?_ ?_
    ·exact B
    ·refine A 7 ?_
     refine bD fun x_x21 hx_x21=>?_
     refine A 3 ?_
     refine bD fun r22 hr22=>?_
     refine A 5 ?_
     refine sC (E:=fun (_s : Int × Int) (g : Nat × Nat × Nat × Nat × Nat × Nat × Nat)=>[(2,.optr 2 g.1 0 0),(3,.optr 3 g.2.1 0 0),(4,.optr 4 g.2.2.1 0 0),(8,.optr 8 g.2.2.2.1 0 0),(14,.osl 14 g.2.2.2.2.1 0 r16.length),(15,.osl 15 g.2.2.2.2.2.1 0 r17.length),(16,.int .i64 k19),(17,.optr 17 g.2.2.2.2.2.2 0 0)]) (O:=fun s g=>[(2,some (g.1,⟨false,true,3,40,[.agg [.int .i64 f1.Params,.sl (f1.Slots.map OV),.sl (f1.Code.map OT)]]⟩)),(3,some (g.2.1,⟨false,true,2,33,[.agg [.sl (r2.To.map OM),.sl (r2.Keep.map D.bool)]]⟩)),(4,some (g.2.2.1,⟨false,true,3,40,[.agg [.int .i64 0,.nils,.nils]]⟩)),(8,some (g.2.2.2.1,⟨false,true,3,40,[.agg [.int .i64 f1.Params,.sl (out5.map OV),.sl (out18.map OT)]]⟩)),(14,some (g.2.2.2.2.1,⟨false,false,1,3,r16.map OM⟩)),(15,some (g.2.2.2.2.2.1,⟨false,false,1,3,r17.map OM⟩)),(17,some (g.2.2.2.2.2.2,⟨false,true,5,69,[.agg [.int .i64 r22.Op,.int .i64 s.1,.int .i64 s.2,.int .i64 r22.C,.int .u64 r22.Imm]]⟩))]) (j:=fun s=>Ss out18 r22 k19 s.1 s.2) ?_ ?_
     ·exact B
     ·rintro ⟨x23,x24⟩ ⟨v2x5,v3x5,v4x5,v8x5,v14x5,v15x5,v17x5⟩ nn
      try dsimp only
      unfold Ss
      refine A 6 ?_
      refine bS ([(OL.mk r22.Op x23 x24 r22.C r22.Imm)] : List OL) OT r r r (by simp) r r r<|?_
      refine A 16 ?_
      exact wf [18] fun _=>B
   ·exact B

def AgY (b : (List (List Int)) × Int) : D:=.tup [.sl (b.1.map (eL OM)),.int .i64 b.2]
noncomputable def AcC : Dw.Spec:=OQ [] .val Pr Pq (fun a=>ZK a.1 a.2) AgY noE
theorem Agc : OP Tryz.prog 75 AcC:=by
 refine fn2 2 (OW (l:=[(96,AaO)]) (by simp [AcD])) Tryz.func75<|?_
 intro a
 unfold ZK
 exact B

def Vj (a : Pf × Int) : List D:=[Sj a.1,.int .i64 a.2]
def Vi (ds : List D) : Pf × Int:=(YV (ds.getD 0 .top),uI (ds.getD 1 .top))
theorem Aik (a : Pf × Int) : Vi (Vj a) = a:=by simp [Vi,Vj,uI]
instance : Pn Vj Vi:=⟨Aik⟩
def Ajk (b : Int) : D:=.int .i64 b
noncomputable def Abx : Dw.Spec:=OQ [] .ground Vj Vi (fun a=>XX a.1 a.2) Ajk noE
theorem Adz : OP Tryz.prog 77 Abx:=by
 refine fn2 2 (Pm) Tryz.func77<|?_
 rintro ⟨p1,i2⟩
 unfold XX
 refine A 16 ?_
 refine bD fun x_x3 hx_x3=>?_
 refine A 13 ?_
 refine lP (E:=fun (s : Int × Int) (g : Nat)=>[(2,.optr 2 g 0 0),(5,.int .i64 s.1),(6,.sl (x_x3.Code.map OT)),(7,.int .i64 s.2)]) (O:=fun _ g=>[(2,some (g,⟨false,true,1,26,[.agg [.sl (p1.Funcs.map PS)]]⟩))]) (body:=fun s=>YQ x_x3 p1 s.1 s.2) (s:=(0,0)) _ ((hE ⟨rfl,r,r,r,trivial⟩ ⟨rfl,trivial⟩))<|?_
 rintro ⟨n4,k5⟩ v2x1 nn
 try dsimp only
 unfold YQ
 exact B

def AiW (b : Bool) : D:=.bool b
noncomputable def Aed : Dw.Spec:=OQ [] .ground PJ PI (fun a=>Zz a) AiW noE
theorem AhE : OP Tryz.prog 128 Aed:=by
 refine fn2 1 (Pm) Tryz.func128<|?_
 intro a
 unfold Zz
 exact B

def AhH (b : Bool) : D:=.bool b
noncomputable def YF : Dw.Spec:=OQ [] .ground PJ PI (fun a=>UG a) AhH noE
theorem Aal : OP Tryz.prog 129 YF:=by
 refine fn2 1 (Pm) Tryz.func129<|?_
 intro n1
 unfold UG
 refine A 12 ?_
 refine lP (E:=fun (s : Int) (_g : Unit)=>[(0,.int .i64 n1),(3,.int .i64 s)]) (O:=fun _ _=>[]) (body:=fun s=>Xn n1 s) (s:=1) () ((hE ⟨rfl,r,trivial⟩ trivial))<|?_
 rintro k2 ⟨⟩ nn
 try dsimp only
 unfold Xn
 exact B

def Tc (a : (List OZ)) : List D:=[.sl (a.map OV)]
def Tb (ds : List D) : (List OZ):=(uL YR) (ds.getD 0 .top)
theorem AgM (a : (List OZ)) : Tb (Tc a) = a:=by simp [Tb,Tc,PN (u:=YR) (en:=OV) Aet]
instance : Pn Tc Tb:=⟨AgM⟩
def AhJ (b : Int) : D:=.int .i64 b
noncomputable def AaL : Dw.Spec:=OQ [] .ground Tc Tb (fun a=>VX a) AhJ noE
theorem Acz : OP Tryz.prog 100 AaL:=by
 refine fn2 1 (OW (l:=[(128,Aed),(129,YF)]) (by simp [AhE,Aal])) Tryz.func100<|?_
 intro s1
 unfold VX
 refine A 13 ?_
 refine cD r ?_ ?_
 ·exact B
 ·refine A 9 ?_
  refine lP (E:=fun (s : Int) (_g : Unit)=>[(0,.sl (s1.map OV)),(3,.int .i64 s)]) (O:=fun _ _=>[]) (body:=fun s=>Xo s1 s) (s:=0) () ((hE ⟨rfl,r,trivial⟩ trivial))<|?_
  rintro i2 ⟨⟩ nn
  try dsimp only
  unfold Xo
  exact B

def Wv (a : (List (List Int)) × Int) : List D:=[.sl (a.1.map (eL OM)),.int .i64 a.2]
def Wu (ds : List D) : (List (List Int)) × Int:=((uL (uL uI)) (ds.getD 0 .top),uI (ds.getD 1 .top))
theorem AgU (a : (List (List Int)) × Int) : Wu (Wv a) = a:=by simp [Wu,Wv,uI,PN (u:=(uL uI)) (en:=(eL OM)) (PN (u:=uI) (en:=OM) (fun _=>rfl))]
instance : Pn Wv Wu:=⟨AgU⟩
def AhY (b : Bool) : D:=.bool b
noncomputable def Adq : Dw.Spec:=OQ [] .ground Wv Wu (fun a=>Yt a.1 a.2) AhY noE
theorem AgV : OP Tryz.prog 101 Adq:=by
 refine fn2 2 (OW (l:=[(91,AaM),(62,Wb)]) (by simp [AcA,WX])) Tryz.func101<|?_
 rintro ⟨g1,n2⟩
 unfold Yt
 refine A 14 ?_
 refine cD r ?_ ?_
 ·exact B
 ·refine A 9 ?_
  refine lP (E:=fun (s : Int) (_g : Unit)=>[(0,.sl (g1.map (eL OM))),(1,.int .i64 n2),(5,.int .i64 s)]) (O:=fun _ _=>[]) (body:=fun s=>XA n2 g1 s) (s:=0) () ((hE ⟨rfl,r,r,trivial⟩ trivial))<|?_
  rintro x3 ⟨⟩ nn
  try dsimp only
  unfold XA
  refine A 8 ?_
  refine cD r ?_ ?_
  ·refine A 2 ?_
   refine bC (E:=fun (s : (List Int) × (List Int) × Bool) (_g : Unit)=>[(0,.sl (g1.map (eL OM))),(1,.int .i64 n2),(5,.int .i64 x3),(24,.sl (g1.map (eL OM))),(25,.int .i64 x3),(26,.fptr (.sl (s.1.map OM)) 0),(27,.sl (s.2.1.map OM)),(28,.int .i64 x3),(29,.bool s.2.2)]) (O:=fun _ _=>[]) (j:=fun s=>XC x3 s.1 s.2.1 s.2.2) ?_ ?_
   ·refine sC (E:=fun (s : (List Int) × (List Int) × Bool) (_g : Unit)=>[(0,.sl (g1.map (eL OM))),(1,.int .i64 n2),(5,.int .i64 x3),(24,.sl (g1.map (eL OM))),(25,.int .i64 x3),(26,.fptr (.sl (s.1.map OM)) 0),(27,.sl (s.2.1.map OM)),(28,.int .i64 x3),(29,.bool s.2.2)]) (O:=fun _ _=>[]) (j:=fun s=>XD g1 x3 n2 s.1 s.2.1 s.2.2) ?_ ?_
    ·exact B
    ·rintro ⟨x7,x8,x9⟩ ⟨⟩ nn
     try dsimp only
     unfold XD
     refine A 6 ?_
     refine lP (E:=fun (s : Int) (_g : Unit)=>[(0,.sl (g1.map (eL OM))),(1,.int .i64 n2),(5,.int .i64 x3),(6,.int .i64 s),(24,.sl (g1.map (eL OM))),(25,.int .i64 x3),(26,.fptr (.sl (x7.map OM)) 0),(27,.sl (x8.map OM)),(28,.int .i64 x3),(29,.bool x9)]) (O:=fun _ _=>[]) (body:=fun s=>XB g1 x3 n2 x7 x8 x9 s) (s:=0) () ((hE ⟨rfl,r,r,r,r,r,r,r,r,r,trivial⟩ trivial))<|?_
     rintro i14 ⟨⟩ nn
     try dsimp only
     unfold XB
     exact B
   ·rintro ⟨x4,x5,x6⟩ ⟨⟩ nn
    try dsimp only
    unfold XC
    exact B
  ·exact B

def AhG (b : Bool) : D:=.bool b
noncomputable def VN : Dw.Spec:=OQ [] .ground PJ PI (fun a=>RK a) AhG noE
theorem Xm : OP Tryz.prog 102 VN:=by
 refine fn2 1 (Pm) Tryz.func102<|?_
 intro a
 unfold RK
 exact B

def VE (a : OZ × OZ) : List D:=[OV a.1,OV a.2]
def VD (ds : List D) : OZ × OZ:=(YR (ds.getD 0 .top),YR (ds.getD 1 .top))
theorem Agk (a : OZ × OZ) : VD (VE a) = a:=by simp [VD,VE]
instance : Pn VE VD:=⟨Agk⟩
def Ahi (b : Bool) : D:=.bool b
noncomputable def AcG : Dw.Spec:=OQ [] .ground VE VD (fun a=>Xa a.1 a.2) Ahi noE
theorem Agl : OP Tryz.prog 130 AcG:=by
 refine fn2 2 (Pm) Tryz.func130<|?_
 intro a
 unfold Xa
 exact B

def Aij (b : (List Int)) : D:=.sl (b.map OM)
noncomputable def Ady : Dw.Spec:=OQ [] (.row 1 3) Tc Tb (fun a=>Yz a) Aij noE
theorem Ahh : OP Tryz.prog 103 Ady:=by
 refine fn2 1 (OW (l:=[(130,AcG)]) (by simp [Agl])) Tryz.func103<|?_
 intro s1
 unfold Yz
 refine A 17 ?_
 refine lP (E:=fun (s : (List Int) × Int) (g : Nat)=>[(0,.sl (s1.map OV)),(3,.osl 3 g 0 s.1.length),(4,.int .i64 s.2)]) (O:=fun s g=>[(3,some (g,⟨false,false,1,3,s.1.map OM⟩))]) (body:=fun s=>XU s1 s.1 s.2) (s:=(([] : List Int),0)) _ ((hE ⟨rfl,r,r,trivial⟩ ⟨rfl,trivial⟩))<|?_
 rintro ⟨out2,i3⟩ v3x1 nn
 try dsimp only
 unfold XU
 refine A 9 ?_
 refine cD r ?_ ?_
 ·refine A 2 ?_
  refine bC (E:=fun (s : (List Int)) (g : Nat)=>[(0,.sl (s1.map OV)),(3,.osl 3 g 0 s.length),(4,.int .i64 i3)]) (O:=fun s g=>[(3,some (g,⟨false,false,1,3,s.map OM⟩))]) (j:=fun s=>XW i3 s) ?_ ?_
  ·refine A 7 ?_
   refine bC (E:=fun (s : Int) (g : Nat)=>[(0,.sl (s1.map OV)),(3,.osl 3 g 0 out2.length),(4,.int .i64 i3),(5,.int .i64 s)]) (O:=fun _ g=>[(3,some (g,⟨false,false,1,3,out2.map OM⟩))]) (j:=fun s=>TF out2 i3 s) ?_ ?_
   ·refine lP (E:=fun (s : Int) (g : Nat)=>[(0,.sl (s1.map OV)),(3,.osl 3 g 0 out2.length),(4,.int .i64 i3),(5,.int .i64 s)]) (O:=fun _ g=>[(3,some (g,⟨false,false,1,3,out2.map OM⟩))]) (body:=fun s=>XV s1 i3 out2 s) (s:=(out2.length : Int)) _ ((hE ⟨rfl,r,r,r,trivial⟩ ⟨rfl,trivial⟩))<|?_
    rintro k6 v3x2 nn
    try dsimp only
    unfold XV
    exact B
   ·rintro k5 v3x3 nn
    try dsimp only
    unfold TF
    refine A 4 ?_
    refine cK fun hq=>Aar (l:=out2) r r r r r r hq<|cK fun hq=>aP (([] : List Int)) (out2.take k5.toNat) OM r r r r r r r (by first | (simp; done) | (simp; omega)) (by simp [List.map_take]) r r (by simp) r (fun _=>r) r hq<|?_
    refine A 7 ?_
    refine cK fun hq=>aP (([] : List Int) ++ (out2.take k5.toNat)) (([i3] : List Int)) OM r r r r r r r (by simp) (Te _ _ r) r r (by simp) (RV _ _ r) (fun _=>r) r hq<|?_
    refine A 2 ?_
    refine cK fun hq=>Ya (l:=out2) r r r r r r hq<|cK fun hq=>aP ((([] : List Int) ++ (out2.take k5.toNat)) ++ ([i3] : List Int)) (out2.drop k5.toNat) OM r r r r r r r (by first | (simp; done) | (simp; omega)) (AbC _ _ _) r r (by simp) (RV _ _ r) (fun _=>r) r hq<|?_
    exact B
  ·rintro out4 v3x4 nn
   try dsimp only
   unfold XW
   exact B
 ·exact B

def Wq (a : Pb) : List D:=[PZ a]
def Wp (ds : List D) : Pb:=TA (ds.getD 0 .top)
theorem AgL (a : Pb) : Wp (Wq a) = a:=by simp [Wp,Wq]
instance : Pn Wq Wp:=⟨AgL⟩
def AhI (b : Bool) : D:=.bool b
noncomputable def YG : Dw.Spec:=OQ [] .ground Wq Wp (fun a=>SE a) AhI noE
theorem Aam : OP Tryz.prog 105 YG:=by
 refine fn2 1 (OW (l:=[(102,VN)]) (by simp [Xm])) Tryz.func105<|?_
 intro a
 unfold SE
 exact B

def ZE (a : Int × Int) : List D:=[.int .i64 a.1,.int .i64 a.2]
def ZD (ds : List D) : Int × Int:=(uI (ds.getD 0 .top),uI (ds.getD 1 .top))
theorem AjK (a : Int × Int) : ZD (ZE a) = a:=by simp [ZD,ZE,uI]
instance : Pn ZE ZD:=⟨AjK⟩
def Akq (b : Int × Int) : D:=.tup [.int .i64 b.1,.int .i64 b.2]
noncomputable def AcX : Dw.Spec:=OQ [] .ground ZE ZD (fun a=>Aan a.1 a.2) Akq noE
theorem Afb : OP Tryz.prog 106 AcX:=by
 refine fn2 2 (OW (l:=[(102,VN),(129,YF)]) (by simp [Xm,Aal])) Tryz.func106<|?_
 rintro ⟨n1,align2⟩
 unfold Aan
 refine A 6 ?_
 refine sC (E:=fun (_s : Unit) (_g : Unit)=>[(0,.int .i64 n1),(1,.int .i64 align2)]) (O:=fun _ _=>[]) (j:=fun _=>Aat align2 n1) ?_ ?_
 ·exact B
 ·rintro ⟨⟩ ⟨⟩ nn
  try dsimp only
  unfold Aat
  refine A 6 ?_
  refine sC (E:=fun (s : Int) (_g : Unit)=>[(6,.int .i64 s)]) (O:=fun _ _=>[]) (j:=fun s=>VY s) ?_ ?_
  ·exact B
  ·rintro m5 ⟨⟩ nn
   try dsimp only
   unfold VY
   exact B

def UN (a : Pb × Pb) : List D:=[PZ a.1,PZ a.2]
def UM (ds : List D) : Pb × Pb:=(TA (ds.getD 0 .top),TA (ds.getD 1 .top))
theorem Afu (a : Pb × Pb) : UM (UN a) = a:=by simp [UM,UN]
instance : Pn UN UM:=⟨Afu⟩
def AfW (b : Bool) : D:=.bool b
noncomputable def AbM : Dw.Spec:=OQ [] .ground UN UM (fun a=>VO a.1 a.2) AfW noE
theorem Afv : OP Tryz.prog 150 AbM:=by
 refine fn2 2 (OW (l:=[(105,YG)]) (by simp [Aam])) Tryz.func150<|?_
 intro a
 unfold VO
 exact B

def Xq (a : (List Pb) × Pb) : List D:=[.sl (a.1.map PZ),PZ a.2]
def Xp (ds : List D) : (List Pb) × Pb:=((uL TA) (ds.getD 0 .top),TA (ds.getD 1 .top))
theorem AhK (a : (List Pb) × Pb) : Xp (Xq a) = a:=by simp [Xp,Xq,PN (u:=TA) (en:=PZ) Afe]
instance : Pn Xq Xp:=⟨AhK⟩
def AiZ (b : Bool) : D:=.bool b
noncomputable def Aee : Dw.Spec:=OQ [] .ground Xq Xp (fun a=>ZF a.1 a.2) AiZ noE
theorem AhL : OP Tryz.prog 131 Aee:=by
 refine fn2 2 (OW (l:=[(150,AbM)]) (by simp [Afv])) Tryz.func131<|?_
 rintro ⟨used1,x2⟩
 unfold ZF
 refine A 13 ?_
 refine lP (E:=fun (s : Int) (g : Nat)=>[(0,.sl (used1.map PZ)),(3,.optr 3 g 0 0),(5,.int .i64 s)]) (O:=fun _ g=>[(3,some (g,⟨false,true,2,157,[.agg [.int .i64 x2.Off,.int .i64 x2.Size]]⟩))]) (body:=fun s=>YH used1 x2 s) (s:=0) _ ((hE ⟨rfl,r,r,trivial⟩ ⟨rfl,trivial⟩))<|?_
 rintro i3 v3x1 nn
 try dsimp only
 unfold YH
 exact B

def YE (a : (List Pb) × Int × Int × Int) : List D:=[.sl (a.1.map PZ),.int .i64 a.2.1,.int .i64 a.2.2.1,.int .i64 a.2.2.2]
def YD (ds : List D) : (List Pb) × Int × Int × Int:=((uL TA) (ds.getD 0 .top),uI (ds.getD 1 .top),uI (ds.getD 2 .top),uI (ds.getD 3 .top))
theorem AiX (a : (List Pb) × Int × Int × Int) : YD (YE a) = a:=by simp [YD,YE,uI,PN (u:=TA) (en:=PZ) Afe]
instance : Pn YE YD:=⟨AiX⟩
def AjJ (b : Int × Int) : D:=.tup [.int .i64 b.1,.int .i64 b.2]
noncomputable def Afa : Dw.Spec:=OQ [] .ground YE YD (fun a=>AaG a.1 a.2.1 a.2.2.1 a.2.2.2) AjJ noE
theorem AiY : OP Tryz.prog 104 Afa:=by
 refine fn2 4 (OW (l:=[(102,VN),(129,YF),(105,YG),(106,AcX),(131,Aee)]) (by simp [Xm,Aal,Aam,Afb,AhL])) Tryz.func104<|?_
 rintro ⟨used1,from2,size3,align4⟩
 unfold AaG
 refine A 6 ?_
 refine sC (E:=fun (_s : Unit) (_g : Unit)=>[(0,.sl (used1.map PZ)),(1,.int .i64 from2),(2,.int .i64 size3),(3,.int .i64 align4)]) (O:=fun _ _=>[]) (j:=fun _=>ZC used1 align4 size3 from2) ?_ ?_
 ·exact B
 ·rintro ⟨⟩ ⟨⟩ nn
  try dsimp only
  unfold ZC
  refine A 7 ?_
  refine lP (E:=fun (s : Int) (_g : Unit)=>[(0,.sl (used1.map PZ)),(1,.int .i64 from2),(2,.int .i64 size3),(3,.int .i64 align4),(10,.int .i64 s)]) (O:=fun _ _=>[]) (body:=fun s=>ZA used1 align4 size3 from2 s) (s:=0) () ((hE ⟨rfl,r,r,r,r,trivial⟩ trivial))<|?_
  rintro i8 ⟨⟩ nn
  try dsimp only
  unfold ZA
  refine A 9 ?_
  refine cD r ?_ ?_
  ·exact B
  ·refine A 18 ?_
   refine lP (E:=fun (s : Int × Bool × Int) (_g : Unit)=>[(0,.sl (used1.map PZ)),(1,.int .i64 from2),(2,.int .i64 size3),(3,.int .i64 align4),(11,.int .i64 s.1),(12,.bool s.2.1),(13,.int .i64 s.2.2)]) (O:=fun _ _=>[]) (body:=fun s=>ZB used1 align4 size3 from2 s.1 s.2.1 s.2.2) (s:=(0,false,(-1))) () ((hE ⟨rfl,r,r,r,r,r,r,trivial⟩ trivial))<|?_
   rintro ⟨best11,found12,i13⟩ ⟨⟩ nn
   try dsimp only
   unfold ZB
   refine A 9 ?_
   refine cD r ?_ ?_
   ·refine A 10 ?_
    refine sC (E:=fun (s : Int) (_g : Unit)=>[(0,.sl (used1.map PZ)),(1,.int .i64 from2),(2,.int .i64 size3),(3,.int .i64 align4),(11,.int .i64 best11),(12,.bool found12),(13,.int .i64 i13),(14,.int .i64 s)]) (O:=fun _ _=>[]) (j:=fun s=>Vb align4 size3 used1 found12 i13 best11 s) ?_ ?_
    ·exact B
    ·rintro at14 ⟨⟩ nn
     try dsimp only
     unfold Vb
     exact B
   ·exact B

def VC (a : (List OZ) × (List (List Int)) × Int) : List D:=[.sl (a.1.map OV),.sl (a.2.1.map (eL OM)),.int .i64 a.2.2]
def VB (ds : List D) : (List OZ) × (List (List Int)) × Int:=((uL YR) (ds.getD 0 .top),(uL (uL uI)) (ds.getD 1 .top),uI (ds.getD 2 .top))
theorem Agi (a : (List OZ) × (List (List Int)) × Int) : VB (VC a) = a:=by simp [VB,VC,uI,PN (u:=YR) (en:=OV) Aet,PN (u:=(uL uI)) (en:=(eL OM)) (PN (u:=uI) (en:=OM) (fun _=>rfl))]
instance : Pn VC VB:=⟨Agi⟩
def Ahg (b : (List Int) × Int) : D:=.tup [.sl (b.1.map OM),.int .i64 b.2]
noncomputable def AcF : Dw.Spec:=OQ [] .val VC VB (fun a=>WZ a.1 a.2.1 a.2.2) Ahg noE
theorem Agj : OP Tryz.prog 76 AcF:=by
 refine fn2 3 (OW (l:=[(100,AaL),(101,Adq),(102,VN),(103,Ady),(62,Wb),(104,Afa)]) (by simp [Acz,AgV,Xm,Ahh,WX,AiY])) Tryz.func76<|?_
 rintro ⟨s1,g2,from3⟩
 unfold WZ
 refine A 10 ?_
 refine bD fun r4 hr4=>?_
 refine A 10 ?_
 refine cD r ?_ ?_
 ·exact B
 ·refine A 2 ?_
  refine sC (E:=fun (_s : Unit) (_g : Unit)=>[(0,.sl (s1.map OV)),(1,.sl (g2.map (eL OM))),(2,.int .i64 from3)]) (O:=fun _ _=>[]) (j:=fun _=>WD s1 g2 from3) ?_ ?_
  ·exact B
  ·rintro ⟨⟩ ⟨⟩ nn
   try dsimp only
   unfold WD
   refine A 15 ?_
   refine bD fun r7 hr7=>?_
   refine A 11 ?_
   refine lP (E:=fun (s : (List Bool) × (List Int) × Int) (g : Nat × Nat × Nat)=>[(0,.sl (s1.map OV)),(1,.sl (g2.map (eL OM))),(2,.int .i64 from3),(9,.osl 9 g.1 0 s.2.1.length),(10,.osl 10 g.2.1 0 s.1.length),(11,.osl 11 g.2.2 0 r7.length),(12,.int .i64 s.2.2)]) (O:=fun s g=>[(9,some (g.1,⟨false,false,1,3,s.2.1.map OM⟩)),(10,some (g.2.1,⟨false,false,1,4,s.1.map D.bool⟩)),(11,some (g.2.2,⟨false,false,1,3,r7.map OM⟩))]) (body:=fun s=>WB r7 s1 g2 from3 s.1 s.2.1 s.2.2) (s:=(List.replicate (s1.length : Int).toNat false,List.replicate (s1.length : Int).toNat (0 : Int),0)) (_,_,_) ((hE ⟨rfl,r,r,r,r,r,r,trivial⟩ ⟨rfl,r,r,trivial⟩))<|?_
   rintro ⟨done8,off9,i10⟩ ⟨v9x2,v10x2,v11x2⟩ nn
   try dsimp only
   unfold WB
   refine A 9 ?_
   refine cD r ?_ ?_
   ·refine A 2 ?_
    refine bC (E:=fun (s : (List Bool) × (List Int)) (g : Nat × Nat × Nat)=>[(0,.sl (s1.map OV)),(1,.sl (g2.map (eL OM))),(2,.int .i64 from3),(9,.osl 9 g.1 0 s.2.length),(10,.osl 10 g.2.1 0 s.1.length),(11,.osl 11 g.2.2 0 r7.length),(12,.int .i64 i10)]) (O:=fun s g=>[(9,some (g.1,⟨false,false,1,3,s.2.map OM⟩)),(10,some (g.2.1,⟨false,false,1,4,s.1.map D.bool⟩)),(11,some (g.2.2,⟨false,false,1,3,r7.map OM⟩))]) (j:=fun s=>WE i10 s.1 s.2) ?_ ?_
    ·refine A 5 ?_
     refine bD fun order_e13 horder_e13=>?_
     refine A 16 ?_
     refine lP (E:=fun (s : (List Pb) × Int) (g : Nat × Nat × Nat × Nat)=>[(0,.sl (s1.map OV)),(1,.sl (g2.map (eL OM))),(2,.int .i64 from3),(9,.osl 9 g.1 0 off9.length),(10,.osl 10 g.2.1 0 done8.length),(11,.osl 11 g.2.2.1 0 r7.length),(12,.int .i64 i10),(13,.int .i64 order_e13),(14,.osl 14 g.2.2.2 0 s.1.length),(15,.int .i64 s.2)]) (O:=fun s g=>[(9,some (g.1,⟨false,false,1,3,off9.map OM⟩)),(10,some (g.2.1,⟨false,false,1,4,done8.map D.bool⟩)),(11,some (g.2.2.1,⟨false,false,1,3,r7.map OM⟩)),(14,some (g.2.2.2,⟨false,false,2,157,s.1.map PZ⟩))]) (body:=fun s=>WC s1 done8 g2 order_e13 off9 from3 i10 s.1 s.2) (s:=(([] : List Pb),0)) (_,_,_,_) ((hE ⟨rfl,r,r,r,r,r,r,r,r,r,trivial⟩ ⟨rfl,r,r,r,trivial⟩))<|?_
     rintro ⟨used14,y15⟩ ⟨v9x3,v10x3,v11x3,v14x3⟩ nn
     try dsimp only
     unfold WC
     refine A 9 ?_
     refine cD r ?_ ?_
     ·refine A 4 ?_
      refine sC (E:=fun (s : Bool) (g : Nat × Nat × Nat × Nat)=>[(0,.sl (s1.map OV)),(1,.sl (g2.map (eL OM))),(2,.int .i64 from3),(9,.osl 9 g.1 0 off9.length),(10,.osl 10 g.2.1 0 done8.length),(11,.osl 11 g.2.2.1 0 r7.length),(12,.int .i64 i10),(13,.int .i64 order_e13),(14,.osl 14 g.2.2.2 0 used14.length),(15,.int .i64 y15),(68,.bool s)]) (O:=fun _ g=>[(9,some (g.1,⟨false,false,1,3,off9.map OM⟩)),(10,some (g.2.1,⟨false,false,1,4,done8.map D.bool⟩)),(11,some (g.2.2.1,⟨false,false,1,3,r7.map OM⟩)),(14,some (g.2.2.2,⟨false,false,2,157,used14.map PZ⟩))]) (j:=fun s=>Td y15 off9 s1 used14 s) ?_ ?_
      ·exact B
      ·rintro x16 ⟨v9x4,v10x4,v11x4,v14x4⟩ nn
       try dsimp only
       unfold Td
       refine cD r ?_ ?_
       ·refine A 5 ?_
        refine bD fun off_e20 hoff_e20=>?_
        refine A 3 ?_
        refine bD fun x_x21 hx_x21=>?_
        refine A 4 ?_
        refine bS ([(Pb.mk off_e20 x_x21.Size)] : List Pb) PZ r r r (by simp) r r r<|?_
        exact B
       ·exact B
     ·exact B
    ·rintro ⟨done11,off12⟩ ⟨v9x5,v10x5,v11x5⟩ nn
     try dsimp only
     unfold WE
     exact B
   ·exact B

def Tl (a : Pf × Int × OJ) : List D:=[Sj a.1,.int .i64 a.2.1,PS a.2.2]
def Tk (ds : List D) : Pf × Int × OJ:=(YV (ds.getD 0 .top),uI (ds.getD 1 .top),Se (ds.getD 2 .top))
theorem AfE (a : Pf × Int × OJ) : Tk (Tl a) = a:=by simp [Tk,Tl,uI]
instance : Pn Tl Tk:=⟨AfE⟩
def AbS (b : Pf) : D:=Sj b
noncomputable def AbT : Dw.Spec:=OQ [] .val Tl Tk (fun a=>YL a.1 a.2.1 a.2.2) AbS noE
theorem AfF : OP Tryz.prog 14 AbT:=by
 refine fn2 3 (Pm) Tryz.func14<|?_
 rintro ⟨p1,i2,f3⟩
 unfold YL
 refine A 11 ?_
 refine cK fun hq=>aP (([] : List OJ)) (p1.Funcs) PS r r r r r r r (by simp) r r r (by simp) r (fun _=>r) r hq<|?_
 refine A 8 ?_
 refine cK fun hq=>iO (l:=([] : List OJ) ++ p1.Funcs) (en:=PS) r r r r r hq<|bD fun l_o4 hl_o4=>sE (l:=([] : List OJ) ++ p1.Funcs) (en:=PS) (q':=f3) r r r r r r r (by simp) hl_o4 r r r r r<|?_
 refine A 10 ?_
 refine Ug (b:=(Pf.mk ((([] : List OJ) ++ p1.Funcs).set i2.toNat f3))) r ?_ r r ?_ (by first | rfl | (simp only [OH]; rfl) | (simp only [OI]; rfl) | (simp only [OH,OI]; rfl) | simp [AbS,Sj])
 all_goals first|(simp;done)|(simp;omega)|rfl|(simp [Pu,PA];done)

end Go.Proofs.YtpagjjmondojpaaGreatDoor
