/-
  Programs on typed data, and the proofs that the code does what they say; written by a program (dx.py).
-/
import Derived.Test.YtpagjjmondojpaaGreatDoorProg
import Derived.Test.YtpagjjmondojpaaGreatDoorDd
import Derived.KernelRfl
import Derived.Test.YtpagjjmondojpaaGreatDoorDxP
import Derived.Test.YtpagjjmondojpaaGreatDoorDxF2
import Derived.Test.YtpagjjmondojpaaGreatDoorDxF3
namespace Go.Proofs.YtpagjjmondojpaaGreatDoor
open Go Go.Dw Go.Proofs
set_option maxRecDepth 100000
set_option maxHeartbeats 4000000
open Go.Dw renaming QP → bD,PM → cK,Adg → bS,Abk → aP,UQ → sE,AaB → iO,Abl → cD,Zm → hE,AcO → lP,Aaa → sC,Yh → bC,rf → r
def Vb (a : OX × (List (List Int))) : List D:=[Qe a.1,.sl (a.2.map (eL Pa))]
def Va (ds : List D) : OX × (List (List Int)):=(Sn (ds.getD 0 .top),(uL (uL uI)) (ds.getD 1 .top))
theorem AfI (a : OX × (List (List Int))) : Va (Vb a) = a:=by simp [Va,Vb,Qa (u:=(uL uI)) (en:=(eL Pa)) (Qa (u:=uI) (en:=Pa) (fun _=>rfl))]
instance : PA Vb Va:=⟨AfI⟩
def Agj (b : (List Int)) : D:=.sl (b.map Pa)
noncomputable def AbX : Dw.Spec:=Pe [] (.row 1 3) Vb Va (fun a=>Um a.1 a.2) Agj noE
theorem AfJ : Pd Tryz.prog 73 AbX:=by
 refine fn2 2 (Pk (l:=[(97,Ady),(98,AdA)]) (by simp [Ahc,Ahh])) Tryz.func73<|?_
 rintro ⟨f1,g2⟩
 unfold Um
 refine A 18 ?_
 refine lP (E:=fun (s : (List Int) × Int) (g : Nat × Nat)=>[(1,.sl (g2.map (eL Pa))),(2,.optr 2 g.1 0 0),(5,.osl 5 g.2 0 s.1.length),(6,.int .i64 s.2)]) (O:=fun s g=>[(2,some (g.1,⟨false,true,3,40,[.agg [.int .i64 f1.Params,.sl (f1.Slots.map Ph),.sl (f1.Code.map Pg)]]⟩)),(5,some (g.2,⟨false,false,1,3,s.1.map Pa⟩))]) (body:=fun s=>Vy f1 g2 s.1 s.2) (s:=(([] : List Int),0)) (_,_) ((hE ⟨rfl,r,r,r,trivial⟩ ⟨rfl,r,trivial⟩))<|?_
 rintro ⟨to3,s4⟩ ⟨v2x1,v5x1⟩ nn
 try dsimp only
 unfold Vy
 refine A 10 ?_
 refine cD r ?_ ?_
 ·exact B
 ·refine A 8 ?_
  refine bD fun r5 hr5=>?_
  refine A 11 ?_
  refine lP (E:=fun (s : (List Int) × Int) (g : Nat × Nat)=>[(1,.sl (g2.map (eL Pa))),(5,.osl 5 g.1 0 s.1.length),(7,.osl 7 g.2 0 r5.length),(8,.int .i64 s.2)]) (O:=fun s g=>[(5,some (g.1,⟨false,false,1,3,s.1.map Pa⟩)),(7,some (g.2,⟨false,false,2,149,r5.map Tf⟩))]) (body:=fun s=>Vz r5 g2 s.1 s.2) (s:=(to3,0)) (_,_) ((hE ⟨rfl,r,r,r,trivial⟩ ⟨rfl,r,trivial⟩))<|?_
  rintro ⟨to6,i7⟩ ⟨v5x2,v7x2⟩ nn
  try dsimp only
  unfold Vz
  refine A 9 ?_
  refine cD r ?_ ?_
  ·refine A 2 ?_
   refine bC (E:=fun (s : (List Int)) (g : Nat × Nat)=>[(1,.sl (g2.map (eL Pa))),(5,.osl 5 g.1 0 s.length),(7,.osl 7 g.2 0 r5.length),(8,.int .i64 i7)]) (O:=fun s g=>[(5,some (g.1,⟨false,false,1,3,s.map Pa⟩)),(7,some (g.2,⟨false,false,2,149,r5.map Tf⟩))]) (j:=fun s=>QY i7 s) ?_ ?_
   ·refine A 6 ?_
    refine TO r r r (by decide)<|bD fun moves_e9 hmoves_e9=>?_
    refine A 2 ?_
    refine bD fun to_e10 hto_e10=>?_
    refine A 5 ?_
    refine TO r r r (by decide)<|bD fun moves_e11 hmoves_e11=>?_
    refine A 2 ?_
    refine bD fun to_e12 hto_e12=>?_
    refine A 5 ?_
    refine sC (E:=fun (s : Bool × Bool) (g : Nat × Nat)=>[(1,.sl (g2.map (eL Pa))),(5,.osl 5 g.1 0 to6.length),(7,.osl 7 g.2 0 r5.length),(8,.int .i64 i7),(9,.int .i64 to_e10),(10,.int .i64 to_e12),(51,.sl (g2.map (eL Pa))),(52,.osl 5 g.1 0 to6.length),(53,.int .i64 to_e10),(54,.int .i64 to_e12),(55,.bool s.1),(56,.bool s.2)]) (O:=fun _ g=>[(5,some (g.1,⟨false,false,1,3,to6.map Pa⟩)),(7,some (g.2,⟨false,false,2,149,r5.map Tf⟩))]) (j:=fun s=>VB to_e10 to_e12 i7 to6 s.1 s.2) ?_ ?_
    ·exact B
    ·rintro ⟨x13,x14⟩ ⟨v5x3,v7x3⟩ nn
     try dsimp only
     unfold VB
     refine A 6 ?_
     refine lP (E:=fun (s : (List Int) × Int) (g : Nat × Nat)=>[(1,.sl (g2.map (eL Pa))),(5,.osl 5 g.1 0 s.1.length),(7,.osl 7 g.2 0 r5.length),(8,.int .i64 i7),(9,.int .i64 to_e10),(10,.int .i64 to_e12),(11,.int .i64 s.2),(51,.sl (g2.map (eL Pa))),(52,.osl 5 g.1 0 s.1.length),(53,.int .i64 to_e10),(54,.int .i64 to_e12),(55,.bool x13),(56,.bool x14)]) (O:=fun s g=>[(5,some (g.1,⟨false,false,1,3,s.1.map Pa⟩)),(7,some (g.2,⟨false,false,2,149,r5.map Tf⟩))]) (body:=fun s=>VA to_e10 to_e12 i7 s.1 s.2) (s:=(to6,0)) (_,_) ((hE ⟨rfl,r,r,r,r,r,r,r,r,r,r,r,r,trivial⟩ ⟨rfl,r,trivial⟩))<|?_
     rintro ⟨to16,s17⟩ ⟨v5x4,v7x4⟩ nn
     try dsimp only
     unfold VA
     refine A 9 ?_
     refine cD r ?_ ?_
     ·refine A 4 ?_
      refine sC (E:=fun (s : Bool) (g : Nat × Nat)=>[(1,.sl (g2.map (eL Pa))),(5,.osl 5 g.1 0 to16.length),(7,.osl 7 g.2 0 r5.length),(8,.int .i64 i7),(9,.int .i64 to_e10),(10,.int .i64 to_e12),(11,.int .i64 s17),(51,.sl (g2.map (eL Pa))),(52,.osl 5 g.1 0 to16.length),(53,.int .i64 to_e10),(54,.int .i64 to_e12),(55,.bool x13),(56,.bool x14),(77,.bool s)]) (O:=fun _ g=>[(5,some (g.1,⟨false,false,1,3,to16.map Pa⟩)),(7,some (g.2,⟨false,false,2,149,r5.map Tf⟩))]) (j:=fun s=>SB s17 to16 to_e10 to_e12 s) ?_ ?_
      ·exact B
      ·rintro x18 ⟨v5x5,v7x5⟩ nn
       try dsimp only
       unfold SB
       exact B
     ·exact B
   ·rintro to8 ⟨v5x6,v7x6⟩ nn
    try dsimp only
    unfold QY
    exact B
  ·exact B

def Ajl (b : Bool) : D:=.bool b
noncomputable def Aeq : Dw.Spec:=Pe [] .ground Ts Tq (fun a=>ZT a.1 a.2.1 a.2.2) Ajl noE
theorem Ail : Pd Tryz.prog 99 Aeq:=by
 refine fn2 3 (Pk (l:=[(61,UH),(62,Wi)]) (by simp [Vx,Xd])) Tryz.func99<|?_
 intro a
 unfold ZT
 exact B

def XV (a : OX × Pf × (List Int)) : List D:=[Qe a.1,QA a.2.1,.sl (a.2.2.map Pa)]
def XU (ds : List D) : OX × Pf × (List Int):=(Sn (ds.getD 0 .top),VR (ds.getD 1 .top),(uL uI) (ds.getD 2 .top))
theorem Aij (a : OX × Pf × (List Int)) : XU (XV a) = a:=by simp [XU,XV,Qa (u:=uI) (en:=Pa) (fun _=>rfl)]
instance : PA XV XU:=⟨Aij⟩
def Ajk (b : (List Bool)) : D:=.sl (b.map D.bool)
noncomputable def Aep : Dw.Spec:=Pe [] (.row 1 4) XV XU (fun a=>XT a.1 a.2.1 a.2.2) Ajk noE
theorem Aik : Pd Tryz.prog 74 Aep:=by
 refine fn2 3 (Pk (l:=[(99,Aeq)]) (by simp [Ail])) Tryz.func74<|?_
 rintro ⟨f1,l2,to3⟩
 unfold XT
 refine A 19 ?_
 refine lP (E:=fun (s : (List Bool) × Int) (g : Nat × Nat × Nat)=>[(2,.sl (to3.map Pa)),(3,.optr 3 g.1 0 0),(4,.optr 4 g.2.1 0 0),(7,.osl 7 g.2.2 0 s.1.length),(8,.int .i64 s.2)]) (O:=fun s g=>[(3,some (g.1,⟨false,true,3,40,[.agg [.int .i64 f1.Params,.sl (f1.Slots.map Ph),.sl (f1.Code.map Pg)]]⟩)),(4,some (g.2.1,⟨false,true,1,29,[.agg [.sl (l2.Out.map (eL Pa))]]⟩)),(7,some (g.2.2,⟨false,false,1,4,s.1.map D.bool⟩))]) (body:=fun s=>YR f1 l2 to3 s.1 s.2) (s:=(([] : List Bool),0)) (_,_,_) ((hE ⟨rfl,r,r,r,r,trivial⟩ ⟨rfl,r,r,trivial⟩))<|?_
 rintro ⟨out4,k5⟩ ⟨v3x1,v4x1,v7x1⟩ nn
 try dsimp only
 unfold YR
 exact B

def Aih (b : Bool) : D:=.bool b
noncomputable def Adz : Dw.Spec:=Pe [] .ground SV SU (fun a=>YD a.1 a.2) Aih noE
theorem Ahf : Pd Tryz.prog 59 Adz:=by
 refine fn2 2 (Pz) Tryz.func59<|?_
 rintro ⟨f1,to2⟩
 unfold YD
 refine A 17 ?_
 refine cD r ?_ ?_
 ·exact B
 ·refine A 9 ?_
  refine lP (E:=fun (s : Int) (g : Nat)=>[(1,.sl (to2.map Pa)),(2,.optr 2 g 0 0),(5,.int .i64 s)]) (O:=fun _ g=>[(2,some (g,⟨false,true,3,40,[.agg [.int .i64 f1.Params,.sl (f1.Slots.map Ph),.sl (f1.Code.map Pg)]]⟩))]) (body:=fun s=>XO to2 f1 s) (s:=0) _ ((hE ⟨rfl,r,r,trivial⟩ ⟨rfl,trivial⟩))<|?_
  rintro s3 v2x1 nn
  try dsimp only
  unfold XO
  refine A 9 ?_
  refine cD r ?_ ?_
  ·exact B
  ·refine A 12 ?_
   refine lP (E:=fun (s : Int) (g : Nat)=>[(1,.sl (to2.map Pa)),(2,.optr 2 g 0 0),(6,.int .i64 s)]) (O:=fun _ g=>[(2,some (g,⟨false,true,3,40,[.agg [.int .i64 f1.Params,.sl (f1.Slots.map Ph),.sl (f1.Code.map Pg)]]⟩))]) (body:=fun s=>XP to2 f1 s) (s:=0) _ ((hE ⟨rfl,r,r,trivial⟩ ⟨rfl,trivial⟩))<|?_
   rintro s6 v2x2 nn
   try dsimp only
   unfold XP
   exact B

def Aim (b : Int) : D:=.int .i64 b
noncomputable def AdD : Dw.Spec:=Pe [] .ground Rp Ro (fun a=>YF a.1 a.2) Aim noE
theorem Ahj : Pd Tryz.prog 31 AdD:=by
 refine fn2 2 (Pk (l:=[(59,Adz),(60,Ys)]) (by simp [Ahf,AaO])) Tryz.func31<|?_
 rintro ⟨f1,r2⟩
 unfold YF
 refine A 7 ?_
 refine sC (E:=fun (_s : Unit) (g : Nat × Nat)=>[(2,.optr 2 g.1 0 0),(3,.optr 3 g.2 0 0)]) (O:=fun _ g=>[(2,some (g.1,⟨false,true,3,40,[.agg [.int .i64 f1.Params,.sl (f1.Slots.map Ph),.sl (f1.Code.map Pg)]]⟩)),(3,some (g.2,⟨false,true,2,33,[.agg [.sl (r2.To.map Pa),.sl (r2.Keep.map D.bool)]]⟩))]) (j:=fun _=>XZ f1 r2) ?_ ?_
 ·exact B
 ·rintro ⟨⟩ ⟨v2x1,v3x1⟩ nn
  try dsimp only
  unfold XZ
  refine A 7 ?_
  refine lP (E:=fun (s : Int) (g : Nat × Nat)=>[(2,.optr 2 g.1 0 0),(3,.optr 3 g.2 0 0),(5,.int .i64 s)]) (O:=fun _ g=>[(2,some (g.1,⟨false,true,3,40,[.agg [.int .i64 f1.Params,.sl (f1.Slots.map Ph),.sl (f1.Code.map Pg)]]⟩)),(3,some (g.2,⟨false,true,2,33,[.agg [.sl (r2.To.map Pa),.sl (r2.Keep.map D.bool)]]⟩))]) (body:=fun s=>XY f1 r2 s) (s:=0) (_,_) ((hE ⟨rfl,r,r,trivial⟩ ⟨rfl,r,trivial⟩))<|?_
  rintro k4 ⟨v2x2,v3x2⟩ nn
  try dsimp only
  unfold XY
  exact B

def UZ (a : Int × (List Int)) : List D:=[.int .i64 a.1,.sl (a.2.map Pa)]
def UY (ds : List D) : Int × (List Int):=(uI (ds.getD 0 .top),(uL uI) (ds.getD 1 .top))
theorem AfE (a : Int × (List Int)) : UY (UZ a) = a:=by simp [UY,UZ,uI,Qa (u:=uI) (en:=Pa) (fun _=>rfl)]
instance : PA UZ UY:=⟨AfE⟩
def Agg (b : Int) : D:=.int .i64 b
noncomputable def AbV : Dw.Spec:=Pe [] .ground UZ UY (fun a=>Sd a.1 a.2) Agg noE
theorem AfF : Pd Tryz.prog 64 AbV:=by
 refine fn2 2 (Pz) Tryz.func64<|?_
 intro a
 unfold Sd
 exact B

def Agf (b : OZ) : D:=Pg b
noncomputable def ZO : Dw.Spec:=Pe [] .ground Ui Uh (fun a=>Uj a.1 a.2) Agf noE
theorem AbA : Pd Tryz.prog 37 ZO:=by
 refine fn2 2 (Pk (l:=[(64,AbV)]) (by simp [AfF])) Tryz.func37<|?_
 intro a
 unfold Uj
 exact B

def Ajm (b : (List Int)) : D:=.sl (b.map Pa)
noncomputable def Aer : Dw.Spec:=Pe [] (.row 1 3) Rp Ro (fun a=>ZU a.1 a.2) Ajm noE
theorem Ain : Pd Tryz.prog 33 Aer:=by
 refine fn2 2 (Pk (l:=[(37,ZO),(63,AbB),(52,VX),(61,UH),(42,Wg)]) (by simp [AbA,Adt,Xx,Vx,Xc])) Tryz.func33<|?_
 rintro ⟨f1,r2⟩
 unfold ZU
 refine A 19 ?_
 refine lP (E:=fun (s : (List Int) × Int) (g : Nat × Nat × Nat)=>[(2,.optr 2 g.1 0 0),(3,.optr 3 g.2.1 0 0),(5,.osl 5 g.2.2 0 s.1.length),(6,.int .i64 s.2)]) (O:=fun s g=>[(2,some (g.1,⟨false,true,3,40,[.agg [.int .i64 f1.Params,.sl (f1.Slots.map Ph),.sl (f1.Code.map Pg)]]⟩)),(3,some (g.2.1,⟨false,true,2,33,[.agg [.sl (r2.To.map Pa),.sl (r2.Keep.map D.bool)]]⟩)),(5,some (g.2.2,⟨false,false,1,3,s.1.map Pa⟩))]) (body:=fun s=>YT f1 r2 s.1 s.2) (s:=(([] : List Int),0)) (_,_,_) ((hE ⟨rfl,r,r,r,trivial⟩ ⟨rfl,r,r,trivial⟩))<|?_
 rintro ⟨out3,k4⟩ ⟨v2x1,v3x1,v5x1⟩ nn
 try dsimp only
 unfold YT
 refine sC (E:=fun (_s : Unit) (g : Nat × Nat × Nat)=>[(2,.optr 2 g.1 0 0),(3,.optr 3 g.2.1 0 0),(5,.osl 5 g.2.2 0 out3.length),(6,.int .i64 k4),(16,.int .i64 k4),(17,.optr 3 g.2.1 0 1),(18,.sl (r2.Keep.map D.bool)),(19,.int .i64 (r2.Keep.length : Int)),(20,.bool (decide (k4 < (r2.Keep.length : Int))))]) (O:=fun _ g=>[(2,some (g.1,⟨false,true,3,40,[.agg [.int .i64 f1.Params,.sl (f1.Slots.map Ph),.sl (f1.Code.map Pg)]]⟩)),(3,some (g.2.1,⟨false,true,2,33,[.agg [.sl (r2.To.map Pa),.sl (r2.Keep.map D.bool)]]⟩)),(5,some (g.2.2,⟨false,false,1,3,out3.map Pa⟩))]) (j:=fun _=>YU r2 k4 out3 f1) ?_ ?_
 ·exact B
 ·rintro ⟨⟩ ⟨v2x2,v3x2,v5x2⟩ nn
  try dsimp only
  unfold YU
  exact B

def Vd (a : Pj × (List Int)) : List D:=[Ug a.1,.sl (a.2.map Pa)]
def Vc (ds : List D) : Pj × (List Int):=(Aaz (ds.getD 0 .top),(uL uI) (ds.getD 1 .top))
theorem AfM (a : Pj × (List Int)) : Vc (Vd a) = a:=by simp [Vc,Vd,Qa (u:=uI) (en:=Pa) (fun _=>rfl)]
instance : PA Vd Vc:=⟨AfM⟩
def Agn (b : (List Int)) : D:=.sl (b.map Pa)
noncomputable def Aca : Dw.Spec:=Pe [] (.row 1 3) Vd Vc (fun a=>Wa a.1 a.2) Agn noE
theorem AfN : Pd Tryz.prog 35 Aca:=by
 refine fn2 2 (Pz) Tryz.func35<|?_
 rintro ⟨r1,used2⟩
 unfold Wa
 refine A 18 ?_
 refine lP (E:=fun (s : (List Int) × Int) (g : Nat × Nat)=>[(1,.sl (used2.map Pa)),(2,.optr 2 g.1 0 0),(5,.osl 5 g.2 0 s.1.length),(6,.int .i64 s.2)]) (O:=fun s g=>[(2,some (g.1,⟨false,true,2,33,[.agg [.sl (r1.To.map Pa),.sl (r1.Keep.map D.bool)]]⟩)),(5,some (g.2,⟨false,false,1,3,s.1.map Pa⟩))]) (body:=fun s=>VF r1 used2 s.1 s.2) (s:=(([] : List Int),0)) (_,_) ((hE ⟨rfl,r,r,r,trivial⟩ ⟨rfl,r,trivial⟩))<|?_
 rintro ⟨out3,s4⟩ ⟨v2x1,v5x1⟩ nn
 try dsimp only
 unfold VF
 refine A 10 ?_
 refine cD r ?_ ?_
 ·refine A 2 ?_
  refine bC (E:=fun (s : (List Int)) (g : Nat × Nat)=>[(1,.sl (used2.map Pa)),(2,.optr 2 g.1 0 0),(5,.osl 5 g.2 0 s.length),(6,.int .i64 s4)]) (O:=fun s g=>[(2,some (g.1,⟨false,true,2,33,[.agg [.sl (r1.To.map Pa),.sl (r1.Keep.map D.bool)]]⟩)),(5,some (g.2,⟨false,false,1,3,s.map Pa⟩))]) (j:=fun s=>VH s4 s) ?_ ?_
  ·refine A 12 ?_
   refine lP (E:=fun (s : Int × Int) (g : Nat × Nat)=>[(1,.sl (used2.map Pa)),(2,.optr 2 g.1 0 0),(5,.osl 5 g.2 0 out3.length),(6,.int .i64 s4),(7,.int .i64 s.1),(8,.int .i64 s.2)]) (O:=fun _ g=>[(2,some (g.1,⟨false,true,2,33,[.agg [.sl (r1.To.map Pa),.sl (r1.Keep.map D.bool)]]⟩)),(5,some (g.2,⟨false,false,1,3,out3.map Pa⟩))]) (body:=fun s=>VG used2 r1 s4 out3 s.1 s.2) (s:=(0,0)) (_,_) ((hE ⟨rfl,r,r,r,r,r,trivial⟩ ⟨rfl,r,trivial⟩))<|?_
   rintro ⟨n6,i7⟩ ⟨v2x2,v5x2⟩ nn
   try dsimp only
   unfold VG
   exact B
  ·rintro out5 ⟨v2x3,v5x3⟩ nn
   try dsimp only
   unfold VH
   exact B
 ·exact B

def VE (a : Pj) : List D:=[Ug a]
def VD (ds : List D) : Pj:=Aaz (ds.getD 0 .top)
theorem Agl (a : Pj) : VD (VE a) = a:=by simp [VD,VE]
instance : PA VE VD:=⟨Agl⟩
def Ahk (b : (List Int)) : D:=.sl (b.map Pa)
noncomputable def AcK : Dw.Spec:=Pe [] (.row 1 3) VE VD (fun a=>Xe a) Ahk noE
theorem Agm : Pd Tryz.prog 36 AcK:=by
 refine fn2 1 (Pz) Tryz.func36<|?_
 intro r1
 unfold Xe
 refine A 23 ?_
 refine lP (E:=fun (s : (List Int) × Int × Int) (g : Nat × Nat)=>[(1,.optr 1 g.1 0 0),(3,.osl 3 g.2 0 s.1.length),(4,.int .i64 s.2.1),(5,.int .i64 s.2.2)]) (O:=fun s g=>[(1,some (g.1,⟨false,true,2,33,[.agg [.sl (r1.To.map Pa),.sl (r1.Keep.map D.bool)]]⟩)),(3,some (g.2,⟨false,false,1,3,s.1.map Pa⟩))]) (body:=fun s=>WH r1 s.1 s.2.1 s.2.2) (s:=(([] : List Int),0,0)) (_,_) ((hE ⟨rfl,r,r,r,trivial⟩ ⟨rfl,r,trivial⟩))<|?_
 rintro ⟨out2,n3,k4⟩ ⟨v1x1,v3x1⟩ nn
 try dsimp only
 unfold WH
 exact B

def AdB (b : OX × Int) : D:=.tup [Qe b.1,.int .i64 b.2]
noncomputable def AdC : Dw.Spec:=Pe [] .val Rp Ro (fun a=>UO a.1 a.2) AdB noE
theorem Ahi : Pd Tryz.prog 13 AdC:=by
 refine fn2 2 (Pk (l:=[(31,AdD),(33,Aer),(34,ZS),(35,Aca),(36,AcK),(37,ZO)]) (by simp [Ahj,Ain,AbC,AfN,Agm,AbA])) Tryz.func13<|?_
 rintro ⟨f1,r2⟩
 unfold UO
 refine A 13 ?_
 refine bD fun r3 hr3=>?_
 refine A 10 ?_
 refine cD r ?_ ?_
 ·refine A 10 ?_
  refine UP (b:=((OX.mk 0 ([]) ([])),r3)) r ?_ r r ?_ (by first | rfl | (simp only [OV]; rfl) | (simp only [OW]; rfl) | (simp only [OV,OW]; rfl) | simp [AdB,Qe]) (by decide)
  all_goals first|(simp;done)|(simp;omega)|rfl|(simp [PI,PO];done)
 ·refine A 6 ?_
  refine bD fun r4 hr4=>?_
  refine A 20 ?_
  refine lP (E:=fun (s : (List Pn) × Int) (g : Nat × Nat × Nat × Nat × Nat)=>[(2,.optr 2 g.1 0 0),(3,.optr 3 g.2.1 0 0),(4,.optr 4 g.2.2.1 0 0),(7,.osl 7 g.2.2.2.1 0 r4.length),(8,.optr 8 g.2.2.2.2 0 0),(9,.int .i64 s.2)]) (O:=fun s g=>[(2,some (g.1,⟨false,true,3,40,[.agg [.int .i64 f1.Params,.sl (f1.Slots.map Ph),.sl (f1.Code.map Pg)]]⟩)),(3,some (g.2.1,⟨false,true,2,33,[.agg [.sl (r2.To.map Pa),.sl (r2.Keep.map D.bool)]]⟩)),(4,some (g.2.2.1,⟨false,true,3,40,[.agg [.int .i64 0,.nils,.nils]]⟩)),(7,some (g.2.2.2.1,⟨false,false,1,3,r4.map Pa⟩)),(8,some (g.2.2.2.2,⟨false,true,3,40,[.agg [.int .i64 f1.Params,.sl (s.1.map Ph),.nils]]⟩))]) (body:=fun s=>XW r4 f1 r2 s.1 s.2) (s:=([],0)) (_,_,_,_,_) ((Aam [] trivial ⟨(PD r),(PD r),(PD r),(PD r),(PD r),(PD r),trivial⟩ ⟨(.inl r),(.inl r),(.inl r),(.inl r),(.inr ⟨_,_,_,_,r,r,r,r,YZ r ⟨(Us r),(WT Ph r),(Us r),trivial⟩⟩),trivial⟩))<|?_
  rintro ⟨out5,i6⟩ ⟨v2x1,v3x1,v4x1,v7x1,v8x1⟩ nn
  try dsimp only
  unfold XW
  refine A 9 ?_
  refine cD r ?_ ?_
  ·refine A 2 ?_
   refine bC (E:=fun (_s : (List Pn)) (g : Nat × Nat × Nat × Nat × Nat × Nat)=>[(2,.optr 2 g.1 0 0),(3,.optr 3 g.2.1 0 0),(4,.optr 4 g.2.2.1 0 0),(7,.osl 7 g.2.2.2.1 0 r4.length),(8,.optr 8 g.2.2.2.2.1 0 0),(9,.int .i64 i6)]) (O:=fun s g=>[(2,some (g.1,⟨false,true,3,40,[.agg [.int .i64 f1.Params,.sl (f1.Slots.map Ph),.sl (f1.Code.map Pg)]]⟩)),(3,some (g.2.1,⟨false,true,2,33,[.agg [.sl (r2.To.map Pa),.sl (r2.Keep.map D.bool)]]⟩)),(4,some (g.2.2.1,⟨false,true,3,40,[.agg [.int .i64 0,.nils,.nils]]⟩)),(7,some (g.2.2.2.1,⟨false,false,1,3,r4.map Pa⟩)),(8,some (g.2.2.2.2.1,⟨false,true,3,40,[.agg [.int .i64 f1.Params,.osl 13 g.2.2.2.2.2 0 s.length,.nils]]⟩)),(13,some (g.2.2.2.2.2,⟨false,false,2,67,s.map Ph⟩))]) (j:=fun s=>XX i6 s) ?_ ?_
   ·refine A 7 ?_
    refine bD fun used_e8 hused_e8=>?_
    refine A 1 ?_
    refine bD fun x_x9 hx_x9=>?_
    refine A 13 ?_
    refine bD fun used_e10 hused_e10=>?_
    refine A 1 ?_
    refine bD fun r11 hr11=>?_
    refine A 11 ?_
    refine lP (E:=fun (s : Int × Int) (g : Nat × Nat × Nat × Nat × Nat × Nat × Nat)=>[(2,.optr 2 g.1 0 0),(3,.optr 3 g.2.1 0 0),(4,.optr 4 g.2.2.1 0 0),(7,.osl 7 g.2.2.2.1 0 r4.length),(8,.optr 8 g.2.2.2.2.1 0 0),(9,.int .i64 i6),(10,.optr 10 g.2.2.2.2.2.1 0 0),(11,.osl 11 g.2.2.2.2.2.2 0 r11.length),(12,.int .i64 s.2)]) (O:=fun s g=>[(2,some (g.1,⟨false,true,3,40,[.agg [.int .i64 f1.Params,.sl (f1.Slots.map Ph),.sl (f1.Code.map Pg)]]⟩)),(3,some (g.2.1,⟨false,true,2,33,[.agg [.sl (r2.To.map Pa),.sl (r2.Keep.map D.bool)]]⟩)),(4,some (g.2.2.1,⟨false,true,3,40,[.agg [.int .i64 0,.nils,.nils]]⟩)),(7,some (g.2.2.2.1,⟨false,false,1,3,r4.map Pa⟩)),(8,some (g.2.2.2.2.1,⟨false,true,3,40,[.agg [.int .i64 f1.Params,.sl (out5.map Ph),.nils]]⟩)),(10,some (g.2.2.2.2.2.1,⟨false,true,2,67,[.agg [.int .i64 x_x9.Size,.int .i64 s.1]]⟩)),(11,some (g.2.2.2.2.2.2,⟨false,false,1,3,r11.map Pa⟩))]) (body:=fun s=>Vn r11 f1 out5 x_x9 i6 s.1 s.2) (s:=(x_x9.Align,0)) (_,_,_,_,_,_,_) ((hE ⟨rfl,r,r,r,r,r,r,r,r,trivial⟩ ⟨rfl,r,r,r,r,r,r,trivial⟩))<|?_
    rintro ⟨s12,k13⟩ ⟨v2x2,v3x2,v4x2,v7x2,v8x2,v10x2,v11x2⟩ nn
    try dsimp only
    unfold Vn
    refine A 9 ?_
    refine cD r ?_ ?_
    ·exact B
    ·refine A 11 ?_
     refine bS ([(Pn.mk x_x9.Size s12)] : List Pn) Ph r r r (by simp) r r r<|?_
     exact B
   ·rintro slots7 ⟨v2x3,v3x3,v4x3,v7x3,v8x3,v13x3⟩ nn
    try dsimp only
    unfold XX
    refine A 5 ?_
    exact wf [13] fun _=>B
  ·refine A 9 ?_
   refine bD fun r16 hr16=>?_
   refine A 2 ?_
   refine bD fun r17 hr17=>?_
   refine A 12 ?_
   refine lP (E:=fun (s : (List OZ) × Int) (g : Nat × Nat × Nat × Nat × Nat × Nat)=>[(2,.optr 2 g.1 0 0),(3,.optr 3 g.2.1 0 0),(4,.optr 4 g.2.2.1 0 0),(8,.optr 8 g.2.2.2.1 0 0),(14,.osl 14 g.2.2.2.2.1 0 r16.length),(15,.osl 15 g.2.2.2.2.2 0 r17.length),(16,.int .i64 s.2)]) (O:=fun s g=>[(2,some (g.1,⟨false,true,3,40,[.agg [.int .i64 f1.Params,.sl (f1.Slots.map Ph),.sl (f1.Code.map Pg)]]⟩)),(3,some (g.2.1,⟨false,true,2,33,[.agg [.sl (r2.To.map Pa),.sl (r2.Keep.map D.bool)]]⟩)),(4,some (g.2.2.1,⟨false,true,3,40,[.agg [.int .i64 0,.nils,.nils]]⟩)),(8,some (g.2.2.2.1,⟨false,true,3,40,[.agg [.int .i64 f1.Params,.sl (out5.map Ph),.sl (s.1.map Pg)]]⟩)),(14,some (g.2.2.2.2.1,⟨false,false,1,3,r16.map Pa⟩)),(15,some (g.2.2.2.2.2,⟨false,false,1,3,r17.map Pa⟩))]) (body:=fun s=>Vo f1 r2 r16 r17 out5 s.1 s.2) (s:=([],0)) (_,_,_,_,_,_) ((Aam [] trivial ⟨(PD r),(PD r),(PD r),(PD r),(PD r),(PD r),(PD r),trivial⟩ ⟨(.inl r),(.inl r),(.inl r),(.inr ⟨_,_,_,_,r,r,r,r,YZ r ⟨(Us r),(Us r),(WT Pg r),trivial⟩⟩),(.inl r),(.inl r),trivial⟩))<|?_
   rintro ⟨out18,k19⟩ ⟨v2x4,v3x4,v4x4,v8x4,v14x4,v15x4⟩ nn
   try dsimp only
   unfold Vo
   refine A 10 ?_
   refine cD r ?_ ?_
   ·refine A 10 ?_
    refine bD fun x_x20 hx_x20=>?_
    refine A 5 ?_
    refine cD r ?_ ?_
    ·exact B
    ·refine A 7 ?_
     refine bD fun x_x21 hx_x21=>?_
     refine A 3 ?_
     refine bD fun r22 hr22=>?_
     refine A 5 ?_
     refine sC (E:=fun (_s : Int × Int) (g : Nat × Nat × Nat × Nat × Nat × Nat × Nat)=>[(2,.optr 2 g.1 0 0),(3,.optr 3 g.2.1 0 0),(4,.optr 4 g.2.2.1 0 0),(8,.optr 8 g.2.2.2.1 0 0),(14,.osl 14 g.2.2.2.2.1 0 r16.length),(15,.osl 15 g.2.2.2.2.2.1 0 r17.length),(16,.int .i64 k19),(17,.optr 17 g.2.2.2.2.2.2 0 0)]) (O:=fun s g=>[(2,some (g.1,⟨false,true,3,40,[.agg [.int .i64 f1.Params,.sl (f1.Slots.map Ph),.sl (f1.Code.map Pg)]]⟩)),(3,some (g.2.1,⟨false,true,2,33,[.agg [.sl (r2.To.map Pa),.sl (r2.Keep.map D.bool)]]⟩)),(4,some (g.2.2.1,⟨false,true,3,40,[.agg [.int .i64 0,.nils,.nils]]⟩)),(8,some (g.2.2.2.1,⟨false,true,3,40,[.agg [.int .i64 f1.Params,.sl (out5.map Ph),.sl (out18.map Pg)]]⟩)),(14,some (g.2.2.2.2.1,⟨false,false,1,3,r16.map Pa⟩)),(15,some (g.2.2.2.2.2.1,⟨false,false,1,3,r17.map Pa⟩)),(17,some (g.2.2.2.2.2.2,⟨false,true,5,69,[.agg [.int .i64 r22.Op,.int .i64 s.1,.int .i64 s.2,.int .i64 r22.C,.int .u64 r22.Imm]]⟩))]) (j:=fun s=>SC out18 r22 k19 s.1 s.2) ?_ ?_
     ·exact B
     ·rintro ⟨x23,x24⟩ ⟨v2x5,v3x5,v4x5,v8x5,v14x5,v15x5,v17x5⟩ nn
      try dsimp only
      unfold SC
      refine A 6 ?_
      refine bS ([(OZ.mk r22.Op x23 x24 r22.C r22.Imm)] : List OZ) Pg r r r (by simp) r r r<|?_
      refine A 16 ?_
      exact wf [18] fun _=>B
   ·exact B

def Ahd (b : (List (List Int)) × Int) : D:=.tup [.sl (b.1.map (eL Pa)),.int .i64 b.2]
noncomputable def AcI : Dw.Spec:=Pe [] .val PF PE (fun a=>ZR a.1 a.2) Ahd noE
theorem Agi : Pd Tryz.prog 75 AcI:=by
 refine fn2 2 (Pk (l:=[(96,AaU)]) (by simp [AcJ])) Tryz.func75<|?_
 intro a
 unfold ZR
 exact B

def Vq (a : Pt × Int) : List D:=[Ss a.1,.int .i64 a.2]
def Vp (ds : List D) : Pt × Int:=(Zc (ds.getD 0 .top),uI (ds.getD 1 .top))
theorem Aip (a : Pt × Int) : Vp (Vq a) = a:=by simp [Vp,Vq,uI]
instance : PA Vq Vp:=⟨Aip⟩
def Ajp (b : Int) : D:=.int .i64 b
noncomputable def AbD : Dw.Spec:=Pe [] .ground Vq Vp (fun a=>Yd a.1 a.2) Ajp noE
theorem AdF : Pd Tryz.prog 77 AbD:=by
 refine fn2 2 (Pz) Tryz.func77<|?_
 rintro ⟨p1,i2⟩
 unfold Yd
 refine A 16 ?_
 refine bD fun x_x3 hx_x3=>?_
 refine A 13 ?_
 refine lP (E:=fun (s : Int × Int) (g : Nat)=>[(2,.optr 2 g 0 0),(5,.int .i64 s.1),(6,.sl (x_x3.Code.map Pg)),(7,.int .i64 s.2)]) (O:=fun _ g=>[(2,some (g,⟨false,true,1,26,[.agg [.sl (p1.Funcs.map Qe)]]⟩))]) (body:=fun s=>YX x_x3 p1 s.1 s.2) (s:=(0,0)) _ ((hE ⟨rfl,r,r,r,trivial⟩ ⟨rfl,trivial⟩))<|?_
 rintro ⟨n4,k5⟩ v2x1 nn
 try dsimp only
 unfold YX
 exact B

def Ajb (b : Bool) : D:=.bool b
noncomputable def Aej : Dw.Spec:=Pe [] .ground PX PW (fun a=>ZG a) Ajb noE
theorem AhJ : Pd Tryz.prog 128 Aej:=by
 refine fn2 1 (Pz) Tryz.func128<|?_
 intro a
 unfold ZG
 exact B

def AhM (b : Bool) : D:=.bool b
noncomputable def YM : Dw.Spec:=Pe [] .ground PX PW (fun a=>UN a) AhM noE
theorem Aas : Pd Tryz.prog 129 YM:=by
 refine fn2 1 (Pz) Tryz.func129<|?_
 intro n1
 unfold UN
 refine A 12 ?_
 refine lP (E:=fun (s : Int) (_g : Unit)=>[(0,.int .i64 n1),(3,.int .i64 s)]) (O:=fun _ _=>[]) (body:=fun s=>Xt n1 s) (s:=1) () ((hE ⟨rfl,r,trivial⟩ trivial))<|?_
 rintro k2 ⟨⟩ nn
 try dsimp only
 unfold Xt
 exact B

def Tj (a : (List Pn)) : List D:=[.sl (a.map Ph)]
def Ti (ds : List D) : (List Pn):=(uL YY) (ds.getD 0 .top)
theorem AgR (a : (List Pn)) : Ti (Tj a) = a:=by simp [Ti,Tj,Qa (u:=YY) (en:=Ph) Aez]
instance : PA Tj Ti:=⟨AgR⟩
def AhO (b : Int) : D:=.int .i64 b
noncomputable def AaR : Dw.Spec:=Pe [] .ground Tj Ti (fun a=>We a) AhO noE
theorem AcF : Pd Tryz.prog 100 AaR:=by
 refine fn2 1 (Pk (l:=[(128,Aej),(129,YM)]) (by simp [AhJ,Aas])) Tryz.func100<|?_
 intro s1
 unfold We
 refine A 13 ?_
 refine cD r ?_ ?_
 ·exact B
 ·refine A 9 ?_
  refine lP (E:=fun (s : Int) (_g : Unit)=>[(0,.sl (s1.map Ph)),(3,.int .i64 s)]) (O:=fun _ _=>[]) (body:=fun s=>Xu s1 s) (s:=0) () ((hE ⟨rfl,r,trivial⟩ trivial))<|?_
  rintro i2 ⟨⟩ nn
  try dsimp only
  unfold Xu
  exact B

def WB (a : (List (List Int)) × Int) : List D:=[.sl (a.1.map (eL Pa)),.int .i64 a.2]
def WA (ds : List D) : (List (List Int)) × Int:=((uL (uL uI)) (ds.getD 0 .top),uI (ds.getD 1 .top))
theorem AgZ (a : (List (List Int)) × Int) : WA (WB a) = a:=by simp [WA,WB,uI,Qa (u:=(uL uI)) (en:=(eL Pa)) (Qa (u:=uI) (en:=Pa) (fun _=>rfl))]
instance : PA WB WA:=⟨AgZ⟩
def Aid (b : Bool) : D:=.bool b
noncomputable def Adw : Dw.Spec:=Pe [] .ground WB WA (fun a=>YA a.1 a.2) Aid noE
theorem Aha : Pd Tryz.prog 101 Adw:=by
 refine fn2 2 (Pk (l:=[(91,AaS),(62,Wi)]) (by simp [AcG,Xd])) Tryz.func101<|?_
 rintro ⟨g1,n2⟩
 unfold YA
 refine A 14 ?_
 refine cD r ?_ ?_
 ·exact B
 ·refine A 9 ?_
  refine lP (E:=fun (s : Int) (_g : Unit)=>[(0,.sl (g1.map (eL Pa))),(1,.int .i64 n2),(5,.int .i64 s)]) (O:=fun _ _=>[]) (body:=fun s=>XG n2 g1 s) (s:=0) () ((hE ⟨rfl,r,r,trivial⟩ trivial))<|?_
  rintro x3 ⟨⟩ nn
  try dsimp only
  unfold XG
  refine A 8 ?_
  refine cD r ?_ ?_
  ·refine A 2 ?_
   refine bC (E:=fun (s : (List Int) × (List Int) × Bool) (_g : Unit)=>[(0,.sl (g1.map (eL Pa))),(1,.int .i64 n2),(5,.int .i64 x3),(24,.sl (g1.map (eL Pa))),(25,.int .i64 x3),(26,.fptr (.sl (s.1.map Pa)) 0),(27,.sl (s.2.1.map Pa)),(28,.int .i64 x3),(29,.bool s.2.2)]) (O:=fun _ _=>[]) (j:=fun s=>XI x3 s.1 s.2.1 s.2.2) ?_ ?_
   ·refine sC (E:=fun (s : (List Int) × (List Int) × Bool) (_g : Unit)=>[(0,.sl (g1.map (eL Pa))),(1,.int .i64 n2),(5,.int .i64 x3),(24,.sl (g1.map (eL Pa))),(25,.int .i64 x3),(26,.fptr (.sl (s.1.map Pa)) 0),(27,.sl (s.2.1.map Pa)),(28,.int .i64 x3),(29,.bool s.2.2)]) (O:=fun _ _=>[]) (j:=fun s=>XJ g1 x3 n2 s.1 s.2.1 s.2.2) ?_ ?_
    ·exact B
    ·rintro ⟨x7,x8,x9⟩ ⟨⟩ nn
     try dsimp only
     unfold XJ
     refine A 6 ?_
     refine lP (E:=fun (s : Int) (_g : Unit)=>[(0,.sl (g1.map (eL Pa))),(1,.int .i64 n2),(5,.int .i64 x3),(6,.int .i64 s),(24,.sl (g1.map (eL Pa))),(25,.int .i64 x3),(26,.fptr (.sl (x7.map Pa)) 0),(27,.sl (x8.map Pa)),(28,.int .i64 x3),(29,.bool x9)]) (O:=fun _ _=>[]) (body:=fun s=>XH g1 x3 n2 x7 x8 x9 s) (s:=0) () ((hE ⟨rfl,r,r,r,r,r,r,r,r,r,trivial⟩ trivial))<|?_
     rintro i14 ⟨⟩ nn
     try dsimp only
     unfold XH
     exact B
   ·rintro ⟨x4,x5,x6⟩ ⟨⟩ nn
    try dsimp only
    unfold XI
    exact B
  ·exact B

def AhL (b : Bool) : D:=.bool b
noncomputable def VU : Dw.Spec:=Pe [] .ground PX PW (fun a=>RT a) AhL noE
theorem Xs : Pd Tryz.prog 102 VU:=by
 refine fn2 1 (Pz) Tryz.func102<|?_
 intro a
 unfold RT
 exact B

def VL (a : Pn × Pn) : List D:=[Ph a.1,Ph a.2]
def VK (ds : List D) : Pn × Pn:=(YY (ds.getD 0 .top),YY (ds.getD 1 .top))
theorem Agq (a : Pn × Pn) : VK (VL a) = a:=by simp [VK,VL]
instance : PA VL VK:=⟨Agq⟩
def Ahn (b : Bool) : D:=.bool b
noncomputable def AcM : Dw.Spec:=Pe [] .ground VL VK (fun a=>Xg a.1 a.2) Ahn noE
theorem Agr : Pd Tryz.prog 130 AcM:=by
 refine fn2 2 (Pz) Tryz.func130<|?_
 intro a
 unfold Xg
 exact B

def Aio (b : (List Int)) : D:=.sl (b.map Pa)
noncomputable def AdE : Dw.Spec:=Pe [] (.row 1 3) Tj Ti (fun a=>YG a) Aio noE
theorem Ahm : Pd Tryz.prog 103 AdE:=by
 refine fn2 1 (Pk (l:=[(130,AcM)]) (by simp [Agr])) Tryz.func103<|?_
 intro s1
 unfold YG
 refine A 17 ?_
 refine lP (E:=fun (s : (List Int) × Int) (g : Nat)=>[(0,.sl (s1.map Ph)),(3,.osl 3 g 0 s.1.length),(4,.int .i64 s.2)]) (O:=fun s g=>[(3,some (g,⟨false,false,1,3,s.1.map Pa⟩))]) (body:=fun s=>Ya s1 s.1 s.2) (s:=(([] : List Int),0)) _ ((hE ⟨rfl,r,r,trivial⟩ ⟨rfl,trivial⟩))<|?_
 rintro ⟨out2,i3⟩ v3x1 nn
 try dsimp only
 unfold Ya
 refine A 9 ?_
 refine cD r ?_ ?_
 ·refine A 2 ?_
  refine bC (E:=fun (s : (List Int)) (g : Nat)=>[(0,.sl (s1.map Ph)),(3,.osl 3 g 0 s.length),(4,.int .i64 i3)]) (O:=fun s g=>[(3,some (g,⟨false,false,1,3,s.map Pa⟩))]) (j:=fun s=>Yc i3 s) ?_ ?_
  ·refine A 7 ?_
   refine bC (E:=fun (s : Int) (g : Nat)=>[(0,.sl (s1.map Ph)),(3,.osl 3 g 0 out2.length),(4,.int .i64 i3),(5,.int .i64 s)]) (O:=fun _ g=>[(3,some (g,⟨false,false,1,3,out2.map Pa⟩))]) (j:=fun s=>TM out2 i3 s) ?_ ?_
   ·refine lP (E:=fun (s : Int) (g : Nat)=>[(0,.sl (s1.map Ph)),(3,.osl 3 g 0 out2.length),(4,.int .i64 i3),(5,.int .i64 s)]) (O:=fun _ g=>[(3,some (g,⟨false,false,1,3,out2.map Pa⟩))]) (body:=fun s=>Yb s1 i3 out2 s) (s:=(out2.length : Int)) _ ((hE ⟨rfl,r,r,r,trivial⟩ ⟨rfl,trivial⟩))<|?_
    rintro k6 v3x2 nn
    try dsimp only
    unfold Yb
    exact B
   ·rintro k5 v3x3 nn
    try dsimp only
    unfold TM
    refine A 4 ?_
    refine cK fun hq=>Aay (l:=out2) r r r r r r hq<|cK fun hq=>aP (([] : List Int)) (out2.take k5.toNat) Pa r r r r r r r (by first | (simp; done) | (simp; omega)) (by simp [List.map_take]) r r (by simp) r (fun _=>r) r hq<|?_
    refine A 7 ?_
    refine cK fun hq=>aP (([] : List Int) ++ (out2.take k5.toNat)) (([i3] : List Int)) Pa r r r r r r r (by simp) (Tl _ _ r) r r (by simp) (Se _ _ r) (fun _=>r) r hq<|?_
    refine A 2 ?_
    refine cK fun hq=>Yg (l:=out2) r r r r r r hq<|cK fun hq=>aP ((([] : List Int) ++ (out2.take k5.toNat)) ++ ([i3] : List Int)) (out2.drop k5.toNat) Pa r r r r r r r (by first | (simp; done) | (simp; omega)) (AbI _ _ _) r r (by simp) (Se _ _ r) (fun _=>r) r hq<|?_
    exact B
  ·rintro out4 v3x4 nn
   try dsimp only
   unfold Yc
   exact B
 ·exact B

def Wx (a : Pp) : List D:=[Ql a]
def Ww (ds : List D) : Pp:=TH (ds.getD 0 .top)
theorem AgQ (a : Pp) : Ww (Wx a) = a:=by simp [Ww,Wx]
instance : PA Wx Ww:=⟨AgQ⟩
def AhN (b : Bool) : D:=.bool b
noncomputable def YN : Dw.Spec:=Pe [] .ground Wx Ww (fun a=>SM a) AhN noE
theorem Aat : Pd Tryz.prog 105 YN:=by
 refine fn2 1 (Pk (l:=[(102,VU)]) (by simp [Xs])) Tryz.func105<|?_
 intro a
 unfold SM
 exact B

def ZL (a : Int × Int) : List D:=[.int .i64 a.1,.int .i64 a.2]
def ZK (ds : List D) : Int × Int:=(uI (ds.getD 0 .top),uI (ds.getD 1 .top))
theorem AjP (a : Int × Int) : ZK (ZL a) = a:=by simp [ZK,ZL,uI]
instance : PA ZL ZK:=⟨AjP⟩
def Aku (b : Int × Int) : D:=.tup [.int .i64 b.1,.int .i64 b.2]
noncomputable def Ade : Dw.Spec:=Pe [] .ground ZL ZK (fun a=>Aau a.1 a.2) Aku noE
theorem Afh : Pd Tryz.prog 106 Ade:=by
 refine fn2 2 (Pk (l:=[(102,VU),(129,YM)]) (by simp [Xs,Aas])) Tryz.func106<|?_
 rintro ⟨n1,align2⟩
 unfold Aau
 refine A 6 ?_
 refine sC (E:=fun (_s : Unit) (_g : Unit)=>[(0,.int .i64 n1),(1,.int .i64 align2)]) (O:=fun _ _=>[]) (j:=fun _=>AaA align2 n1) ?_ ?_
 ·exact B
 ·rintro ⟨⟩ ⟨⟩ nn
  try dsimp only
  unfold AaA
  refine A 6 ?_
  refine sC (E:=fun (s : Int) (_g : Unit)=>[(6,.int .i64 s)]) (O:=fun _ _=>[]) (j:=fun s=>Wf s) ?_ ?_
  ·exact B
  ·rintro m5 ⟨⟩ nn
   try dsimp only
   unfold Wf
   exact B

def UU (a : Pp × Pp) : List D:=[Ql a.1,Ql a.2]
def UT (ds : List D) : Pp × Pp:=(TH (ds.getD 0 .top),TH (ds.getD 1 .top))
theorem AfA (a : Pp × Pp) : UT (UU a) = a:=by simp [UT,UU]
instance : PA UU UT:=⟨AfA⟩
def Agc (b : Bool) : D:=.bool b
noncomputable def AbS : Dw.Spec:=Pe [] .ground UU UT (fun a=>VV a.1 a.2) Agc noE
theorem AfB : Pd Tryz.prog 150 AbS:=by
 refine fn2 2 (Pk (l:=[(105,YN)]) (by simp [Aat])) Tryz.func150<|?_
 intro a
 unfold VV
 exact B

def Xw (a : (List Pp) × Pp) : List D:=[.sl (a.1.map Ql),Ql a.2]
def Xv (ds : List D) : (List Pp) × Pp:=((uL TH) (ds.getD 0 .top),TH (ds.getD 1 .top))
theorem AhP (a : (List Pp) × Pp) : Xv (Xw a) = a:=by simp [Xv,Xw,Qa (u:=TH) (en:=Ql) Afk]
instance : PA Xw Xv:=⟨AhP⟩
def Aje (b : Bool) : D:=.bool b
noncomputable def Aek : Dw.Spec:=Pe [] .ground Xw Xv (fun a=>ZM a.1 a.2) Aje noE
theorem AhQ : Pd Tryz.prog 131 Aek:=by
 refine fn2 2 (Pk (l:=[(150,AbS)]) (by simp [AfB])) Tryz.func131<|?_
 rintro ⟨used1,x2⟩
 unfold ZM
 refine A 13 ?_
 refine lP (E:=fun (s : Int) (g : Nat)=>[(0,.sl (used1.map Ql)),(3,.optr 3 g 0 0),(5,.int .i64 s)]) (O:=fun _ g=>[(3,some (g,⟨false,true,2,157,[.agg [.int .i64 x2.Off,.int .i64 x2.Size]]⟩))]) (body:=fun s=>YO used1 x2 s) (s:=0) _ ((hE ⟨rfl,r,r,trivial⟩ ⟨rfl,trivial⟩))<|?_
 rintro i3 v3x1 nn
 try dsimp only
 unfold YO
 exact B

def YL (a : (List Pp) × Int × Int × Int) : List D:=[.sl (a.1.map Ql),.int .i64 a.2.1,.int .i64 a.2.2.1,.int .i64 a.2.2.2]
def YK (ds : List D) : (List Pp) × Int × Int × Int:=((uL TH) (ds.getD 0 .top),uI (ds.getD 1 .top),uI (ds.getD 2 .top),uI (ds.getD 3 .top))
theorem Ajc (a : (List Pp) × Int × Int × Int) : YK (YL a) = a:=by simp [YK,YL,uI,Qa (u:=TH) (en:=Ql) Afk]
instance : PA YL YK:=⟨Ajc⟩
def AjO (b : Int × Int) : D:=.tup [.int .i64 b.1,.int .i64 b.2]
noncomputable def Afg : Dw.Spec:=Pe [] .ground YL YK (fun a=>AaN a.1 a.2.1 a.2.2.1 a.2.2.2) AjO noE
theorem Ajd : Pd Tryz.prog 104 Afg:=by
 refine fn2 4 (Pk (l:=[(102,VU),(129,YM),(105,YN),(106,Ade),(131,Aek)]) (by simp [Xs,Aas,Aat,Afh,AhQ])) Tryz.func104<|?_
 rintro ⟨used1,from2,size3,align4⟩
 unfold AaN
 refine A 6 ?_
 refine sC (E:=fun (_s : Unit) (_g : Unit)=>[(0,.sl (used1.map Ql)),(1,.int .i64 from2),(2,.int .i64 size3),(3,.int .i64 align4)]) (O:=fun _ _=>[]) (j:=fun _=>ZJ used1 align4 size3 from2) ?_ ?_
 ·exact B
 ·rintro ⟨⟩ ⟨⟩ nn
  try dsimp only
  unfold ZJ
  refine A 7 ?_
  refine lP (E:=fun (s : Int) (_g : Unit)=>[(0,.sl (used1.map Ql)),(1,.int .i64 from2),(2,.int .i64 size3),(3,.int .i64 align4),(10,.int .i64 s)]) (O:=fun _ _=>[]) (body:=fun s=>ZH used1 align4 size3 from2 s) (s:=0) () ((hE ⟨rfl,r,r,r,r,trivial⟩ trivial))<|?_
  rintro i8 ⟨⟩ nn
  try dsimp only
  unfold ZH
  refine A 9 ?_
  refine cD r ?_ ?_
  ·exact B
  ·refine A 18 ?_
   refine lP (E:=fun (s : Int × Bool × Int) (_g : Unit)=>[(0,.sl (used1.map Ql)),(1,.int .i64 from2),(2,.int .i64 size3),(3,.int .i64 align4),(11,.int .i64 s.1),(12,.bool s.2.1),(13,.int .i64 s.2.2)]) (O:=fun _ _=>[]) (body:=fun s=>ZI used1 align4 size3 from2 s.1 s.2.1 s.2.2) (s:=(0,false,(-1))) () ((hE ⟨rfl,r,r,r,r,r,r,trivial⟩ trivial))<|?_
   rintro ⟨best11,found12,i13⟩ ⟨⟩ nn
   try dsimp only
   unfold ZI
   refine A 9 ?_
   refine cD r ?_ ?_
   ·refine A 10 ?_
    refine sC (E:=fun (s : Int) (_g : Unit)=>[(0,.sl (used1.map Ql)),(1,.int .i64 from2),(2,.int .i64 size3),(3,.int .i64 align4),(11,.int .i64 best11),(12,.bool found12),(13,.int .i64 i13),(14,.int .i64 s)]) (O:=fun _ _=>[]) (j:=fun s=>Vi align4 size3 used1 found12 i13 best11 s) ?_ ?_
    ·exact B
    ·rintro at14 ⟨⟩ nn
     try dsimp only
     unfold Vi
     exact B
   ·exact B

def VJ (a : (List Pn) × (List (List Int)) × Int) : List D:=[.sl (a.1.map Ph),.sl (a.2.1.map (eL Pa)),.int .i64 a.2.2]
def VI (ds : List D) : (List Pn) × (List (List Int)) × Int:=((uL YY) (ds.getD 0 .top),(uL (uL uI)) (ds.getD 1 .top),uI (ds.getD 2 .top))
theorem Ago (a : (List Pn) × (List (List Int)) × Int) : VI (VJ a) = a:=by simp [VI,VJ,uI,Qa (u:=YY) (en:=Ph) Aez,Qa (u:=(uL uI)) (en:=(eL Pa)) (Qa (u:=uI) (en:=Pa) (fun _=>rfl))]
instance : PA VJ VI:=⟨Ago⟩
def Ahl (b : (List Int) × Int) : D:=.tup [.sl (b.1.map Pa),.int .i64 b.2]
noncomputable def AcL : Dw.Spec:=Pe [] .val VJ VI (fun a=>Xf a.1 a.2.1 a.2.2) Ahl noE
theorem Agp : Pd Tryz.prog 76 AcL:=by
 refine fn2 3 (Pk (l:=[(100,AaR),(101,Adw),(102,VU),(103,AdE),(62,Wi),(104,Afg)]) (by simp [AcF,Aha,Xs,Ahm,Xd,Ajd])) Tryz.func76<|?_
 rintro ⟨s1,g2,from3⟩
 unfold Xf
 refine A 10 ?_
 refine bD fun r4 hr4=>?_
 refine A 10 ?_
 refine cD r ?_ ?_
 ·exact B
 ·refine A 2 ?_
  refine sC (E:=fun (_s : Unit) (_g : Unit)=>[(0,.sl (s1.map Ph)),(1,.sl (g2.map (eL Pa))),(2,.int .i64 from3)]) (O:=fun _ _=>[]) (j:=fun _=>WK s1 g2 from3) ?_ ?_
  ·exact B
  ·rintro ⟨⟩ ⟨⟩ nn
   try dsimp only
   unfold WK
   refine A 15 ?_
   refine bD fun r7 hr7=>?_
   refine A 11 ?_
   refine lP (E:=fun (s : (List Bool) × (List Int) × Int) (g : Nat × Nat × Nat)=>[(0,.sl (s1.map Ph)),(1,.sl (g2.map (eL Pa))),(2,.int .i64 from3),(9,.osl 9 g.1 0 s.2.1.length),(10,.osl 10 g.2.1 0 s.1.length),(11,.osl 11 g.2.2 0 r7.length),(12,.int .i64 s.2.2)]) (O:=fun s g=>[(9,some (g.1,⟨false,false,1,3,s.2.1.map Pa⟩)),(10,some (g.2.1,⟨false,false,1,4,s.1.map D.bool⟩)),(11,some (g.2.2,⟨false,false,1,3,r7.map Pa⟩))]) (body:=fun s=>WI r7 s1 g2 from3 s.1 s.2.1 s.2.2) (s:=(List.replicate (s1.length : Int).toNat false,List.replicate (s1.length : Int).toNat (0 : Int),0)) (_,_,_) ((hE ⟨rfl,r,r,r,r,r,r,trivial⟩ ⟨rfl,r,r,trivial⟩))<|?_
   rintro ⟨done8,off9,i10⟩ ⟨v9x2,v10x2,v11x2⟩ nn
   try dsimp only
   unfold WI
   refine A 9 ?_
   refine cD r ?_ ?_
   ·refine A 2 ?_
    refine bC (E:=fun (s : (List Bool) × (List Int)) (g : Nat × Nat × Nat)=>[(0,.sl (s1.map Ph)),(1,.sl (g2.map (eL Pa))),(2,.int .i64 from3),(9,.osl 9 g.1 0 s.2.length),(10,.osl 10 g.2.1 0 s.1.length),(11,.osl 11 g.2.2 0 r7.length),(12,.int .i64 i10)]) (O:=fun s g=>[(9,some (g.1,⟨false,false,1,3,s.2.map Pa⟩)),(10,some (g.2.1,⟨false,false,1,4,s.1.map D.bool⟩)),(11,some (g.2.2,⟨false,false,1,3,r7.map Pa⟩))]) (j:=fun s=>WL i10 s.1 s.2) ?_ ?_
    ·refine A 5 ?_
     refine bD fun order_e13 horder_e13=>?_
     refine A 16 ?_
     refine lP (E:=fun (s : (List Pp) × Int) (g : Nat × Nat × Nat × Nat)=>[(0,.sl (s1.map Ph)),(1,.sl (g2.map (eL Pa))),(2,.int .i64 from3),(9,.osl 9 g.1 0 off9.length),(10,.osl 10 g.2.1 0 done8.length),(11,.osl 11 g.2.2.1 0 r7.length),(12,.int .i64 i10),(13,.int .i64 order_e13),(14,.osl 14 g.2.2.2 0 s.1.length),(15,.int .i64 s.2)]) (O:=fun s g=>[(9,some (g.1,⟨false,false,1,3,off9.map Pa⟩)),(10,some (g.2.1,⟨false,false,1,4,done8.map D.bool⟩)),(11,some (g.2.2.1,⟨false,false,1,3,r7.map Pa⟩)),(14,some (g.2.2.2,⟨false,false,2,157,s.1.map Ql⟩))]) (body:=fun s=>WJ s1 done8 g2 order_e13 off9 from3 i10 s.1 s.2) (s:=(([] : List Pp),0)) (_,_,_,_) ((hE ⟨rfl,r,r,r,r,r,r,r,r,r,trivial⟩ ⟨rfl,r,r,r,trivial⟩))<|?_
     rintro ⟨used14,y15⟩ ⟨v9x3,v10x3,v11x3,v14x3⟩ nn
     try dsimp only
     unfold WJ
     refine A 9 ?_
     refine cD r ?_ ?_
     ·refine A 4 ?_
      refine sC (E:=fun (s : Bool) (g : Nat × Nat × Nat × Nat)=>[(0,.sl (s1.map Ph)),(1,.sl (g2.map (eL Pa))),(2,.int .i64 from3),(9,.osl 9 g.1 0 off9.length),(10,.osl 10 g.2.1 0 done8.length),(11,.osl 11 g.2.2.1 0 r7.length),(12,.int .i64 i10),(13,.int .i64 order_e13),(14,.osl 14 g.2.2.2 0 used14.length),(15,.int .i64 y15),(68,.bool s)]) (O:=fun _ g=>[(9,some (g.1,⟨false,false,1,3,off9.map Pa⟩)),(10,some (g.2.1,⟨false,false,1,4,done8.map D.bool⟩)),(11,some (g.2.2.1,⟨false,false,1,3,r7.map Pa⟩)),(14,some (g.2.2.2,⟨false,false,2,157,used14.map Ql⟩))]) (j:=fun s=>Tk y15 off9 s1 used14 s) ?_ ?_
      ·exact B
      ·rintro x16 ⟨v9x4,v10x4,v11x4,v14x4⟩ nn
       try dsimp only
       unfold Tk
       refine cD r ?_ ?_
       ·refine A 5 ?_
        refine bD fun off_e20 hoff_e20=>?_
        refine A 3 ?_
        refine bD fun x_x21 hx_x21=>?_
        refine A 4 ?_
        refine bS ([(Pp.mk off_e20 x_x21.Size)] : List Pp) Ql r r r (by simp) r r r<|?_
        exact B
       ·exact B
     ·exact B
    ·rintro ⟨done11,off12⟩ ⟨v9x5,v10x5,v11x5⟩ nn
     try dsimp only
     unfold WL
     exact B
   ·exact B

def Tu (a : Pt × Int × OX) : List D:=[Ss a.1,.int .i64 a.2.1,Qe a.2.2]
def Tt (ds : List D) : Pt × Int × OX:=(Zc (ds.getD 0 .top),uI (ds.getD 1 .top),Sn (ds.getD 2 .top))
theorem AfK (a : Pt × Int × OX) : Tt (Tu a) = a:=by simp [Tt,Tu,uI]
instance : PA Tu Tt:=⟨AfK⟩
def AbY (b : Pt) : D:=Ss b
noncomputable def AbZ : Dw.Spec:=Pe [] .val Tu Tt (fun a=>YS a.1 a.2.1 a.2.2) AbY noE
theorem AfL : Pd Tryz.prog 14 AbZ:=by
 refine fn2 3 (Pz) Tryz.func14<|?_
 rintro ⟨p1,i2,f3⟩
 unfold YS
 refine A 11 ?_
 refine cK fun hq=>aP (([] : List OX)) (p1.Funcs) Qe r r r r r r r (by simp) r r r (by simp) r (fun _=>r) r hq<|?_
 refine A 8 ?_
 refine cK fun hq=>iO (l:=([] : List OX) ++ p1.Funcs) (en:=Qe) r r r r r hq<|bD fun l_o4 hl_o4=>sE (l:=([] : List OX) ++ p1.Funcs) (en:=Qe) (q':=f3) r r r r r r r (by simp) hl_o4 r r r r r<|?_
 refine A 10 ?_
 refine Un (b:=(Pt.mk ((([] : List OX) ++ p1.Funcs).set i2.toNat f3))) r ?_ r r ?_ (by first | rfl | (simp only [OV]; rfl) | (simp only [OW]; rfl) | (simp only [OV,OW]; rfl) | simp [AbY,Ss])
 all_goals first|(simp;done)|(simp;omega)|rfl|(simp [PI,PO];done)

end Go.Proofs.YtpagjjmondojpaaGreatDoor
