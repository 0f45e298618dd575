/-
  Programs on typed data, and the proofs that the code does what they say; written by a program (dx.py).
-/
import Derived.Test.YtpagjjmondojpaaGreatDoorProg
import Derived.Test.YtpagjjmondojpaaGreatDoorDd
import Derived.KernelRfl
import Derived.Test.YtpagjjmondojpaaGreatDoorDxP
import Derived.Test.YtpagjjmondojpaaGreatDoorDxF1
import Derived.Test.YtpagjjmondojpaaGreatDoorDxF2
import Derived.Test.YtpagjjmondojpaaGreatDoorDxF3
namespace Go.Proofs.YtpagjjmondojpaaGreatDoor
open Go Go.Dw Go.Proofs
set_option maxRecDepth 100000
set_option maxHeartbeats 40000000
open Go.Dw renaming PI -> bD,OV -> cK,Acu -> bS,Acs -> aP,TH -> sE,Aae -> iO,AaT -> cD,Wq -> hE,Acw -> lP,Xc -> sC,Wp -> bC,rf -> r
noncomputable section
def VK (a : Nz × (List (List Int))) : List D:=[NP a.1,.sl (a.2.map (eL NH))]
def VJ (ds : List D) : Nz × (List (List Int)):=(QZ (ds.getD 0 .top),(uL (uL uI)) (ds.getD 1 .top))
theorem AjH (a : Nz × (List (List Int))) : VJ (VK a) = a:=by simp [VJ,VK,OY (u:=(uL uI)) (en:=(eL NH)) (OY (u:=uI) (en:=NH) (λ_=>rfl))]
instance : Ol VK VJ:=⟨AjH⟩
def Akp (b : (List Int)) : D:=.sl (b.map NH)
def AeG : Dw.Spec:=NJ [] (.row 1 3) VK VJ (λa=>UA a.1 a.2) Akp noE
theorem AjI : NG Tryz.prog 73 AeG:=by
 refine fn2 2 (NO (l:=[(97,AgD),(98,AgF)]) (by simp [Als,Aly])) Tryz.func73<|?_
 rintro ⟨f1,g2⟩
 unfold UA
 refine A 18 ?_
 refine lP (E:=λ(s : (List Int) × Int) (g : Nat × Nat)=>[(1,.sl (g2.map (eL NH))),(2,.optr 2 g.1 0 0),(5,.osl 5 g.2 0 s.1.length),(6,Nx s.2)]) (O:=λs g=>[(2,dV g.1 3 40 (NP f1)),(5,dW g.2 1 3 (s.1.map NH))]) (body:=λs=>WI f1 g2 s.1 s.2) (s:=(([] : List Int),0)) (_,_) ((hE ⟨rfl,r,r,r,trivial⟩ ⟨rfl,r,trivial⟩))<|?_
 rintro ⟨to3,s4⟩ ⟨v2x1,v5x1⟩ nn
 try dsimp only
 unfold WI
 refine A 10 ?_
 refine cD r ?_ ?_
 ·exact B
 ·refine A 8 ?_
  refine bD λr5 hr5=>?_
  refine A 11 ?_
  refine lP (E:=λ(s : (List Int) × Int) (g : Nat × Nat)=>[(1,.sl (g2.map (eL NH))),(5,.osl 5 g.1 0 s.1.length),(7,.osl 7 g.2 0 r5.length),(8,Nx s.2)]) (O:=λs g=>[(5,dW g.1 1 3 (s.1.map NH)),(7,dW g.2 2 149 (r5.map Tg))]) (body:=λs=>WJ r5 g2 s.1 s.2) (s:=(to3,0)) (_,_) ((hE ⟨rfl,r,r,r,trivial⟩ ⟨rfl,r,trivial⟩))<|?_
  rintro ⟨to6,i7⟩ ⟨v5x2,v7x2⟩ nn
  try dsimp only
  unfold WJ
  refine A 9 ?_
  refine cD r ?_ ?_
  ·refine A 2 ?_
   refine bC (E:=λ(s : (List Int)) (g : Nat × Nat)=>[(1,.sl (g2.map (eL NH))),(5,.osl 5 g.1 0 s.length),(7,.osl 7 g.2 0 r5.length),(8,Nx i7)]) (O:=λs g=>[(5,dW g.1 1 3 (s.map NH)),(7,dW g.2 2 149 (r5.map Tg))]) (j:=λs=>Qu i7 s) ?_ ?_
   ·refine A 6 ?_
    refine OZ r r r (by decide)<|bD λmoves_e9 hmoves_e9=>?_
    refine A 2 ?_
    refine bD λto_e10 hto_e10=>?_
    refine A 5 ?_
    refine OZ r r r (by decide)<|bD λmoves_e11 hmoves_e11=>?_
    refine A 2 ?_
    refine bD λto_e12 hto_e12=>?_
    refine A 5 ?_
    refine sC (E:=λ(s : Bool × Bool) (g : Nat × Nat)=>[(1,.sl (g2.map (eL NH))),(5,.osl 5 g.1 0 to6.length),(7,.osl 7 g.2 0 r5.length),(8,Nx i7),(9,Nx to_e10),(10,Nx to_e12),(51,.sl (g2.map (eL NH))),(52,.osl 5 g.1 0 to6.length),(53,Nx to_e10),(54,Nx to_e12),(55,.bool s.1),(56,.bool s.2)]) (O:=λ_ g=>[(5,dW g.1 1 3 (to6.map NH)),(7,dW g.2 2 149 (r5.map Tg))]) (j:=λs=>WL to_e10 to_e12 i7 to6 s.1 s.2) ?_ ?_
    ·exact B
    ·rintro ⟨x13,x14⟩ ⟨v5x3,v7x3⟩ nn
     try dsimp only
     unfold WL
     refine A 6 ?_
     refine lP (E:=λ(s : (List Int) × Int) (g : Nat × Nat)=>[(1,.sl (g2.map (eL NH))),(5,.osl 5 g.1 0 s.1.length),(7,.osl 7 g.2 0 r5.length),(8,Nx i7),(9,Nx to_e10),(10,Nx to_e12),(11,Nx s.2),(51,.sl (g2.map (eL NH))),(52,.osl 5 g.1 0 s.1.length),(53,Nx to_e10),(54,Nx to_e12),(55,.bool x13),(56,.bool x14)]) (O:=λs g=>[(5,dW g.1 1 3 (s.1.map NH)),(7,dW g.2 2 149 (r5.map Tg))]) (body:=λs=>WK to_e10 to_e12 i7 s.1 s.2) (s:=(to6,0)) (_,_) ((hE ⟨rfl,r,r,r,r,r,r,r,r,r,r,r,r,trivial⟩ ⟨rfl,r,trivial⟩))<|?_
     rintro ⟨to16,s17⟩ ⟨v5x4,v7x4⟩ nn
     try dsimp only
     unfold WK
     refine A 9 ?_
     refine cD r ?_ ?_
     ·refine A 4 ?_
      refine sC (E:=λ(s : Bool) (g : Nat × Nat)=>[(1,.sl (g2.map (eL NH))),(5,.osl 5 g.1 0 to16.length),(7,.osl 7 g.2 0 r5.length),(8,Nx i7),(9,Nx to_e10),(10,Nx to_e12),(11,Nx s17),(51,.sl (g2.map (eL NH))),(52,.osl 5 g.1 0 to16.length),(53,Nx to_e10),(54,Nx to_e12),(55,.bool x13),(56,.bool x14),(77,.bool s)]) (O:=λ_ g=>[(5,dW g.1 1 3 (to16.map NH)),(7,dW g.2 2 149 (r5.map Tg))]) (j:=λs=>Sr s17 to16 to_e10 to_e12 s) ?_ ?_
      ·exact B
      ·rintro x18 ⟨v5x5,v7x5⟩ nn
       try dsimp only
       unfold Sr
       exact B
     ·exact B
   ·rintro to8 ⟨v5x6,v7x6⟩ nn
    try dsimp only
    unfold Qu
    exact B
  ·exact B

def Aoe (b : Bool) : D:=.bool b
def AhN : Dw.Spec:=NJ [] .ground Ts Tq (λa=>AbH a.1 a.2.1 a.2.2) Aoe noE
theorem AmO : NG Tryz.prog 99 AhN:=by
 refine fn2 3 (NO (l:=[(61,Tk),(62,Vv)]) (by simp [Ub,Wf])) Tryz.func99<|?_
 intro a
 unfold AbH
 exact B

def Zs (a : Nz × NQ × (List Int)) : List D:=[NP a.1,PO a.2.1,.sl (a.2.2.map NH)]
def Zr (ds : List D) : Nz × NQ × (List Int):=(QZ (ds.getD 0 .top),VQ (ds.getD 1 .top),(uL uI) (ds.getD 2 .top))
theorem AmM (a : Nz × NQ × (List Int)) : Zr (Zs a) = a:=by simp [Zr,Zs,OY (u:=uI) (en:=NH) (λ_=>rfl)]
instance : Ol Zs Zr:=⟨AmM⟩
def Aod (b : (List Bool)) : D:=.sl (b.map D.bool)
def AhM : Dw.Spec:=NJ [] (.row 1 4) Zs Zr (λa=>Zq a.1 a.2.1 a.2.2) Aod noE
theorem AmN : NG Tryz.prog 74 AhM:=by
 refine fn2 3 (NO (l:=[(99,AhN)]) (by simp [AmO])) Tryz.func74<|?_
 rintro ⟨f1,l2,to3⟩
 unfold Zq
 refine A 19 ?_
 refine lP (E:=λ(s : (List Bool) × Int) (g : Nat × Nat × Nat)=>[(2,.sl (to3.map NH)),(3,.optr 3 g.1 0 0),(4,.optr 4 g.2.1 0 0),(7,.osl 7 g.2.2 0 s.1.length),(8,Nx s.2)]) (O:=λs g=>[(3,dV g.1 3 40 (NP f1)),(4,dV g.2.1 1 29 (.agg [.sl (l2.Out.map (eL NH))])),(7,dW g.2.2 1 4 (s.1.map D.bool))]) (body:=λs=>Aat f1 l2 to3 s.1 s.2) (s:=(([] : List Bool),0)) (_,_,_) ((hE ⟨rfl,r,r,r,r,trivial⟩ ⟨rfl,r,r,trivial⟩))<|?_
 rintro ⟨out4,k5⟩ ⟨v3x1,v4x1,v7x1⟩ nn
 try dsimp only
 unfold Aat
 exact B

def AmK (b : Bool) : D:=.bool b
def AgE : Dw.Spec:=NJ [] .ground SV SU (λa=>Aab a.1 a.2) AmK noE
theorem Alw : NG Tryz.prog 59 AgE:=by
 refine fn2 2 (Od) Tryz.func59<|?_
 rintro ⟨f1,to2⟩
 unfold Aab
 refine A 17 ?_
 refine cD r ?_ ?_
 ·exact B
 ·refine A 9 ?_
  refine lP (E:=λ(s : Int) (g : Nat)=>[(1,.sl (to2.map NH)),(2,.optr 2 g 0 0),(5,Nx s)]) (O:=λ_ g=>[(2,dV g 3 40 (NP f1))]) (body:=λs=>Zl to2 f1 s) (s:=0) _ ((hE ⟨rfl,r,r,trivial⟩ ⟨rfl,trivial⟩))<|?_
  rintro s3 v2x1 nn
  try dsimp only
  unfold Zl
  refine A 9 ?_
  refine cD r ?_ ?_
  ·exact B
  ·refine A 12 ?_
   refine lP (E:=λ(s : Int) (g : Nat)=>[(1,.sl (to2.map NH)),(2,.optr 2 g 0 0),(6,Nx s)]) (O:=λ_ g=>[(2,dV g 3 40 (NP f1))]) (body:=λs=>Zm to2 f1 s) (s:=0) _ ((hE ⟨rfl,r,r,trivial⟩ ⟨rfl,trivial⟩))<|?_
   rintro s6 v2x2 nn
   try dsimp only
   unfold Zm
   exact B

def AmP (b : Int) : D:=Nx b
def Aau : Dw.Spec:=NJ [] .ground QV QU (λa=>Vx a.1 a.2) AmP noE
theorem Acx : NG Tryz.prog 31 Aau:=by
 refine fn2 2 (NO (l:=[(59,AgE),(60,ZK)]) (by simp [Alw,AcV])) Tryz.func31<|?_
 rintro ⟨f1,r2⟩
 unfold Vx
 refine A 7 ?_
 refine sC (E:=λ(_s : Unit) (g : Nat × Nat)=>[(2,.optr 2 g.1 0 0),(3,.optr 3 g.2 0 0)]) (O:=λ_ g=>[(2,dV g.1 3 40 (NP f1)),(3,dV g.2 2 33 (.agg [.sl (r2.To.map NH),.sl (r2.Keep.map D.bool)]))]) (j:=λ_=>Zw f1 r2) ?_ ?_
 ·exact B
 ·rintro ⟨⟩ ⟨v2x1,v3x1⟩ nn
  try dsimp only
  unfold Zw
  refine A 7 ?_
  refine lP (E:=λ(s : Int) (g : Nat × Nat)=>[(2,.optr 2 g.1 0 0),(3,.optr 3 g.2 0 0),(5,Nx s)]) (O:=λ_ g=>[(2,dV g.1 3 40 (NP f1)),(3,dV g.2 2 33 (.agg [.sl (r2.To.map NH),.sl (r2.Keep.map D.bool)]))]) (body:=λs=>Zv f1 r2 s) (s:=0) (_,_) ((hE ⟨rfl,r,r,trivial⟩ ⟨rfl,r,trivial⟩))<|?_
  rintro k4 ⟨v2x2,v3x2⟩ nn
  try dsimp only
  unfold Zv
  exact B

def VI (a : Int × (List Int)) : List D:=[Nx a.1,.sl (a.2.map NH)]
def VH (ds : List D) : Int × (List Int):=(uI (ds.getD 0 .top),(uL uI) (ds.getD 1 .top))
theorem AjD (a : Int × (List Int)) : VH (VI a) = a:=by simp [VH,VI,uI,OY (u:=uI) (en:=NH) (λ_=>rfl)]
instance : Ol VI VH:=⟨AjD⟩
def Akm (b : Int) : D:=Nx b
def AeE : Dw.Spec:=NJ [] .ground VI VH (λa=>RX a.1 a.2) Akm noE
theorem AjE : NG Tryz.prog 64 AeE:=by
 refine fn2 2 (Od) Tryz.func64<|?_
 intro a
 unfold RX
 exact B

def Akl (b : NC) : D:=Oo b
def AbC : Dw.Spec:=NJ [] .ground Uv Uu (λa=>Uw a.1 a.2) Akl noE
theorem Aea : NG Tryz.prog 37 AbC:=by
 refine fn2 2 (NO (l:=[(64,AeE)]) (by simp [AjE])) Tryz.func37<|?_
 intro a
 unfold Uw
 exact B

def Aof (b : (List Int)) : D:=.sl (b.map NH)
def AhP : Dw.Spec:=NJ [] (.row 1 3) QV QU (λa=>AbJ a.1 a.2) Aof noE
theorem AmQ : NG Tryz.prog 33 AhP:=by
 refine fn2 2 (NO (l:=[(37,AbC),(63,Aeb),(52,Xk),(61,Tk),(42,Xw)]) (by simp [Aea,Agz,YR,Ub,Yx])) Tryz.func33<|?_
 rintro ⟨f1,r2⟩
 unfold AbJ
 refine A 19 ?_
 refine lP (E:=λ(s : (List Int) × Int) (g : Nat × Nat × Nat)=>[(2,.optr 2 g.1 0 0),(3,.optr 3 g.2.1 0 0),(5,.osl 5 g.2.2 0 s.1.length),(6,Nx s.2)]) (O:=λs g=>[(2,dV g.1 3 40 (NP f1)),(3,dV g.2.1 2 33 (.agg [.sl (r2.To.map NH),.sl (r2.Keep.map D.bool)])),(5,dW g.2.2 1 3 (s.1.map NH))]) (body:=λs=>Aav f1 r2 s.1 s.2) (s:=(([] : List Int),0)) (_,_,_) ((hE ⟨rfl,r,r,r,trivial⟩ ⟨rfl,r,r,trivial⟩))<|?_
 rintro ⟨out3,k4⟩ ⟨v2x1,v3x1,v5x1⟩ nn
 try dsimp only
 unfold Aav
 refine sC (E:=λ(_s : Unit) (g : Nat × Nat × Nat)=>[(2,.optr 2 g.1 0 0),(3,.optr 3 g.2.1 0 0),(5,.osl 5 g.2.2 0 out3.length),(6,Nx k4),(16,Nx k4),(17,.optr 3 g.2.1 0 1),(18,.sl (r2.Keep.map D.bool)),(19,Nx (r2.Keep.length : Int)),(20,.bool (decide (k4 < (r2.Keep.length : Int))))]) (O:=λ_ g=>[(2,dV g.1 3 40 (NP f1)),(3,dV g.2.1 2 33 (.agg [.sl (r2.To.map NH),.sl (r2.Keep.map D.bool)])),(5,dW g.2.2 1 3 (out3.map NH))]) (j:=λ_=>Aaw r2 k4 out3 f1) ?_ ?_
 ·exact B
 ·rintro ⟨⟩ ⟨v2x2,v3x2,v5x2⟩ nn
  try dsimp only
  unfold Aaw
  exact B

def VM (a : NM × (List Int)) : List D:=[TL a.1,.sl (a.2.map NH)]
def VL (ds : List D) : NM × (List Int):=(AaW (ds.getD 0 .top),(uL uI) (ds.getD 1 .top))
theorem AjK (a : NM × (List Int)) : VL (VM a) = a:=by simp [VL,VM,OY (u:=uI) (en:=NH) (λ_=>rfl)]
instance : Ol VM VL:=⟨AjK⟩
def Akt (b : (List Int)) : D:=.sl (b.map NH)
def AeI : Dw.Spec:=NJ [] (.row 1 3) VM VL (λa=>Xo a.1 a.2) Akt noE
theorem AjL : NG Tryz.prog 35 AeI:=by
 refine fn2 2 (Od) Tryz.func35<|?_
 rintro ⟨r1,used2⟩
 unfold Xo
 refine A 18 ?_
 refine lP (E:=λ(s : (List Int) × Int) (g : Nat × Nat)=>[(1,.sl (used2.map NH)),(2,.optr 2 g.1 0 0),(5,.osl 5 g.2 0 s.1.length),(6,Nx s.2)]) (O:=λs g=>[(2,dV g.1 2 33 (.agg [.sl (r1.To.map NH),.sl (r1.Keep.map D.bool)])),(5,dW g.2 1 3 (s.1.map NH))]) (body:=λs=>WQ r1 used2 s.1 s.2) (s:=(([] : List Int),0)) (_,_) ((hE ⟨rfl,r,r,r,trivial⟩ ⟨rfl,r,trivial⟩))<|?_
 rintro ⟨out3,s4⟩ ⟨v2x1,v5x1⟩ nn
 try dsimp only
 unfold WQ
 refine A 10 ?_
 refine cD r ?_ ?_
 ·refine A 2 ?_
  refine bC (E:=λ(s : (List Int)) (g : Nat × Nat)=>[(1,.sl (used2.map NH)),(2,.optr 2 g.1 0 0),(5,.osl 5 g.2 0 s.length),(6,Nx s4)]) (O:=λs g=>[(2,dV g.1 2 33 (.agg [.sl (r1.To.map NH),.sl (r1.Keep.map D.bool)])),(5,dW g.2 1 3 (s.map NH))]) (j:=λs=>WS s4 s) ?_ ?_
  ·refine A 12 ?_
   refine lP (E:=λ(s : Int × Int) (g : Nat × Nat)=>[(1,.sl (used2.map NH)),(2,.optr 2 g.1 0 0),(5,.osl 5 g.2 0 out3.length),(6,Nx s4),(7,Nx s.1),(8,Nx s.2)]) (O:=λ_ g=>[(2,dV g.1 2 33 (.agg [.sl (r1.To.map NH),.sl (r1.Keep.map D.bool)])),(5,dW g.2 1 3 (out3.map NH))]) (body:=λs=>WR used2 r1 s4 out3 s.1 s.2) (s:=(0,0)) (_,_) ((hE ⟨rfl,r,r,r,r,r,trivial⟩ ⟨rfl,r,trivial⟩))<|?_
   rintro ⟨n6,i7⟩ ⟨v2x2,v5x2⟩ nn
   try dsimp only
   unfold WR
   exact B
  ·rintro out5 ⟨v2x3,v5x3⟩ nn
   try dsimp only
   unfold WS
   exact B
 ·exact B

def WO (a : NM) : List D:=[TL a]
def WN (ds : List D) : NM:=AaW (ds.getD 0 .top)
theorem Akr (a : NM) : WN (WO a) = a:=by simp [WN,WO]
instance : Ol WO WN:=⟨Akr⟩
def Alz (b : (List Int)) : D:=.sl (b.map NH)
def AfB : Dw.Spec:=NJ [] (.row 1 3) WO WN (λa=>Yy a) Alz noE
theorem Aks : NG Tryz.prog 36 AfB:=by
 refine fn2 1 (Od) Tryz.func36<|?_
 intro r1
 unfold Yy
 refine A 23 ?_
 refine lP (E:=λ(s : (List Int) × Int × Int) (g : Nat × Nat)=>[(1,.optr 1 g.1 0 0),(3,.osl 3 g.2 0 s.1.length),(4,Nx s.2.1),(5,Nx s.2.2)]) (O:=λs g=>[(1,dV g.1 2 33 (.agg [.sl (r1.To.map NH),.sl (r1.Keep.map D.bool)])),(3,dW g.2 1 3 (s.1.map NH))]) (body:=λs=>XV r1 s.1 s.2.1 s.2.2) (s:=(([] : List Int),0,0)) (_,_) ((hE ⟨rfl,r,r,r,trivial⟩ ⟨rfl,r,trivial⟩))<|?_
 rintro ⟨out2,n3,k4⟩ ⟨v1x1,v3x1⟩ nn
 try dsimp only
 unfold XV
 exact B

def AgG (b : Nz × Int) : D:=.tup [NP b.1,Nx b.2]
def Adh : Dw.Spec:=NJ [] .val QV QU (λa=>RG a.1 a.2) AgG noE
theorem AfA : NG Tryz.prog 13 Adh:=by
 refine fn2 2 (NO (l:=[(31,Aau),(33,AhP),(34,AbG),(35,AeI),(36,AfB),(37,AbC)]) (by simp [Acx,AmQ,Aec,AjL,Aks,Aea])) Tryz.func13<|?_
 rintro ⟨f1,r2⟩
 unfold RG
 refine A 13 ?_
 refine bD λr3 hr3=>?_
 refine A 10 ?_
 refine cD r ?_ ?_
 ·refine A 10 ?_
  refine Rb (b:=((Nz.mk 0 ([]) ([])),r3)) r ?_ r r ?_ (by first | rfl | (simp only [Nw]; rfl) | (simp only [NA]; rfl) | (simp only [Nw,NA]; rfl) | simp [AgG,NP]) (by decide)
  all_goals first|(simp;done)|(simp;omega)|rfl|(simp [OK,OP];done)
 ·refine A 6 ?_
  refine bD λr4 hr4=>?_
  refine A 20 ?_
  refine lP (E:=λ(s : (List NV) × Int) (g : Nat × Nat × Nat × Nat × Nat)=>[(2,.optr 2 g.1 0 0),(3,.optr 3 g.2.1 0 0),(4,.optr 4 g.2.2.1 0 0),(7,.osl 7 g.2.2.2.1 0 r4.length),(8,.optr 8 g.2.2.2.2 0 0),(9,Nx s.2)]) (O:=λs g=>[(2,dV g.1 3 40 (NP f1)),(3,dV g.2.1 2 33 (.agg [.sl (r2.To.map NH),.sl (r2.Keep.map D.bool)])),(4,dV g.2.2.1 3 40 (.agg [Nx 0,.nils,.nils])),(7,dW g.2.2.2.1 1 3 (r4.map NH)),(8,dV g.2.2.2.2 3 40 (.agg [Nx f1.Params,.sl (s.1.map OM),.nils]))]) (body:=λs=>Zt r4 f1 r2 s.1 s.2) (s:=([],0)) (_,_,_,_,_) ((Acd [] trivial ⟨(OI r),(OI r),(OI r),(OI r),(OI r),(OI r),trivial⟩ ⟨(.inl r),(.inl r),(.inl r),(.inl r),(.inr ⟨_,_,_,_,r,r,r,r,AaA r ⟨(UF r),(Yg OM r),(UF r),trivial⟩⟩),trivial⟩))<|?_
  rintro ⟨out5,i6⟩ ⟨v2x1,v3x1,v4x1,v7x1,v8x1⟩ nn
  try dsimp only
  unfold Zt
  refine A 9 ?_
  refine cD r ?_ ?_
  ·refine A 2 ?_
   refine bC (E:=λ(_s : (List NV)) (g : Nat × Nat × Nat × Nat × Nat × Nat)=>[(2,.optr 2 g.1 0 0),(3,.optr 3 g.2.1 0 0),(4,.optr 4 g.2.2.1 0 0),(7,.osl 7 g.2.2.2.1 0 r4.length),(8,.optr 8 g.2.2.2.2.1 0 0),(9,Nx i6)]) (O:=λs g=>[(2,dV g.1 3 40 (NP f1)),(3,dV g.2.1 2 33 (.agg [.sl (r2.To.map NH),.sl (r2.Keep.map D.bool)])),(4,dV g.2.2.1 3 40 (.agg [Nx 0,.nils,.nils])),(7,dW g.2.2.2.1 1 3 (r4.map NH)),(8,dV g.2.2.2.2.1 3 40 (.agg [Nx f1.Params,.osl 13 g.2.2.2.2.2 0 s.length,.nils])),(13,dW g.2.2.2.2.2 2 67 (s.map OM))]) (j:=λs=>Zu i6 s) ?_ ?_
   ·refine A 7 ?_
    refine bD λused_e8 hused_e8=>?_
    refine A 1 ?_
    refine bD λx_x9 hx_x9=>?_
    refine A 13 ?_
    refine bD λused_e10 hused_e10=>?_
    refine A 1 ?_
    refine bD λr11 hr11=>?_
    refine A 11 ?_
    refine lP (E:=λ(s : Int × Int) (g : Nat × Nat × Nat × Nat × Nat × Nat × Nat)=>[(2,.optr 2 g.1 0 0),(3,.optr 3 g.2.1 0 0),(4,.optr 4 g.2.2.1 0 0),(7,.osl 7 g.2.2.2.1 0 r4.length),(8,.optr 8 g.2.2.2.2.1 0 0),(9,Nx i6),(10,.optr 10 g.2.2.2.2.2.1 0 0),(11,.osl 11 g.2.2.2.2.2.2 0 r11.length),(12,Nx s.2)]) (O:=λs g=>[(2,dV g.1 3 40 (NP f1)),(3,dV g.2.1 2 33 (.agg [.sl (r2.To.map NH),.sl (r2.Keep.map D.bool)])),(4,dV g.2.2.1 3 40 (.agg [Nx 0,.nils,.nils])),(7,dW g.2.2.2.1 1 3 (r4.map NH)),(8,dV g.2.2.2.2.1 3 40 (.agg [Nx f1.Params,.sl (out5.map OM),.nils])),(10,dV g.2.2.2.2.2.1 2 67 (.agg [Nx x_x9.Size,Nx s.1])),(11,dW g.2.2.2.2.2.2 1 3 (r11.map NH))]) (body:=λs=>Wm r11 f1 out5 x_x9 i6 s.1 s.2) (s:=(x_x9.Align,0)) (_,_,_,_,_,_,_) ((hE ⟨rfl,r,r,r,r,r,r,r,r,trivial⟩ ⟨rfl,r,r,r,r,r,r,trivial⟩))<|?_
    rintro ⟨s12,k13⟩ ⟨v2x2,v3x2,v4x2,v7x2,v8x2,v10x2,v11x2⟩ nn
    try dsimp only
    unfold Wm
    refine A 9 ?_
    refine cD r ?_ ?_
    ·exact B
    ·refine A 11 ?_
     refine bS ([(NV.mk x_x9.Size s12)] : List NV) OM r r r (by simp) r r r<|?_
     exact B
   ·rintro slots7 ⟨v2x3,v3x3,v4x3,v7x3,v8x3,v13x3⟩ nn
    try dsimp only
    unfold Zu
    refine A 5 ?_
    exact wf [13] λ_=>B
  ·refine A 9 ?_
   refine bD λr16 hr16=>?_
   refine A 2 ?_
   refine bD λr17 hr17=>?_
   refine A 12 ?_
   refine lP (E:=λ(s : (List NC) × Int) (g : Nat × Nat × Nat × Nat × Nat × Nat)=>[(2,.optr 2 g.1 0 0),(3,.optr 3 g.2.1 0 0),(4,.optr 4 g.2.2.1 0 0),(8,.optr 8 g.2.2.2.1 0 0),(14,.osl 14 g.2.2.2.2.1 0 r16.length),(15,.osl 15 g.2.2.2.2.2 0 r17.length),(16,Nx s.2)]) (O:=λs g=>[(2,dV g.1 3 40 (NP f1)),(3,dV g.2.1 2 33 (.agg [.sl (r2.To.map NH),.sl (r2.Keep.map D.bool)])),(4,dV g.2.2.1 3 40 (.agg [Nx 0,.nils,.nils])),(8,dV g.2.2.2.1 3 40 (.agg [Nx f1.Params,.sl (out5.map OM),.sl (s.1.map Oo)])),(14,dW g.2.2.2.2.1 1 3 (r16.map NH)),(15,dW g.2.2.2.2.2 1 3 (r17.map NH))]) (body:=λs=>Wn f1 r2 r16 r17 out5 s.1 s.2) (s:=([],0)) (_,_,_,_,_,_) ((Acd [] trivial ⟨(OI r),(OI r),(OI r),(OI r),(OI r),(OI r),(OI r),trivial⟩ ⟨(.inl r),(.inl r),(.inl r),(.inr ⟨_,_,_,_,r,r,r,r,AaA r ⟨(UF r),(UF r),(Yg Oo r),trivial⟩⟩),(.inl r),(.inl r),trivial⟩))<|?_
   rintro ⟨out18,k19⟩ ⟨v2x4,v3x4,v4x4,v8x4,v14x4,v15x4⟩ nn
   try dsimp only
   unfold Wn
   refine A 10 ?_
   refine cD r ?_ ?_
   ·refine A 10 ?_
    refine bD λx_x20 hx_x20=>?_
    refine A 5 ?_
    refine cD r ?_ ?_
    ·exact B
    ·refine A 7 ?_
     refine bD λx_x21 hx_x21=>?_
     refine A 3 ?_
     refine bD λr22 hr22=>?_
     refine A 5 ?_
     refine sC (E:=λ(_s : Int × Int) (g : Nat × Nat × Nat × Nat × Nat × Nat × Nat)=>[(2,.optr 2 g.1 0 0),(3,.optr 3 g.2.1 0 0),(4,.optr 4 g.2.2.1 0 0),(8,.optr 8 g.2.2.2.1 0 0),(14,.osl 14 g.2.2.2.2.1 0 r16.length),(15,.osl 15 g.2.2.2.2.2.1 0 r17.length),(16,Nx k19),(17,.optr 17 g.2.2.2.2.2.2 0 0)]) (O:=λs g=>[(2,dV g.1 3 40 (NP f1)),(3,dV g.2.1 2 33 (.agg [.sl (r2.To.map NH),.sl (r2.Keep.map D.bool)])),(4,dV g.2.2.1 3 40 (.agg [Nx 0,.nils,.nils])),(8,dV g.2.2.2.1 3 40 (.agg [Nx f1.Params,.sl (out5.map OM),.sl (out18.map Oo)])),(14,dW g.2.2.2.2.1 1 3 (r16.map NH)),(15,dW g.2.2.2.2.2.1 1 3 (r17.map NH)),(17,dV g.2.2.2.2.2.2 5 69 (.agg [Nx r22.Op,Nx s.1,Nx s.2,Nx r22.C,Ob r22.Imm]))]) (j:=λs=>Ss out18 r22 k19 s.1 s.2) ?_ ?_
     ·exact B
     ·rintro ⟨x23,x24⟩ ⟨v2x5,v3x5,v4x5,v8x5,v14x5,v15x5,v17x5⟩ nn
      try dsimp only
      unfold Ss
      refine A 6 ?_
      refine bS ([(NC.mk r22.Op x23 x24 r22.C r22.Imm)] : List NC) Oo r r r (by simp) r r r<|?_
      refine A 16 ?_
      exact wf [18] λ_=>B
   ·exact B

def Alu (b : (List (List Int)) × Int) : D:=.tup [.sl (b.1.map (eL NH)),Nx b.2]
def Afy : Dw.Spec:=NJ [] .val OQ OO (λa=>AbF a.1 a.2) Alu noE
theorem Ako : NG Tryz.prog 75 Afy:=by
 refine fn2 2 (NO (l:=[(96,Adg)]) (by simp [Afz])) Tryz.func75<|?_
 intro a
 unfold AbF
 exact B

def TT (a : NN × Int) : List D:=[QT a.1,Nx a.2]
def TS (ds : List D) : NN × Int:=(Vy (ds.getD 0 .top),uI (ds.getD 1 .top))
theorem AmT (a : NN × Int) : TS (TT a) = a:=by simp [TS,TT,uI]
instance : Ol TT TS:=⟨AmT⟩
def Aoi (b : Int) : D:=Nx b
def Aeg : Dw.Spec:=NJ [] .ground TT TS (λa=>ZA a.1 a.2) Aoi noE
theorem AgJ : NG Tryz.prog 77 Aeg:=by
 refine fn2 2 (Od) Tryz.func77<|?_
 rintro ⟨p1,i2⟩
 unfold ZA
 refine A 16 ?_
 refine bD λx_x3 hx_x3=>?_
 refine A 13 ?_
 refine lP (E:=λ(s : Int × Int) (g : Nat)=>[(2,.optr 2 g 0 0),(5,Nx s.1),(6,.sl (x_x3.Code.map Oo)),(7,Nx s.2)]) (O:=λ_ g=>[(2,dV g 1 26 (.agg [.sl (p1.Funcs.map NP)]))]) (body:=λs=>Aaz x_x3 p1 s.1 s.2) (s:=(0,0)) _ ((hE ⟨rfl,r,r,r,trivial⟩ ⟨rfl,trivial⟩))<|?_
 rintro ⟨n4,k5⟩ v2x1 nn
 try dsimp only
 unfold Aaz
 exact B

def AnQ (b : Bool) : D:=.bool b
def AdS : Dw.Spec:=NJ [] .ground OH OG (λa=>SG a) AnQ noE
theorem Agp : NG Tryz.prog 128 AdS:=by
 refine fn2 1 (Od) Tryz.func128<|?_
 intro a
 unfold SG
 exact B

def Amm (b : Bool) : D:=.bool b
def Aal : Dw.Spec:=NJ [] .ground OH OG (λa=>Re a) Amm noE
theorem Acj : NG Tryz.prog 129 Aal:=by
 refine fn2 1 (Od) Tryz.func129<|?_
 intro n1
 unfold Re
 refine A 12 ?_
 refine lP (E:=λ(s : Int) (_g : Unit)=>[(0,Nx n1),(3,Nx s)]) (O:=λ_ _=>[]) (body:=λs=>Wc n1 s) (s:=1) () ((hE ⟨rfl,r,trivial⟩ trivial))<|?_
 rintro k2 ⟨⟩ nn
 try dsimp only
 unfold Wc
 exact B

def Tj (a : (List NV)) : List D:=[.sl (a.map OM)]
def Ti (ds : List D) : (List NV):=(uL AaB) (ds.getD 0 .top)
theorem Ald (a : (List NV)) : Ti (Tj a) = a:=by simp [Ti,Tj,OY (u:=AaB) (en:=OM) Aib]
instance : Ol Tj Ti:=⟨Ald⟩
def Amo (b : Int) : D:=Nx b
def Aan : Dw.Spec:=NJ [] .ground Tj Ti (λa=>SI a) Amo noE
theorem Acl : NG Tryz.prog 100 Aan:=by
 refine fn2 1 (NO (l:=[(128,AdS),(129,Aal)]) (by simp [Agp,Acj])) Tryz.func100<|?_
 intro s1
 unfold SI
 refine A 13 ?_
 refine cD r ?_ ?_
 ·exact B
 ·refine A 9 ?_
  refine lP (E:=λ(s : Int) (_g : Unit)=>[(0,.sl (s1.map OM)),(3,Nx s)]) (O:=λ_ _=>[]) (body:=λs=>Wd s1 s) (s:=0) () ((hE ⟨rfl,r,trivial⟩ trivial))<|?_
  rintro i2 ⟨⟩ nn
  try dsimp only
  unfold Wd
  exact B

def XQ (a : (List (List Int)) × Int) : List D:=[.sl (a.1.map (eL NH)),Nx a.2]
def XP (ds : List D) : (List (List Int)) × Int:=((uL (uL uI)) (ds.getD 0 .top),uI (ds.getD 1 .top))
theorem Alp (a : (List (List Int)) × Int) : XP (XQ a) = a:=by simp [XP,XQ,uI,OY (u:=(uL uI)) (en:=(eL NH)) (OY (u:=uI) (en:=NH) (λ_=>rfl))]
instance : Ol XQ XP:=⟨Alp⟩
def AmG (b : Bool) : D:=.bool b
def AgB : Dw.Spec:=NJ [] .ground XQ XP (λa=>ZY a.1 a.2) AmG noE
theorem Alq : NG Tryz.prog 101 AgB:=by
 refine fn2 2 (NO (l:=[(91,Adc),(62,Vv)]) (by simp [Afq,Wf])) Tryz.func101<|?_
 rintro ⟨g1,n2⟩
 unfold ZY
 refine A 14 ?_
 refine cD r ?_ ?_
 ·exact B
 ·refine A 9 ?_
  refine lP (E:=λ(s : Int) (_g : Unit)=>[(0,.sl (g1.map (eL NH))),(1,Nx n2),(5,Nx s)]) (O:=λ_ _=>[]) (body:=λs=>Zd n2 g1 s) (s:=0) () ((hE ⟨rfl,r,r,trivial⟩ trivial))<|?_
  rintro x3 ⟨⟩ nn
  try dsimp only
  unfold Zd
  refine A 8 ?_
  refine cD r ?_ ?_
  ·refine A 2 ?_
   refine bC (E:=λ(s : (List Int) × (List Int) × Bool) (_g : Unit)=>[(0,.sl (g1.map (eL NH))),(1,Nx n2),(5,Nx x3),(24,.sl (g1.map (eL NH))),(25,Nx x3),(26,.fptr (.sl (s.1.map NH)) 0),(27,.sl (s.2.1.map NH)),(28,Nx x3),(29,.bool s.2.2)]) (O:=λ_ _=>[]) (j:=λs=>Zf x3 s.1 s.2.1 s.2.2) ?_ ?_
   ·refine sC (E:=λ(s : (List Int) × (List Int) × Bool) (_g : Unit)=>[(0,.sl (g1.map (eL NH))),(1,Nx n2),(5,Nx x3),(24,.sl (g1.map (eL NH))),(25,Nx x3),(26,.fptr (.sl (s.1.map NH)) 0),(27,.sl (s.2.1.map NH)),(28,Nx x3),(29,.bool s.2.2)]) (O:=λ_ _=>[]) (j:=λs=>Zg g1 x3 n2 s.1 s.2.1 s.2.2) ?_ ?_
    ·exact B
    ·rintro ⟨x7,x8,x9⟩ ⟨⟩ nn
     try dsimp only
     unfold Zg
     refine A 6 ?_
     refine lP (E:=λ(s : Int) (_g : Unit)=>[(0,.sl (g1.map (eL NH))),(1,Nx n2),(5,Nx x3),(6,Nx s),(24,.sl (g1.map (eL NH))),(25,Nx x3),(26,.fptr (.sl (x7.map NH)) 0),(27,.sl (x8.map NH)),(28,Nx x3),(29,.bool x9)]) (O:=λ_ _=>[]) (body:=λs=>Ze g1 x3 n2 x7 x8 x9 s) (s:=0) () ((hE ⟨rfl,r,r,r,r,r,r,r,r,r,trivial⟩ trivial))<|?_
     rintro i14 ⟨⟩ nn
     try dsimp only
     unfold Ze
     exact B
   ·rintro ⟨x4,x5,x6⟩ ⟨⟩ nn
    try dsimp only
    unfold Zf
    exact B
  ·exact B

def Aml (b : Bool) : D:=.bool b
def Xh : Dw.Spec:=NJ [] .ground OH OG (λa=>RF a) Aml noE
theorem YO : NG Tryz.prog 102 Xh:=by
 refine fn2 1 (Od) Tryz.func102<|?_
 intro a
 unfold RF
 exact B

def WX (a : NV × NV) : List D:=[OM a.1,OM a.2]
def WV (ds : List D) : NV × NV:=(AaB (ds.getD 0 .top),AaB (ds.getD 1 .top))
theorem Akw (a : NV × NV) : WV (WX a) = a:=by simp [WV,WX]
instance : Ol WX WV:=⟨Akw⟩
def AlD (b : Bool) : D:=.bool b
def AfD : Dw.Spec:=NJ [] .ground WX WV (λa=>YA a.1 a.2) AlD noE
theorem Akx : NG Tryz.prog 130 AfD:=by
 refine fn2 2 (Od) Tryz.func130<|?_
 intro a
 unfold YA
 exact B

def AmS (b : (List Int)) : D:=.sl (b.map NH)
def AgI : Dw.Spec:=NJ [] (.row 1 3) Tj Ti (λa=>Aaf a) AmS noE
theorem AlC : NG Tryz.prog 103 AgI:=by
 refine fn2 1 (NO (l:=[(130,AfD)]) (by simp [Akx])) Tryz.func103<|?_
 intro s1
 unfold Aaf
 refine A 17 ?_
 refine lP (E:=λ(s : (List Int) × Int) (g : Nat)=>[(0,.sl (s1.map OM)),(3,.osl 3 g 0 s.1.length),(4,Nx s.2)]) (O:=λs g=>[(3,dW g 1 3 (s.1.map NH))]) (body:=λs=>Zx s1 s.1 s.2) (s:=(([] : List Int),0)) _ ((hE ⟨rfl,r,r,trivial⟩ ⟨rfl,trivial⟩))<|?_
 rintro ⟨out2,i3⟩ v3x1 nn
 try dsimp only
 unfold Zx
 refine A 9 ?_
 refine cD r ?_ ?_
 ·refine A 2 ?_
  refine bC (E:=λ(s : (List Int)) (g : Nat)=>[(0,.sl (s1.map OM)),(3,.osl 3 g 0 s.length),(4,Nx i3)]) (O:=λs g=>[(3,dW g 1 3 (s.map NH))]) (j:=λs=>Zz i3 s) ?_ ?_
  ·refine A 7 ?_
   refine bC (E:=λ(s : Int) (g : Nat)=>[(0,.sl (s1.map OM)),(3,.osl 3 g 0 out2.length),(4,Nx i3),(5,Nx s)]) (O:=λ_ g=>[(3,dW g 1 3 (out2.map NH))]) (j:=λs=>TR out2 i3 s) ?_ ?_
   ·refine lP (E:=λ(s : Int) (g : Nat)=>[(0,.sl (s1.map OM)),(3,.osl 3 g 0 out2.length),(4,Nx i3),(5,Nx s)]) (O:=λ_ g=>[(3,dW g 1 3 (out2.map NH))]) (body:=λs=>Zy s1 i3 out2 s) (s:=(out2.length : Int)) _ ((hE ⟨rfl,r,r,r,trivial⟩ ⟨rfl,trivial⟩))<|?_
    rintro k6 v3x2 nn
    try dsimp only
    unfold Zy
    exact B
   ·rintro k5 v3x3 nn
    try dsimp only
    unfold TR
    refine A 4 ?_
    refine cK λhq=>Acv (l:=out2) r r r r r r hq<|cK λhq=>aP (([] : List Int)) (out2.take k5.toNat) NH r r r r r r r (by first | (simp; done) | (simp; omega)) (by simp [List.map_take]) r r (by simp) r (λ_=>r) r hq<|?_
    refine A 7 ?_
    refine cK λhq=>aP (([] : List Int) ++ (out2.take k5.toNat)) (([i3] : List Int)) NH r r r r r r r (by simp) (QW _ _ r) r r (by simp) (Qz _ _ r) (λ_=>r) r hq<|?_
    refine A 2 ?_
    refine cK λhq=>ZC (l:=out2) r r r r r r hq<|cK λhq=>aP ((([] : List Int) ++ (out2.take k5.toNat)) ++ ([i3] : List Int)) (out2.drop k5.toNat) NH r r r r r r r (by first | (simp; done) | (simp; omega)) (Aei _ _ _) r r (by simp) (Qz _ _ r) (λ_=>r) r hq<|?_
    exact B
  ·rintro out4 v3x4 nn
   try dsimp only
   unfold Zz
   exact B
 ·exact B

def XM (a : Oa) : List D:=[Pz a]
def XL (ds : List D) : Oa:=TK (ds.getD 0 .top)
theorem Alc (a : Oa) : XL (XM a) = a:=by simp [XL,XM]
instance : Ol XM XL:=⟨Alc⟩
def Amn (b : Bool) : D:=.bool b
def Aam : Dw.Spec:=NJ [] .ground XM XL (λa=>SH a) Amn noE
theorem Ack : NG Tryz.prog 105 Aam:=by
 refine fn2 1 (NO (l:=[(102,Xh)]) (by simp [YO])) Tryz.func105<|?_
 intro a
 unfold SH
 exact B

def Yw (a : Int × Int) : List D:=[Nx a.1,Nx a.2]
def Yv (ds : List D) : Int × Int:=(uI (ds.getD 0 .top),uI (ds.getD 1 .top))
theorem AoU (a : Int × Int) : Yv (Yw a) = a:=by simp [Yv,Yw,uI]
instance : Ol Yw Yv:=⟨AoU⟩
def ApJ (b : Int × Int) : D:=.tup [Nx b.1,Nx b.2]
def AfW : Dw.Spec:=NJ [] .ground Yw Yv (λa=>Acm a.1 a.2) ApJ noE
theorem Aja : NG Tryz.prog 106 AfW:=by
 refine fn2 2 (NO (l:=[(102,Xh),(129,Aal)]) (by simp [YO,Acj])) Tryz.func106<|?_
 rintro ⟨n1,align2⟩
 unfold Acm
 refine A 6 ?_
 refine sC (E:=λ(_s : Unit) (_g : Unit)=>[(0,Nx n1),(1,Nx align2)]) (O:=λ_ _=>[]) (j:=λ_=>AcB align2 n1) ?_ ?_
 ·exact B
 ·rintro ⟨⟩ ⟨⟩ nn
  try dsimp only
  unfold AcB
  refine A 6 ?_
  refine sC (E:=λ(s : Int) (_g : Unit)=>[(6,Nx s)]) (O:=λ_ _=>[]) (j:=λs=>Xv s) ?_ ?_
  ·exact B
  ·rintro m5 ⟨⟩ nn
   try dsimp only
   unfold Xv
   exact B

def VE (a : Oa × Oa) : List D:=[Pz a.1,Pz a.2]
def VD (ds : List D) : Oa × Oa:=(TK (ds.getD 0 .top),TK (ds.getD 1 .top))
theorem Ajw (a : Oa × Oa) : VD (VE a) = a:=by simp [VD,VE]
instance : Ol VE VD:=⟨Ajw⟩
def Aki (b : Bool) : D:=.bool b
def AeA : Dw.Spec:=NJ [] .ground VE VD (λa=>Xi a.1 a.2) Aki noE
theorem Ajx : NG Tryz.prog 150 AeA:=by
 refine fn2 2 (NO (l:=[(105,Aam)]) (by simp [Ack])) Tryz.func150<|?_
 intro a
 unfold Xi
 exact B

def YQ (a : (List Oa) × Oa) : List D:=[.sl (a.1.map Pz),Pz a.2]
def YP (ds : List D) : (List Oa) × Oa:=((uL TK) (ds.getD 0 .top),TK (ds.getD 1 .top))
theorem Amp (a : (List Oa) × Oa) : YP (YQ a) = a:=by simp [YP,YQ,OY (u:=TK) (en:=Pz) Ajf]
instance : Ol YQ YP:=⟨Amp⟩
def AnT (b : Bool) : D:=.bool b
def AhB : Dw.Spec:=NJ [] .ground YQ YP (λa=>Abu a.1 a.2) AnT noE
theorem Amq : NG Tryz.prog 131 AhB:=by
 refine fn2 2 (NO (l:=[(150,AeA)]) (by simp [Ajx])) Tryz.func131<|?_
 rintro ⟨used1,x2⟩
 unfold Abu
 refine A 13 ?_
 refine lP (E:=λ(s : Int) (g : Nat)=>[(0,.sl (used1.map Pz)),(3,.optr 3 g 0 0),(5,Nx s)]) (O:=λ_ g=>[(3,dV g 2 157 (.agg [Nx x2.Off,Nx x2.Size]))]) (body:=λs=>Aao used1 x2 s) (s:=0) _ ((hE ⟨rfl,r,r,trivial⟩ ⟨rfl,trivial⟩))<|?_
 rintro i3 v3x1 nn
 try dsimp only
 unfold Aao
 exact B

def Aak (a : (List Oa) × Int × Int × Int) : List D:=[.sl (a.1.map Pz),Nx a.2.1,Nx a.2.2.1,Nx a.2.2.2]
def Aaj (ds : List D) : (List Oa) × Int × Int × Int:=((uL TK) (ds.getD 0 .top),uI (ds.getD 1 .top),uI (ds.getD 2 .top),uI (ds.getD 3 .top))
theorem AnR (a : (List Oa) × Int × Int × Int) : Aaj (Aak a) = a:=by simp [Aaj,Aak,uI,OY (u:=TK) (en:=Pz) Ajf]
instance : Ol Aak Aaj:=⟨AnR⟩
def AoT (b : Int × Int) : D:=.tup [Nx b.1,Nx b.2]
def AiZ : Dw.Spec:=NJ [] .ground Aak Aaj (λa=>AcS a.1 a.2.1 a.2.2.1 a.2.2.2) AoT noE
theorem AnS : NG Tryz.prog 104 AiZ:=by
 refine fn2 4 (NO (l:=[(102,Xh),(129,Aal),(105,Aam),(106,AfW),(131,AhB)]) (by simp [YO,Acj,Ack,Aja,Amq])) Tryz.func104<|?_
 rintro ⟨used1,from2,size3,align4⟩
 unfold AcS
 refine A 6 ?_
 refine sC (E:=λ(_s : Unit) (_g : Unit)=>[(0,.sl (used1.map Pz)),(1,Nx from2),(2,Nx size3),(3,Nx align4)]) (O:=λ_ _=>[]) (j:=λ_=>Abt used1 align4 size3 from2) ?_ ?_
 ·exact B
 ·rintro ⟨⟩ ⟨⟩ nn
  try dsimp only
  unfold Abt
  refine A 7 ?_
  refine lP (E:=λ(s : Int) (_g : Unit)=>[(0,.sl (used1.map Pz)),(1,Nx from2),(2,Nx size3),(3,Nx align4),(10,Nx s)]) (O:=λ_ _=>[]) (body:=λs=>Abr used1 align4 size3 from2 s) (s:=0) () ((hE ⟨rfl,r,r,r,r,trivial⟩ trivial))<|?_
  rintro i8 ⟨⟩ nn
  try dsimp only
  unfold Abr
  refine A 9 ?_
  refine cD r ?_ ?_
  ·exact B
  ·refine A 18 ?_
   refine lP (E:=λ(s : Int × Bool × Int) (_g : Unit)=>[(0,.sl (used1.map Pz)),(1,Nx from2),(2,Nx size3),(3,Nx align4),(11,Nx s.1),(12,.bool s.2.1),(13,Nx s.2.2)]) (O:=λ_ _=>[]) (body:=λs=>Abs used1 align4 size3 from2 s.1 s.2.1 s.2.2) (s:=(0,false,(-1))) () ((hE ⟨rfl,r,r,r,r,r,r,trivial⟩ trivial))<|?_
   rintro ⟨best11,found12,i13⟩ ⟨⟩ nn
   try dsimp only
   unfold Abs
   refine A 9 ?_
   refine cD r ?_ ?_
   ·refine A 10 ?_
    refine sC (E:=λ(s : Int) (_g : Unit)=>[(0,.sl (used1.map Pz)),(1,Nx from2),(2,Nx size3),(3,Nx align4),(11,Nx best11),(12,.bool found12),(13,Nx i13),(14,Nx s)]) (O:=λ_ _=>[]) (j:=λs=>Wb align4 size3 used1 found12 i13 best11 s) ?_ ?_
    ·exact B
    ·rintro at14 ⟨⟩ nn
     try dsimp only
     unfold Wb
     exact B
   ·exact B

def WU (a : (List NV) × (List (List Int)) × Int) : List D:=[.sl (a.1.map OM),.sl (a.2.1.map (eL NH)),Nx a.2.2]
def WT (ds : List D) : (List NV) × (List (List Int)) × Int:=((uL AaB) (ds.getD 0 .top),(uL (uL uI)) (ds.getD 1 .top),uI (ds.getD 2 .top))
theorem Aku (a : (List NV) × (List (List Int)) × Int) : WT (WU a) = a:=by simp [WT,WU,uI,OY (u:=AaB) (en:=OM) Aib,OY (u:=(uL uI)) (en:=(eL NH)) (OY (u:=uI) (en:=NH) (λ_=>rfl))]
instance : Ol WU WT:=⟨Aku⟩
def AlB (b : (List Int) × Int) : D:=.tup [.sl (b.1.map NH),Nx b.2]
def AfC : Dw.Spec:=NJ [] .val WU WT (λa=>Yz a.1 a.2.1 a.2.2) AlB noE
theorem Akv : NG Tryz.prog 76 AfC:=by
 refine fn2 3 (NO (l:=[(100,Aan),(101,AgB),(102,Xh),(103,AgI),(62,Vv),(104,AiZ)]) (by simp [Acl,Alq,YO,AlC,Wf,AnS])) Tryz.func76<|?_
 rintro ⟨s1,g2,from3⟩
 unfold Yz
 refine A 10 ?_
 refine bD λr4 hr4=>?_
 refine A 10 ?_
 refine cD r ?_ ?_
 ·exact B
 ·refine A 2 ?_
  refine sC (E:=λ(_s : Unit) (_g : Unit)=>[(0,.sl (s1.map OM)),(1,.sl (g2.map (eL NH))),(2,Nx from3)]) (O:=λ_ _=>[]) (j:=λ_=>XY s1 g2 from3) ?_ ?_
  ·exact B
  ·rintro ⟨⟩ ⟨⟩ nn
   try dsimp only
   unfold XY
   refine A 15 ?_
   refine bD λr7 hr7=>?_
   refine A 11 ?_
   refine lP (E:=λ(s : (List Bool) × (List Int) × Int) (g : Nat × Nat × Nat)=>[(0,.sl (s1.map OM)),(1,.sl (g2.map (eL NH))),(2,Nx from3),(9,.osl 9 g.1 0 s.2.1.length),(10,.osl 10 g.2.1 0 s.1.length),(11,.osl 11 g.2.2 0 r7.length),(12,Nx s.2.2)]) (O:=λs g=>[(9,dW g.1 1 3 (s.2.1.map NH)),(10,dW g.2.1 1 4 (s.1.map D.bool)),(11,dW g.2.2 1 3 (r7.map NH))]) (body:=λs=>XW r7 s1 g2 from3 s.1 s.2.1 s.2.2) (s:=(List.replicate (s1.length : Int).toNat false,List.replicate (s1.length : Int).toNat (0 : Int),0)) (_,_,_) ((hE ⟨rfl,r,r,r,r,r,r,trivial⟩ ⟨rfl,r,r,trivial⟩))<|?_
   rintro ⟨done8,off9,i10⟩ ⟨v9x2,v10x2,v11x2⟩ nn
   try dsimp only
   unfold XW
   refine A 9 ?_
   refine cD r ?_ ?_
   ·refine A 2 ?_
    refine bC (E:=λ(s : (List Bool) × (List Int)) (g : Nat × Nat × Nat)=>[(0,.sl (s1.map OM)),(1,.sl (g2.map (eL NH))),(2,Nx from3),(9,.osl 9 g.1 0 s.2.length),(10,.osl 10 g.2.1 0 s.1.length),(11,.osl 11 g.2.2 0 r7.length),(12,Nx i10)]) (O:=λs g=>[(9,dW g.1 1 3 (s.2.map NH)),(10,dW g.2.1 1 4 (s.1.map D.bool)),(11,dW g.2.2 1 3 (r7.map NH))]) (j:=λs=>Ya i10 s.1 s.2) ?_ ?_
    ·refine A 5 ?_
     refine bD λorder_e13 horder_e13=>?_
     refine A 16 ?_
     refine lP (E:=λ(s : (List Oa) × Int) (g : Nat × Nat × Nat × Nat)=>[(0,.sl (s1.map OM)),(1,.sl (g2.map (eL NH))),(2,Nx from3),(9,.osl 9 g.1 0 off9.length),(10,.osl 10 g.2.1 0 done8.length),(11,.osl 11 g.2.2.1 0 r7.length),(12,Nx i10),(13,Nx order_e13),(14,.osl 14 g.2.2.2 0 s.1.length),(15,Nx s.2)]) (O:=λs g=>[(9,dW g.1 1 3 (off9.map NH)),(10,dW g.2.1 1 4 (done8.map D.bool)),(11,dW g.2.2.1 1 3 (r7.map NH)),(14,dW g.2.2.2 2 157 (s.1.map Pz))]) (body:=λs=>XX s1 done8 g2 order_e13 off9 from3 i10 s.1 s.2) (s:=(([] : List Oa),0)) (_,_,_,_) ((hE ⟨rfl,r,r,r,r,r,r,r,r,r,trivial⟩ ⟨rfl,r,r,r,trivial⟩))<|?_
     rintro ⟨used14,y15⟩ ⟨v9x3,v10x3,v11x3,v14x3⟩ nn
     try dsimp only
     unfold XX
     refine A 9 ?_
     refine cD r ?_ ?_
     ·refine A 4 ?_
      refine sC (E:=λ(s : Bool) (g : Nat × Nat × Nat × Nat)=>[(0,.sl (s1.map OM)),(1,.sl (g2.map (eL NH))),(2,Nx from3),(9,.osl 9 g.1 0 off9.length),(10,.osl 10 g.2.1 0 done8.length),(11,.osl 11 g.2.2.1 0 r7.length),(12,Nx i10),(13,Nx order_e13),(14,.osl 14 g.2.2.2 0 used14.length),(15,Nx y15),(68,.bool s)]) (O:=λ_ g=>[(9,dW g.1 1 3 (off9.map NH)),(10,dW g.2.1 1 4 (done8.map D.bool)),(11,dW g.2.2.1 1 3 (r7.map NH)),(14,dW g.2.2.2 2 157 (used14.map Pz))]) (j:=λs=>Tl y15 off9 s1 used14 s) ?_ ?_
      ·exact B
      ·rintro x16 ⟨v9x4,v10x4,v11x4,v14x4⟩ nn
       try dsimp only
       unfold Tl
       refine cD r ?_ ?_
       ·refine A 5 ?_
        refine bD λoff_e20 hoff_e20=>?_
        refine A 3 ?_
        refine bD λx_x21 hx_x21=>?_
        refine A 4 ?_
        refine bS ([(Oa.mk off_e20 x_x21.Size)] : List Oa) Pz r r r (by simp) r r r<|?_
        exact B
       ·exact B
     ·exact B
    ·rintro ⟨done11,off12⟩ ⟨v9x5,v10x5,v11x5⟩ nn
     try dsimp only
     unfold Ya
     exact B
   ·exact B

def Tu (a : NN × Int × Nz) : List D:=[QT a.1,Nx a.2.1,NP a.2.2]
def Tt (ds : List D) : NN × Int × Nz:=(Vy (ds.getD 0 .top),uI (ds.getD 1 .top),QZ (ds.getD 2 .top))
theorem AjJ (a : NN × Int × Nz) : Tt (Tu a) = a:=by simp [Tt,Tu,uI]
instance : Ol Tu Tt:=⟨AjJ⟩
def AeH (b : NN) : D:=QT b
def AbI : Dw.Spec:=NJ [] .val Tu Tt (λa=>UB a.1 a.2.1 a.2.2) AeH noE
theorem Aed : NG Tryz.prog 14 AbI:=by
 refine fn2 3 (Od) Tryz.func14<|?_
 rintro ⟨p1,i2,f3⟩
 unfold UB
 refine A 11 ?_
 refine cK λhq=>aP (([] : List Nz)) (p1.Funcs) NP r r r r r r r (by simp) r r r (by simp) r (λ_=>r) r hq<|?_
 refine A 8 ?_
 refine cK λhq=>iO (l:=([] : List Nz) ++ p1.Funcs) (en:=NP) r r r r r hq<|bD λl_o4 hl_o4=>sE (l:=([] : List Nz) ++ p1.Funcs) (en:=NP) (q':=f3) r r r r r r r (by simp) hl_o4 r r r r r<|?_
 refine A 10 ?_
 refine Uz (b:=(NN.mk ((([] : List Nz) ++ p1.Funcs).set i2.toNat f3))) r ?_ r r ?_ (by first | rfl | (simp only; rfl) | (simp only; rfl) | (simp only; rfl) | simp [AeH,QT])
 all_goals first|(simp;done)|(simp;omega)|rfl|(simp [OK,OP];done)

end
end Go.Proofs.YtpagjjmondojpaaGreatDoor
