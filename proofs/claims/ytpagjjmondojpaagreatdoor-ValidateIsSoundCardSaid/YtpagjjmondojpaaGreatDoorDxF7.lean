/-
  Programs on typed data, and the proofs that the code does what they say; written by a program (dx.py).
-/
import Derived.Test.YtpagjjmondojpaaGreatDoorProg
import Derived.Test.YtpagjjmondojpaaGreatDoorDd
import Derived.KernelRfl
import Derived.Test.YtpagjjmondojpaaGreatDoorDxP
import Derived.Test.YtpagjjmondojpaaGreatDoorDxF2
import Derived.Test.YtpagjjmondojpaaGreatDoorDxF4
import Derived.Test.YtpagjjmondojpaaGreatDoorDxF5
import Derived.Test.YtpagjjmondojpaaGreatDoorDxF6
namespace Go.Proofs.YtpagjjmondojpaaGreatDoor
open Go Go.Dw Go.Proofs
set_option maxRecDepth 100000
set_option maxHeartbeats 40000000
open Go.Dw renaming PI -> bD,AaT -> cD,Wq -> hE,Acw -> lP,Xc -> sC,Wp -> bC,rf -> r
def Xm (a : NN × (List Int) × Int) : List D:=[QT a.1,.sl (a.2.1.map Pt),Nx a.2.2]
def Xl (ds : List D) : NN × (List Int) × Int:=(Vy (ds.getD 0 .top),(uL uI) (ds.getD 1 .top),uI (ds.getD 2 .top))
theorem AnY (a : NN × (List Int) × Int) : Xl (Xm a) = a:=by simp [Xl,Xm,uI,OY (u:=uI) (en:=Pt) (λ_=>rfl)]
instance : Ol Xm Xl:=⟨AnY⟩
def AcC (b : Oz × Int × Int) : D:=.tup [Vu b.1,Nx b.2.1,Nx b.2.2]
noncomputable def Ajc : Dw.Spec:=NJ [] .val Xm Xl (λa=>AeD a.1 a.2.1 a.2.2) AcC noE
theorem AnZ : NG Tryz.prog 39 Ajc:=by
 refine fn2 3 (NO (l:=[(65,Agv),(66,Wh),(67,Uq),(68,Abz)]) (by simp [Ali,ZV,WH,Afw])) Tryz.func39<|?_
 rintro ⟨p1,input2,fuel3⟩
 unfold AeD
 refine A 12 ?_
 refine bD λr4 hr4=>?_
 refine A 10 ?_
 refine cD r ?_ ?_
 ·refine A 11 ?_
  refine Rb (b:=((Oz.mk 0 0 (NF.mk 0 0) ([]) 0),0,r4)) r ?_ r r ?_ (by first | rfl | (simp only [Nw]; rfl) | (simp only [NA]; rfl) | (simp only [Nw,NA]; rfl) | simp [AcC,Vu]) (by decide)
  all_goals first|(simp;done)|(simp;omega)|rfl|(simp [OK,OP];done)
 ·refine A 2 ?_
  refine sC (E:=λ(_s : Unit) (g : Nat × Nat)=>[(1,.sl (input2.map Pt)),(2,Nx fuel3),(3,.optr 3 g.1 0 0),(6,.optr 6 g.2 0 0)]) (O:=λ_ g=>[(3,dV g.1 1 26 (.agg [.sl (p1.Funcs.map NP)])),(6,dV g.2 6 60 (.agg [Nx 0,Ob 0,Ob 0,Ob 0,.nils,Nx 0]))]) (j:=λ_=>Wi p1 input2 fuel3) ?_ ?_
  ·refine A 5 ?_
   refine AbY r ?_ ?_
   ·refine A 16 ?_
    refine Rb (b:=((Oz.mk 0 0 (NF.mk 0 0) ([]) 0),0,4)) r ?_ r r ?_ (by first | rfl | (simp only [Nw]; rfl) | (simp only [NA]; rfl) | (simp only [Nw,NA]; rfl) | simp [AcC,Vu]) (by decide)
    all_goals first|(simp;done)|(simp;omega)|rfl|(simp [OK,OP];done)
   ·refine A 5 ?_
    refine cD r ?_ ?_
    ·refine A 10 ?_
     refine Rb (b:=((Oz.mk 0 0 (NF.mk 0 0) ([]) 0),0,4)) r ?_ r r ?_ (by first | rfl | (simp only [Nw]; rfl) | (simp only [NA]; rfl) | (simp only [Nw,NA]; rfl) | simp [AcC,Vu]) (by decide)
     all_goals first|(simp;done)|(simp;omega)|rfl|(simp [OK,OP];done)
    ·exact B
  ·rintro ⟨⟩ ⟨v3x1,v6x1⟩ nn
   try dsimp only
   unfold Wi
   refine A 12 ?_
   refine bD λr5 hr5=>?_
   refine A 3 ?_
   refine bC (E:=λ(_s : NI) (g : Nat × Nat)=>[(6,.optr 6 g.1 0 0),(10,.optr 27 g.2 0 0)]) (O:=λs g=>[(6,dV g.1 6 60 (.agg [Nx 0,Ob 0,Ob 0,Ob 0,.nils,Nx 0])),(27,dV g.2 27 117 (Pp s))]) (j:=λs=>AbB s) ?_ ?_
   ·refine lP (E:=λ(_s : NI) (g : Nat × Nat)=>[(2,Nx fuel3),(6,.optr 6 g.1 0 0),(10,.optr 27 g.2 0 0)]) (O:=λs g=>[(6,dV g.1 6 60 (.agg [Nx 0,Ob 0,Ob 0,Ob 0,.nils,Nx 0])),(27,dV g.2 27 117 (Pp s))]) (body:=λs=>AbA fuel3 s) (s:=r5) (_,_) ((hE ⟨rfl,r,r,trivial⟩ ⟨rfl,r,trivial⟩))<|?_
    rintro x7 ⟨v6x2,v27x2⟩ nn
    try dsimp only
    unfold AbA
    exact B
   ·rintro x6 ⟨v6x3,v27x3⟩ nn
    try dsimp only
    unfold AbB
    exact B

def AoX (b : Oz × Int) : D:=.tup [Vu b.1,Nx b.2]
noncomputable def Ajb : Dw.Spec:=NJ [] .val Xm Xl (λa=>Wx a.1 a.2.1 a.2.2) AoX noE
theorem AnX : NG Tryz.prog 16 Ajb:=by
 refine fn2 3 (NO (l:=[(39,Ajc)]) (by simp [AnZ])) Tryz.func16<|?_
 intro a
 unfold Wx
 exact B

def YW (a : Oz) : List D:=[Vu a]
def YV (ds : List D) : Oz:=AjT (ds.getD 0 .top)
theorem Amx (a : Oz) : YV (YW a) = a:=by simp [YV,YW]
instance : Ol YW YV:=⟨Amx⟩
def AnW (b : Bool) : D:=.bool b
noncomputable def AhG : Dw.Spec:=NJ [] .ground YW YV (λa=>Abx a) AnW noE
theorem Amy : NG Tryz.prog 17 AhG:=by
 refine fn2 1 (Od) Tryz.func17<|?_
 intro a
 unfold Abx
 exact B

def Up (a : (List NF) × (List NF)) : List D:=[.sl (a.1.map Oe),.sl (a.2.map Oe)]
def Uo (ds : List D) : (List NF) × (List NF):=((uL Ta) (ds.getD 0 .top),(uL Ta) (ds.getD 1 .top))
theorem AhH (a : (List NF) × (List NF)) : Uo (Up a) = a:=by simp [Uo,Up,OY (u:=Ta) (en:=Oe) Agg]
instance : Ol Up Uo:=⟨AhH⟩
def AiI (b : Bool) : D:=.bool b
noncomputable def Adq : Dw.Spec:=NJ [] .ground Up Uo (λa=>Vk a.1 a.2) AiI noE
theorem AhI : NG Tryz.prog 18 Adq:=by
 refine fn2 2 (Od) Tryz.func18<|?_
 rintro ⟨a1,b2⟩
 unfold Vk
 refine A 15 ?_
 refine cD r ?_ ?_
 ·exact B
 ·refine A 9 ?_
  refine lP (E:=λ(s : Int) (_g : Unit)=>[(0,.sl (a1.map Oe)),(1,.sl (b2.map Oe)),(5,Nx s)]) (O:=λ_ _=>[]) (body:=λs=>Vl a1 b2 s) (s:=0) () ((hE ⟨rfl,r,r,trivial⟩ trivial))<|?_
  rintro i3 ⟨⟩ nn
  try dsimp only
  unfold Vl
  exact B

def Rz (a : (List Int) × Int) : List D:=[.sl (a.1.map eU8),.int .u8 a.2]
def Ry (ds : List D) : (List Int) × Int:=((uL uI) (ds.getD 0 .top),uI (ds.getD 1 .top))
theorem Yp (a : (List Int) × Int) : Ry (Rz a) = a:=by simp [Ry,Rz,uI,OY (u:=uI) (en:=eU8) (λ_=>rfl)]
instance : Ol Rz Ry:=⟨Yp⟩
def Aen (b : Bool) : D:=.bool b
noncomputable def Aeo : Dw.Spec:=NJ [] .ground Rz Ry (λa=>Rt a.1 a.2) Aen noE
theorem AdL : NG Tryz.prog 5 Aeo:=by
 refine fn2 2 (NO (l:=[(6,Agk),(7,Agl),(8,AaG),(12,AgH),(13,Adh),(14,AbI),(15,AcD),(16,Ajb),(17,AhG),(18,Adq)]) (by simp [AkP,AkQ,Adr,AlA,AfA,Aed,AgL,AnX,Amy,AhI])) Tryz.func5<|?_
 rintro ⟨codes1,fuel2⟩
 unfold Rt
 refine A 8 ?_
 refine bD λr3 hr3=>?_
 refine A 4 ?_
 refine cD r ?_ ?_
 ·exact B
 ·refine A 5 ?_
  refine bD λr4 hr4=>AkA (rs:=[QT r4.1,Nx r4.2.1,PO r4.2.2.1,TL r4.2.2.2.1,Oy r4.2.2.2.2]) (z:=Oy r4.2.2.2.2) codes1 r r r Afn r r (by simp) r hr4 r r<|?_
  refine A 22 ?_
  refine bD λx_x5 hx_x5=>?_
  refine A 4 ?_
  refine bD λr6 hr6=>?_
  refine A 4 ?_
  refine cD r ?_ ?_
  ·exact B
  ·refine A 7 ?_
   refine bD λx_x9 hx_x9=>?_
   refine A 3 ?_
   refine bD λr10 hr10=>?_
   refine A 16 ?_
   refine cD r ?_ ?_
   ·exact B
   ·refine A 7 ?_
    refine bD λr11 hr11=>?_
    refine A 12 ?_
    refine lP (E:=λ(s : (List Int) × Int × Int) (g : Nat × Nat × Nat)=>[(1,.int .u8 fuel2),(5,.optr 5 g.1 0 0),(9,.optr 23 g.2.2 0 0),(12,.optr 12 g.2.1 0 0),(13,Nx s.2.2)]) (O:=λs g=>[(5,dV g.1 1 26 (.agg [.sl (r4.1.Funcs.map NP)])),(12,dV g.2.1 1 26 (.agg [.sl (r11.Funcs.map NP)])),(23,dV g.2.2 2 91 (.agg [.sl (s.1.map eU8),Nx s.2.1]))]) (body:=λs=>RL r4 fuel2 r11 s.1 s.2.1 s.2.2) (s:=(r4.2.2.2.2.list,r4.2.2.2.2.at_,0)) (_,_,_) ((hE ⟨rfl,r,r,r,r,trivial⟩ ⟨rfl,r,r,trivial⟩))<|?_
    rintro ⟨x12,x13,n14⟩ ⟨v5x1,v12x1,v23x1⟩ nn
    try dsimp only
    unfold RL
    refine A 7 ?_
    refine cD r ?_ ?_
    ·refine A 7 ?_
     refine bD λr15 hr15=>?_
     refine A 10 ?_
     refine bD λr16 hr16=>?_
     refine A 15 ?_
     refine bD λr17 hr17=>?_
     refine A 9 ?_
     refine sC (E:=λ(_s : Unit) (g : Nat × Nat × Nat × Nat × Nat)=>[(1,.int .u8 fuel2),(5,.optr 5 g.1 0 0),(9,.optr 23 g.2.2.2.2 0 0),(12,.optr 12 g.2.1 0 0),(13,Nx n14),(15,.optr 15 g.2.2.1 0 0),(17,.optr 17 g.2.2.2.1 0 0),(88,Nx r17.2),(89,.bool (r17.2 != 0))]) (O:=λ_ g=>[(5,dV g.1 1 26 (.agg [.sl (r4.1.Funcs.map NP)])),(12,dV g.2.1 1 26 (.agg [.sl (r11.Funcs.map NP)])),(15,dV g.2.2.1 6 60 (Vu r16.1)),(17,dV g.2.2.2.1 6 60 (Vu r17.1)),(23,dV g.2.2.2.2 2 91 (.agg [.sl (r15.2.list.map eU8),Nx r15.2.at_]))]) (j:=λ_=>RM r16 r17 r15 n14) ?_ ?_
     ·exact B
     ·rintro ⟨⟩ ⟨v5x2,v12x2,v15x2,v17x2,v23x2⟩ nn
      try dsimp only
      unfold RM
      exact B
    ·exact B

end Go.Proofs.YtpagjjmondojpaaGreatDoor
