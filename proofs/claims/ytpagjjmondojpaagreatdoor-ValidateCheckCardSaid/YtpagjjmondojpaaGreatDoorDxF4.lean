/-
  Programs on typed data, and the proofs that the code does what they say; written by a program (dx.py).
-/
import Derived.Test.YtpagjjmondojpaaGreatDoorProg
import Derived.Test.YtpagjjmondojpaaGreatDoorDc
import Derived.Test.YtpagjjmondojpaaGreatDoorDd
import Derived.KernelRfl
import Derived.Test.YtpagjjmondojpaaGreatDoorDxP
import Derived.Test.YtpagjjmondojpaaGreatDoorDxF2
import Derived.Test.YtpagjjmondojpaaGreatDoorDxF3
namespace Go.Proofs.YtpagjjmondojpaaGreatDoor
open Go Go.Dw Go.Proofs
set_option maxRecDepth 100000
set_option maxHeartbeats 4000000
open Go.Dw renaming QG → bD,PA → cK,AbX → bS,Aby → aP,UZ → sE,AaM → iO,Abz → cD,Zw → hE,Adi → lP,Aaj → sC,Yo → bC,rf → r
def Vk (a : OJ × (List (List Int))) : List D:=[PO a.1,.sl (a.2.map (eL OK))]
def Vj (ds : List D) : OJ × (List (List Int)):=(RV (ds.getD 0 .top),(uL (uL uI)) (ds.getD 1 .top))
theorem Agi (a : OJ × (List (List Int))) : Vj (Vk a) = a:=by simp [Vj,Vk,PQ (u:=(uL uI)) (en:=(eL OK)) (PQ (u:=uI) (en:=OK) (fun _=>rfl))]
instance : Pn Vk Vj:=⟨Agi⟩
def AgL (b : (List Int)) : D:=.sl (b.map OK)
noncomputable def Acn : Dw.Spec:=OT [] (.row 1 3) Vk Vj (fun a=>Up a.1 a.2) AgL noE
theorem Agj : OR Tryz.prog 73 Acn:=by
 refine fn2 2 (OX (l:=[(97,AdR),(98,AdT)]) (by simp [AhC,AhH])) Tryz.func73<|?_
 rintro ⟨f1,g2⟩
 unfold Up
 refine A 18 ?_
 refine lP (E:=fun (s : (List Int) × Int) (g : Nat × Nat)=>[(1,.sl (g2.map (eL OK))),(2,.optr 2 g.1 0 0),(5,.osl 5 g.2 0 s.1.length),(6,.int .i64 s.2)]) (O:=fun s g=>[(2,some (g.1,⟨false,true,3,40,[.agg [.int .i64 f1.Params,.sl (f1.Slots.map OV),.sl (f1.Code.map OU)]]⟩)),(5,some (g.2,⟨false,false,1,3,s.1.map OK⟩))]) (body:=fun s=>VL f1 g2 s.1 s.2) (s:=(([] : List Int),0)) (_,_) ((hE ⟨rfl,r,r,r,trivial⟩ ⟨rfl,r,trivial⟩))<|?_
 rintro ⟨to3,s4⟩ ⟨v2x1,v5x1⟩ nn
 try dsimp only
 unfold VL
 refine A 10 ?_
 refine cD r ?_ ?_
 ·exact B
 ·refine A 8 ?_
  refine bD fun r5 hr5=>?_
  refine A 11 ?_
  refine lP (E:=fun (s : (List Int) × Int) (g : Nat × Nat)=>[(1,.sl (g2.map (eL OK))),(5,.osl 5 g.1 0 s.1.length),(7,.osl 7 g.2 0 r5.length),(8,.int .i64 s.2)]) (O:=fun s g=>[(5,some (g.1,⟨false,false,1,3,s.1.map OK⟩)),(7,some (g.2,⟨false,false,2,149,r5.map Tl⟩))]) (body:=fun s=>VM r5 g2 s.1 s.2) (s:=(to3,0)) (_,_) ((hE ⟨rfl,r,r,r,trivial⟩ ⟨rfl,r,trivial⟩))<|?_
  rintro ⟨to6,i7⟩ ⟨v5x2,v7x2⟩ nn
  try dsimp only
  unfold VM
  refine A 9 ?_
  refine cD r ?_ ?_
  ·refine A 2 ?_
   refine bC (E:=fun (s : (List Int)) (g : Nat × Nat)=>[(1,.sl (g2.map (eL OK))),(5,.osl 5 g.1 0 s.length),(7,.osl 7 g.2 0 r5.length),(8,.int .i64 i7)]) (O:=fun s g=>[(5,some (g.1,⟨false,false,1,3,s.map OK⟩)),(7,some (g.2,⟨false,false,2,149,r5.map Tl⟩))]) (j:=fun s=>QQ i7 s) ?_ ?_
   ·refine A 6 ?_
    refine TS r r r (by decide)<|bD fun moves_e9 hmoves_e9=>?_
    refine A 2 ?_
    refine bD fun to_e10 hto_e10=>?_
    refine A 5 ?_
    refine TS r r r (by decide)<|bD fun moves_e11 hmoves_e11=>?_
    refine A 2 ?_
    refine bD fun to_e12 hto_e12=>?_
    refine A 5 ?_
    refine sC (E:=fun (s : Bool × Bool) (g : Nat × Nat)=>[(1,.sl (g2.map (eL OK))),(5,.osl 5 g.1 0 to6.length),(7,.osl 7 g.2 0 r5.length),(8,.int .i64 i7),(9,.int .i64 to_e10),(10,.int .i64 to_e12),(51,.sl (g2.map (eL OK))),(52,.osl 5 g.1 0 to6.length),(53,.int .i64 to_e10),(54,.int .i64 to_e12),(55,.bool s.1),(56,.bool s.2)]) (O:=fun _ g=>[(5,some (g.1,⟨false,false,1,3,to6.map OK⟩)),(7,some (g.2,⟨false,false,2,149,r5.map Tl⟩))]) (j:=fun s=>VO to_e10 to_e12 i7 to6 s.1 s.2) ?_ ?_
    ·exact B
    ·rintro ⟨x13,x14⟩ ⟨v5x3,v7x3⟩ nn
     try dsimp only
     unfold VO
     refine A 6 ?_
     refine lP (E:=fun (s : (List Int) × Int) (g : Nat × Nat)=>[(1,.sl (g2.map (eL OK))),(5,.osl 5 g.1 0 s.1.length),(7,.osl 7 g.2 0 r5.length),(8,.int .i64 i7),(9,.int .i64 to_e10),(10,.int .i64 to_e12),(11,.int .i64 s.2),(51,.sl (g2.map (eL OK))),(52,.osl 5 g.1 0 s.1.length),(53,.int .i64 to_e10),(54,.int .i64 to_e12),(55,.bool x13),(56,.bool x14)]) (O:=fun s g=>[(5,some (g.1,⟨false,false,1,3,s.1.map OK⟩)),(7,some (g.2,⟨false,false,2,149,r5.map Tl⟩))]) (body:=fun s=>VN to_e10 to_e12 i7 s.1 s.2) (s:=(to6,0)) (_,_) ((hE ⟨rfl,r,r,r,r,r,r,r,r,r,r,r,r,trivial⟩ ⟨rfl,r,trivial⟩))<|?_
     rintro ⟨to16,s17⟩ ⟨v5x4,v7x4⟩ nn
     try dsimp only
     unfold VN
     refine A 9 ?_
     refine cD r ?_ ?_
     ·refine A 4 ?_
      refine sC (E:=fun (s : Bool) (g : Nat × Nat)=>[(1,.sl (g2.map (eL OK))),(5,.osl 5 g.1 0 to16.length),(7,.osl 7 g.2 0 r5.length),(8,.int .i64 i7),(9,.int .i64 to_e10),(10,.int .i64 to_e12),(11,.int .i64 s17),(51,.sl (g2.map (eL OK))),(52,.osl 5 g.1 0 to16.length),(53,.int .i64 to_e10),(54,.int .i64 to_e12),(55,.bool x13),(56,.bool x14),(77,.bool s)]) (O:=fun _ g=>[(5,some (g.1,⟨false,false,1,3,to16.map OK⟩)),(7,some (g.2,⟨false,false,2,149,r5.map Tl⟩))]) (j:=fun s=>SA s17 to16 to_e10 to_e12 s) ?_ ?_
      ·exact B
      ·rintro x18 ⟨v5x5,v7x5⟩ nn
       try dsimp only
       unfold SA
       exact B
     ·exact B
   ·rintro to8 ⟨v5x6,v7x6⟩ nn
    try dsimp only
    unfold QQ
    exact B
  ·exact B

def AjM (b : Bool) : D:=.bool b
noncomputable def AeK : Dw.Spec:=OT [] .ground Ty Tx (fun a=>Aac a.1 a.2.1 a.2.2) AjM noE
theorem AiL : OR Tryz.prog 99 AeK:=by
 refine fn2 3 (OX (l:=[(61,Tq),(62,UT)]) (by simp [TW,Vw])) Tryz.func99<|?_
 intro a
 unfold Aac
 exact B

def Yc (a : OJ × OO × (List Int)) : List D:=[PO a.1,PX a.2.1,.sl (a.2.2.map OK)]
def Yb (ds : List D) : OJ × OO × (List Int):=(RV (ds.getD 0 .top),UP (ds.getD 1 .top),(uL uI) (ds.getD 2 .top))
theorem AiJ (a : OJ × OO × (List Int)) : Yb (Yc a) = a:=by simp [Yb,Yc,PQ (u:=uI) (en:=OK) (fun _=>rfl)]
instance : Pn Yc Yb:=⟨AiJ⟩
def AjL (b : (List Bool)) : D:=.sl (b.map D.bool)
noncomputable def AeJ : Dw.Spec:=OT [] (.row 1 4) Yc Yb (fun a=>Ya a.1 a.2.1 a.2.2) AjL noE
theorem AiK : OR Tryz.prog 74 AeJ:=by
 refine fn2 3 (OX (l:=[(99,AeK)]) (by simp [AiL])) Tryz.func74<|?_
 rintro ⟨f1,l2,to3⟩
 unfold Ya
 refine A 19 ?_
 refine lP (E:=fun (s : (List Bool) × Int) (g : Nat × Nat × Nat)=>[(2,.sl (to3.map OK)),(3,.optr 3 g.1 0 0),(4,.optr 4 g.2.1 0 0),(7,.osl 7 g.2.2 0 s.1.length),(8,.int .i64 s.2)]) (O:=fun s g=>[(3,some (g.1,⟨false,true,3,40,[.agg [.int .i64 f1.Params,.sl (f1.Slots.map OV),.sl (f1.Code.map OU)]]⟩)),(4,some (g.2.1,⟨false,true,1,29,[.agg [.sl (l2.Out.map (eL OK))]]⟩)),(7,some (g.2.2,⟨false,false,1,4,s.1.map D.bool⟩))]) (body:=fun s=>YZ f1 l2 to3 s.1 s.2) (s:=(([] : List Bool),0)) (_,_,_) ((hE ⟨rfl,r,r,r,r,trivial⟩ ⟨rfl,r,r,trivial⟩))<|?_
 rintro ⟨out4,k5⟩ ⟨v3x1,v4x1,v7x1⟩ nn
 try dsimp only
 unfold YZ
 exact B

def AiH (b : Bool) : D:=.bool b
noncomputable def AdS : Dw.Spec:=OT [] .ground SZ SY (fun a=>YI a.1 a.2) AiH noE
theorem AhF : OR Tryz.prog 59 AdS:=by
 refine fn2 2 (Pm) Tryz.func59<|?_
 rintro ⟨f1,to2⟩
 unfold YI
 refine A 17 ?_
 refine cD r ?_ ?_
 ·exact B
 ·refine A 9 ?_
  refine lP (E:=fun (s : Int) (g : Nat)=>[(1,.sl (to2.map OK)),(2,.optr 2 g 0 0),(5,.int .i64 s)]) (O:=fun _ g=>[(2,some (g,⟨false,true,3,40,[.agg [.int .i64 f1.Params,.sl (f1.Slots.map OV),.sl (f1.Code.map OU)]]⟩))]) (body:=fun s=>XV to2 f1 s) (s:=0) _ ((hE ⟨rfl,r,r,trivial⟩ ⟨rfl,trivial⟩))<|?_
  rintro s3 v2x1 nn
  try dsimp only
  unfold XV
  refine A 9 ?_
  refine cD r ?_ ?_
  ·exact B
  ·refine A 12 ?_
   refine lP (E:=fun (s : Int) (g : Nat)=>[(1,.sl (to2.map OK)),(2,.optr 2 g 0 0),(6,.int .i64 s)]) (O:=fun _ g=>[(2,some (g,⟨false,true,3,40,[.agg [.int .i64 f1.Params,.sl (f1.Slots.map OV),.sl (f1.Code.map OU)]]⟩))]) (body:=fun s=>XW to2 f1 s) (s:=0) _ ((hE ⟨rfl,r,r,trivial⟩ ⟨rfl,trivial⟩))<|?_
   rintro s6 v2x2 nn
   try dsimp only
   unfold XW
   exact B

def AiM (b : Int) : D:=.int .i64 b
noncomputable def Za : Dw.Spec:=OT [] .ground Rk Rj (fun a=>UX a.1 a.2) AiM noE
theorem AaI : OR Tryz.prog 31 Za:=by
 refine fn2 2 (OX (l:=[(59,AdS),(60,Yw)]) (by simp [AhF,Aba])) Tryz.func31<|?_
 rintro ⟨f1,r2⟩
 unfold UX
 refine A 7 ?_
 refine sC (E:=fun (_s : Unit) (g : Nat × Nat)=>[(2,.optr 2 g.1 0 0),(3,.optr 3 g.2 0 0)]) (O:=fun _ g=>[(2,some (g.1,⟨false,true,3,40,[.agg [.int .i64 f1.Params,.sl (f1.Slots.map OV),.sl (f1.Code.map OU)]]⟩)),(3,some (g.2,⟨false,true,2,33,[.agg [.sl (r2.To.map OK),.sl (r2.Keep.map D.bool)]]⟩))]) (j:=fun _=>Yg f1 r2) ?_ ?_
 ·exact B
 ·rintro ⟨⟩ ⟨v2x1,v3x1⟩ nn
  try dsimp only
  unfold Yg
  refine A 7 ?_
  refine lP (E:=fun (s : Int) (g : Nat × Nat)=>[(2,.optr 2 g.1 0 0),(3,.optr 3 g.2 0 0),(5,.int .i64 s)]) (O:=fun _ g=>[(2,some (g.1,⟨false,true,3,40,[.agg [.int .i64 f1.Params,.sl (f1.Slots.map OV),.sl (f1.Code.map OU)]]⟩)),(3,some (g.2,⟨false,true,2,33,[.agg [.sl (r2.To.map OK),.sl (r2.Keep.map D.bool)]]⟩))]) (body:=fun s=>Yf f1 r2 s) (s:=0) (_,_) ((hE ⟨rfl,r,r,trivial⟩ ⟨rfl,r,trivial⟩))<|?_
  rintro k4 ⟨v2x2,v3x2⟩ nn
  try dsimp only
  unfold Yf
  exact B

def Vi (a : Int × (List Int)) : List D:=[.int .i64 a.1,.sl (a.2.map OK)]
def Vh (ds : List D) : Int × (List Int):=(uI (ds.getD 0 .top),(uL uI) (ds.getD 1 .top))
theorem Age (a : Int × (List Int)) : Vh (Vi a) = a:=by simp [Vh,Vi,uI,PQ (u:=uI) (en:=OK) (fun _=>rfl)]
instance : Pn Vi Vh:=⟨Age⟩
def AgI (b : Int) : D:=.int .i64 b
noncomputable def Acl : Dw.Spec:=OT [] .ground Vi Vh (fun a=>Sb a.1 a.2) AgI noE
theorem Agf : OR Tryz.prog 64 Acl:=by
 refine fn2 2 (Pm) Tryz.func64<|?_
 intro a
 unfold Sb
 exact B

def AgH (b : OM) : D:=OU b
noncomputable def ZX : Dw.Spec:=OT [] .ground Ul Uk (fun a=>Um a.1 a.2) AgH noE
theorem AbO : OR Tryz.prog 37 ZX:=by
 refine fn2 2 (OX (l:=[(64,Acl)]) (by simp [Agf])) Tryz.func37<|?_
 intro a
 unfold Um
 exact B

def AjN (b : (List Int)) : D:=.sl (b.map OK)
noncomputable def AeL : Dw.Spec:=OT [] (.row 1 3) Rk Rj (fun a=>Aad a.1 a.2) AjN noE
theorem AiN : OR Tryz.prog 33 AeL:=by
 refine fn2 2 (OX (l:=[(37,ZX),(63,AbP),(52,Wj),(61,Tq),(42,Wt)]) (by simp [AbO,AdN,XF,TW,Xm])) Tryz.func33<|?_
 rintro ⟨f1,r2⟩
 unfold Aad
 refine A 19 ?_
 refine lP (E:=fun (s : (List Int) × Int) (g : Nat × Nat × Nat)=>[(2,.optr 2 g.1 0 0),(3,.optr 3 g.2.1 0 0),(5,.osl 5 g.2.2 0 s.1.length),(6,.int .i64 s.2)]) (O:=fun s g=>[(2,some (g.1,⟨false,true,3,40,[.agg [.int .i64 f1.Params,.sl (f1.Slots.map OV),.sl (f1.Code.map OU)]]⟩)),(3,some (g.2.1,⟨false,true,2,33,[.agg [.sl (r2.To.map OK),.sl (r2.Keep.map D.bool)]]⟩)),(5,some (g.2.2,⟨false,false,1,3,s.1.map OK⟩))]) (body:=fun s=>Zc f1 r2 s.1 s.2) (s:=(([] : List Int),0)) (_,_,_) ((hE ⟨rfl,r,r,r,trivial⟩ ⟨rfl,r,r,trivial⟩))<|?_
 rintro ⟨out3,k4⟩ ⟨v2x1,v3x1,v5x1⟩ nn
 try dsimp only
 unfold Zc
 refine sC (E:=fun (_s : Unit) (g : Nat × Nat × Nat)=>[(2,.optr 2 g.1 0 0),(3,.optr 3 g.2.1 0 0),(5,.osl 5 g.2.2 0 out3.length),(6,.int .i64 k4),(16,.int .i64 k4),(17,.optr 3 g.2.1 0 1),(18,.sl (r2.Keep.map D.bool)),(19,.int .i64 (r2.Keep.length : Int)),(20,.bool (decide (k4 < (r2.Keep.length : Int))))]) (O:=fun _ g=>[(2,some (g.1,⟨false,true,3,40,[.agg [.int .i64 f1.Params,.sl (f1.Slots.map OV),.sl (f1.Code.map OU)]]⟩)),(3,some (g.2.1,⟨false,true,2,33,[.agg [.sl (r2.To.map OK),.sl (r2.Keep.map D.bool)]]⟩)),(5,some (g.2.2,⟨false,false,1,3,out3.map OK⟩))]) (j:=fun _=>Zd r2 k4 out3 f1) ?_ ?_
 ·exact B
 ·rintro ⟨⟩ ⟨v2x2,v3x2,v5x2⟩ nn
  try dsimp only
  unfold Zd
  exact B

def Vm (a : OP × (List Int)) : List D:=[RD a.1,.sl (a.2.map OK)]
def Vl (ds : List D) : OP × (List Int):=(Yp (ds.getD 0 .top),(uL uI) (ds.getD 1 .top))
theorem Agm (a : OP × (List Int)) : Vl (Vm a) = a:=by simp [Vl,Vm,PQ (u:=uI) (en:=OK) (fun _=>rfl)]
instance : Pn Vm Vl:=⟨Agm⟩
def AgP (b : (List Int)) : D:=.sl (b.map OK)
noncomputable def Acq : Dw.Spec:=OT [] (.row 1 3) Vm Vl (fun a=>Wm a.1 a.2) AgP noE
theorem Agn : OR Tryz.prog 35 Acq:=by
 refine fn2 2 (Pm) Tryz.func35<|?_
 rintro ⟨r1,used2⟩
 unfold Wm
 refine A 18 ?_
 refine lP (E:=fun (s : (List Int) × Int) (g : Nat × Nat)=>[(1,.sl (used2.map OK)),(2,.optr 2 g.1 0 0),(5,.osl 5 g.2 0 s.1.length),(6,.int .i64 s.2)]) (O:=fun s g=>[(2,some (g.1,⟨false,true,2,33,[.agg [.sl (r1.To.map OK),.sl (r1.Keep.map D.bool)]]⟩)),(5,some (g.2,⟨false,false,1,3,s.1.map OK⟩))]) (body:=fun s=>VS r1 used2 s.1 s.2) (s:=(([] : List Int),0)) (_,_) ((hE ⟨rfl,r,r,r,trivial⟩ ⟨rfl,r,trivial⟩))<|?_
 rintro ⟨out3,s4⟩ ⟨v2x1,v5x1⟩ nn
 try dsimp only
 unfold VS
 refine A 10 ?_
 refine cD r ?_ ?_
 ·refine A 2 ?_
  refine bC (E:=fun (s : (List Int)) (g : Nat × Nat)=>[(1,.sl (used2.map OK)),(2,.optr 2 g.1 0 0),(5,.osl 5 g.2 0 s.length),(6,.int .i64 s4)]) (O:=fun s g=>[(2,some (g.1,⟨false,true,2,33,[.agg [.sl (r1.To.map OK),.sl (r1.Keep.map D.bool)]]⟩)),(5,some (g.2,⟨false,false,1,3,s.map OK⟩))]) (j:=fun s=>VU s4 s) ?_ ?_
  ·refine A 12 ?_
   refine lP (E:=fun (s : Int × Int) (g : Nat × Nat)=>[(1,.sl (used2.map OK)),(2,.optr 2 g.1 0 0),(5,.osl 5 g.2 0 out3.length),(6,.int .i64 s4),(7,.int .i64 s.1),(8,.int .i64 s.2)]) (O:=fun _ g=>[(2,some (g.1,⟨false,true,2,33,[.agg [.sl (r1.To.map OK),.sl (r1.Keep.map D.bool)]]⟩)),(5,some (g.2,⟨false,false,1,3,out3.map OK⟩))]) (body:=fun s=>VT used2 r1 s4 out3 s.1 s.2) (s:=(0,0)) (_,_) ((hE ⟨rfl,r,r,r,r,r,trivial⟩ ⟨rfl,r,trivial⟩))<|?_
   rintro ⟨n6,i7⟩ ⟨v2x2,v5x2⟩ nn
   try dsimp only
   unfold VT
   exact B
  ·rintro out5 ⟨v2x3,v5x3⟩ nn
   try dsimp only
   unfold VU
   exact B
 ·exact B

def VR (a : OP) : List D:=[RD a]
def VQ (ds : List D) : OP:=Yp (ds.getD 0 .top)
theorem AgN (a : OP) : VQ (VR a) = a:=by simp [VQ,VR]
instance : Pn VR VQ:=⟨AgN⟩
def AhJ (b : (List Int)) : D:=.sl (b.map OK)
noncomputable def Ade : Dw.Spec:=OT [] (.row 1 3) VR VQ (fun a=>Xn a) AhJ noE
theorem AgO : OR Tryz.prog 36 Ade:=by
 refine fn2 1 (Pm) Tryz.func36<|?_
 intro r1
 unfold Xn
 refine A 23 ?_
 refine lP (E:=fun (s : (List Int) × Int × Int) (g : Nat × Nat)=>[(1,.optr 1 g.1 0 0),(3,.osl 3 g.2 0 s.1.length),(4,.int .i64 s.2.1),(5,.int .i64 s.2.2)]) (O:=fun s g=>[(1,some (g.1,⟨false,true,2,33,[.agg [.sl (r1.To.map OK),.sl (r1.Keep.map D.bool)]]⟩)),(3,some (g.2,⟨false,false,1,3,s.1.map OK⟩))]) (body:=fun s=>WT r1 s.1 s.2.1 s.2.2) (s:=(([] : List Int),0,0)) (_,_) ((hE ⟨rfl,r,r,r,trivial⟩ ⟨rfl,r,trivial⟩))<|?_
 rintro ⟨out2,n3,k4⟩ ⟨v1x1,v3x1⟩ nn
 try dsimp only
 unfold WT
 exact B

def AdU (b : OJ × Int) : D:=.tup [PO b.1,.int .i64 b.2]
noncomputable def AdV : Dw.Spec:=OT [] .val Rk Rj (fun a=>UW a.1 a.2) AdU noE
theorem AhI : OR Tryz.prog 13 AdV:=by
 refine fn2 2 (OX (l:=[(31,Za),(33,AeL),(34,Aab),(35,Acq),(36,Ade),(37,ZX)]) (by simp [AaI,AiN,AbQ,Agn,AgO,AbO])) Tryz.func13<|?_
 rintro ⟨f1,r2⟩
 unfold UW
 refine A 13 ?_
 refine bD fun r3 hr3=>?_
 refine A 10 ?_
 refine cD r ?_ ?_
 ·refine A 10 ?_
  refine UY (b:=((OJ.mk 0 ([]) ([])),r3)) r ?_ r r ?_ (by first | rfl | (simp only [OH]; rfl) | (simp only [OI]; rfl) | (simp only [OH,OI]; rfl) | simp [AdU,PO]) (by decide)
  all_goals first|(simp;done)|(simp;omega)|rfl|(simp [Pv,PD];done)
 ·refine A 6 ?_
  refine bD fun r4 hr4=>?_
  refine A 20 ?_
  refine lP (E:=fun (s : (List Pb) × Int) (g : Nat × Nat × Nat × Nat × Nat)=>[(2,.optr 2 g.1 0 0),(3,.optr 3 g.2.1 0 0),(4,.optr 4 g.2.2.1 0 0),(7,.osl 7 g.2.2.2.1 0 r4.length),(8,.optr 8 g.2.2.2.2 0 0),(9,.int .i64 s.2)]) (O:=fun s g=>[(2,some (g.1,⟨false,true,3,40,[.agg [.int .i64 f1.Params,.sl (f1.Slots.map OV),.sl (f1.Code.map OU)]]⟩)),(3,some (g.2.1,⟨false,true,2,33,[.agg [.sl (r2.To.map OK),.sl (r2.Keep.map D.bool)]]⟩)),(4,some (g.2.2.1,⟨false,true,3,40,[.agg [.int .i64 0,.nils,.nils]]⟩)),(7,some (g.2.2.2.1,⟨false,false,1,3,r4.map OK⟩)),(8,some (g.2.2.2.2,⟨false,true,3,40,[.agg [.int .i64 f1.Params,.sl (s.1.map OV),.nils]]⟩))]) (body:=fun s=>Yd r4 f1 r2 s.1 s.2) (s:=([],0)) (_,_,_,_,_) ((Aav [] trivial ⟨(Pq r),(Pq r),(Pq r),(Pq r),(Pq r),(Pq r),trivial⟩ ⟨(.inl r),(.inl r),(.inl r),(.inl r),(.inr ⟨_,_,_,_,r,r,r,r,Zi r ⟨(Uv r),(Xe OV r),(Uv r),trivial⟩⟩),trivial⟩))<|?_
  rintro ⟨out5,i6⟩ ⟨v2x1,v3x1,v4x1,v7x1,v8x1⟩ nn
  try dsimp only
  unfold Yd
  refine A 9 ?_
  refine cD r ?_ ?_
  ·refine A 2 ?_
   refine bC (E:=fun (_s : (List Pb)) (g : Nat × Nat × Nat × Nat × Nat × Nat)=>[(2,.optr 2 g.1 0 0),(3,.optr 3 g.2.1 0 0),(4,.optr 4 g.2.2.1 0 0),(7,.osl 7 g.2.2.2.1 0 r4.length),(8,.optr 8 g.2.2.2.2.1 0 0),(9,.int .i64 i6)]) (O:=fun s g=>[(2,some (g.1,⟨false,true,3,40,[.agg [.int .i64 f1.Params,.sl (f1.Slots.map OV),.sl (f1.Code.map OU)]]⟩)),(3,some (g.2.1,⟨false,true,2,33,[.agg [.sl (r2.To.map OK),.sl (r2.Keep.map D.bool)]]⟩)),(4,some (g.2.2.1,⟨false,true,3,40,[.agg [.int .i64 0,.nils,.nils]]⟩)),(7,some (g.2.2.2.1,⟨false,false,1,3,r4.map OK⟩)),(8,some (g.2.2.2.2.1,⟨false,true,3,40,[.agg [.int .i64 f1.Params,.osl 13 g.2.2.2.2.2 0 s.length,.nils]]⟩)),(13,some (g.2.2.2.2.2,⟨false,false,2,67,s.map OV⟩))]) (j:=fun s=>Ye i6 s) ?_ ?_
   ·refine A 7 ?_
    refine bD fun used_e8 hused_e8=>?_
    refine A 1 ?_
    refine bD fun x_x9 hx_x9=>?_
    refine A 13 ?_
    refine bD fun used_e10 hused_e10=>?_
    refine A 1 ?_
    refine bD fun r11 hr11=>?_
    refine A 11 ?_
    refine lP (E:=fun (s : Int × Int) (g : Nat × Nat × Nat × Nat × Nat × Nat × Nat)=>[(2,.optr 2 g.1 0 0),(3,.optr 3 g.2.1 0 0),(4,.optr 4 g.2.2.1 0 0),(7,.osl 7 g.2.2.2.1 0 r4.length),(8,.optr 8 g.2.2.2.2.1 0 0),(9,.int .i64 i6),(10,.optr 10 g.2.2.2.2.2.1 0 0),(11,.osl 11 g.2.2.2.2.2.2 0 r11.length),(12,.int .i64 s.2)]) (O:=fun s g=>[(2,some (g.1,⟨false,true,3,40,[.agg [.int .i64 f1.Params,.sl (f1.Slots.map OV),.sl (f1.Code.map OU)]]⟩)),(3,some (g.2.1,⟨false,true,2,33,[.agg [.sl (r2.To.map OK),.sl (r2.Keep.map D.bool)]]⟩)),(4,some (g.2.2.1,⟨false,true,3,40,[.agg [.int .i64 0,.nils,.nils]]⟩)),(7,some (g.2.2.2.1,⟨false,false,1,3,r4.map OK⟩)),(8,some (g.2.2.2.2.1,⟨false,true,3,40,[.agg [.int .i64 f1.Params,.sl (out5.map OV),.nils]]⟩)),(10,some (g.2.2.2.2.2.1,⟨false,true,2,67,[.agg [.int .i64 x_x9.Size,.int .i64 s.1]]⟩)),(11,some (g.2.2.2.2.2.2,⟨false,false,1,3,r11.map OK⟩))]) (body:=fun s=>VA r11 f1 out5 x_x9 i6 s.1 s.2) (s:=(x_x9.Align,0)) (_,_,_,_,_,_,_) ((hE ⟨rfl,r,r,r,r,r,r,r,r,trivial⟩ ⟨rfl,r,r,r,r,r,r,trivial⟩))<|?_
    rintro ⟨s12,k13⟩ ⟨v2x2,v3x2,v4x2,v7x2,v8x2,v10x2,v11x2⟩ nn
    try dsimp only
    unfold VA
    refine A 9 ?_
    refine cD r ?_ ?_
    ·exact B
    ·refine A 11 ?_
     refine bS ([(Pb.mk x_x9.Size s12)] : List Pb) OV r r r (by simp) r r r<|?_
     exact B
   ·rintro slots7 ⟨v2x3,v3x3,v4x3,v7x3,v8x3,v13x3⟩ nn
    try dsimp only
    unfold Ye
    refine A 5 ?_
    exact wf [13] fun _=>B
  ·refine A 9 ?_
   refine bD fun r16 hr16=>?_
   refine A 2 ?_
   refine bD fun r17 hr17=>?_
   refine A 12 ?_
   refine lP (E:=fun (s : (List OM) × Int) (g : Nat × Nat × Nat × Nat × Nat × Nat)=>[(2,.optr 2 g.1 0 0),(3,.optr 3 g.2.1 0 0),(4,.optr 4 g.2.2.1 0 0),(8,.optr 8 g.2.2.2.1 0 0),(14,.osl 14 g.2.2.2.2.1 0 r16.length),(15,.osl 15 g.2.2.2.2.2 0 r17.length),(16,.int .i64 s.2)]) (O:=fun s g=>[(2,some (g.1,⟨false,true,3,40,[.agg [.int .i64 f1.Params,.sl (f1.Slots.map OV),.sl (f1.Code.map OU)]]⟩)),(3,some (g.2.1,⟨false,true,2,33,[.agg [.sl (r2.To.map OK),.sl (r2.Keep.map D.bool)]]⟩)),(4,some (g.2.2.1,⟨false,true,3,40,[.agg [.int .i64 0,.nils,.nils]]⟩)),(8,some (g.2.2.2.1,⟨false,true,3,40,[.agg [.int .i64 f1.Params,.sl (out5.map OV),.sl (s.1.map OU)]]⟩)),(14,some (g.2.2.2.2.1,⟨false,false,1,3,r16.map OK⟩)),(15,some (g.2.2.2.2.2,⟨false,false,1,3,r17.map OK⟩))]) (body:=fun s=>VB f1 r2 r16 r17 out5 s.1 s.2) (s:=([],0)) (_,_,_,_,_,_) ((Aav [] trivial ⟨(Pq r),(Pq r),(Pq r),(Pq r),(Pq r),(Pq r),(Pq r),trivial⟩ ⟨(.inl r),(.inl r),(.inl r),(.inr ⟨_,_,_,_,r,r,r,r,Zi r ⟨(Uv r),(Uv r),(Xe OU r),trivial⟩⟩),(.inl r),(.inl r),trivial⟩))<|?_
   rintro ⟨out18,k19⟩ ⟨v2x4,v3x4,v4x4,v8x4,v14x4,v15x4⟩ nn
   try dsimp only
   unfold VB
   refine A 10 ?_
   refine cD r ?_ ?_
   ·refine A 10 ?_
    refine bD fun x_x20 hx_x20=>?_
    refine A 5 ?_
    refine cD r ?_ ?_
    ·exact B
    ·refine A 7 ?_
     refine bD fun x_x21 hx_x21=>?_
     refine A 3 ?_
     refine bD fun r22 hr22=>?_
     refine A 5 ?_
     refine sC (E:=fun (_s : Int × Int) (g : Nat × Nat × Nat × Nat × Nat × Nat × Nat)=>[(2,.optr 2 g.1 0 0),(3,.optr 3 g.2.1 0 0),(4,.optr 4 g.2.2.1 0 0),(8,.optr 8 g.2.2.2.1 0 0),(14,.osl 14 g.2.2.2.2.1 0 r16.length),(15,.osl 15 g.2.2.2.2.2.1 0 r17.length),(16,.int .i64 k19),(17,.optr 17 g.2.2.2.2.2.2 0 0)]) (O:=fun s g=>[(2,some (g.1,⟨false,true,3,40,[.agg [.int .i64 f1.Params,.sl (f1.Slots.map OV),.sl (f1.Code.map OU)]]⟩)),(3,some (g.2.1,⟨false,true,2,33,[.agg [.sl (r2.To.map OK),.sl (r2.Keep.map D.bool)]]⟩)),(4,some (g.2.2.1,⟨false,true,3,40,[.agg [.int .i64 0,.nils,.nils]]⟩)),(8,some (g.2.2.2.1,⟨false,true,3,40,[.agg [.int .i64 f1.Params,.sl (out5.map OV),.sl (out18.map OU)]]⟩)),(14,some (g.2.2.2.2.1,⟨false,false,1,3,r16.map OK⟩)),(15,some (g.2.2.2.2.2.1,⟨false,false,1,3,r17.map OK⟩)),(17,some (g.2.2.2.2.2.2,⟨false,true,5,69,[.agg [.int .i64 r22.Op,.int .i64 s.1,.int .i64 s.2,.int .i64 r22.C,.int .u64 r22.Imm]]⟩))]) (j:=fun s=>SB out18 r22 k19 s.1 s.2) ?_ ?_
     ·exact B
     ·rintro ⟨x23,x24⟩ ⟨v2x5,v3x5,v4x5,v8x5,v14x5,v15x5,v17x5⟩ nn
      try dsimp only
      unfold SB
      refine A 6 ?_
      refine bS ([(OM.mk r22.Op x23 x24 r22.C r22.Imm)] : List OM) OU r r r (by simp) r r r<|?_
      refine A 16 ?_
      exact wf [18] fun _=>B
   ·exact B

def AhD (b : (List (List Int)) × Int) : D:=.tup [.sl (b.1.map (eL OK)),.int .i64 b.2]
noncomputable def Adb : Dw.Spec:=OT [] .val Ps Pr (fun a=>Aaa a.1 a.2) AhD noE
theorem AgK : OR Tryz.prog 75 Adb:=by
 refine fn2 2 (OX (l:=[(96,Abh)]) (by simp [Adc])) Tryz.func75<|?_
 intro a
 unfold Aaa
 exact B

def VE (a : Pf × Int) : List D:=[Ss a.1,.int .i64 a.2]
def VD (ds : List D) : Pf × Int:=(Zm (ds.getD 0 .top),uI (ds.getD 1 .top))
theorem AiQ (a : Pf × Int) : VD (VE a) = a:=by simp [VD,VE,uI]
instance : Pn VE VD:=⟨AiQ⟩
def AjQ (b : Int) : D:=.int .i64 b
noncomputable def AbS : Dw.Spec:=OT [] .ground VE VD (fun a=>Yk a.1 a.2) AjQ noE
theorem AdY : OR Tryz.prog 77 AbS:=by
 refine fn2 2 (Pm) Tryz.func77<|?_
 rintro ⟨p1,i2⟩
 unfold Yk
 refine A 16 ?_
 refine bD fun x_x3 hx_x3=>?_
 refine A 13 ?_
 refine lP (E:=fun (s : Int × Int) (g : Nat)=>[(2,.optr 2 g 0 0),(5,.int .i64 s.1),(6,.sl (x_x3.Code.map OU)),(7,.int .i64 s.2)]) (O:=fun _ g=>[(2,some (g,⟨false,true,1,26,[.agg [.sl (p1.Funcs.map PO)]]⟩))]) (body:=fun s=>Zg x_x3 p1 s.1 s.2) (s:=(0,0)) _ ((hE ⟨rfl,r,r,r,trivial⟩ ⟨rfl,trivial⟩))<|?_
 rintro ⟨n4,k5⟩ v2x1 nn
 try dsimp only
 unfold Zg
 exact B

def AjC (b : Bool) : D:=.bool b
noncomputable def AeD : Dw.Spec:=OT [] .ground PL PK (fun a=>ZP a) AjC noE
theorem Aij : OR Tryz.prog 128 AeD:=by
 refine fn2 1 (Pm) Tryz.func128<|?_
 intro a
 unfold ZP
 exact B

def Aim (b : Bool) : D:=.bool b
noncomputable def YS : Dw.Spec:=OT [] .ground PL PK (fun a=>US a) Aim noE
theorem AaB : OR Tryz.prog 129 YS:=by
 refine fn2 1 (Pm) Tryz.func129<|?_
 intro n1
 unfold US
 refine A 12 ?_
 refine lP (E:=fun (s : Int) (_g : Unit)=>[(0,.int .i64 n1),(3,.int .i64 s)]) (O:=fun _ _=>[]) (body:=fun s=>XB n1 s) (s:=1) () ((hE ⟨rfl,r,trivial⟩ trivial))<|?_
 rintro k2 ⟨⟩ nn
 try dsimp only
 unfold XB
 exact B

def Tp (a : (List Pb)) : List D:=[.sl (a.map OV)]
def Tn (ds : List D) : (List Pb):=(uL Zh) (ds.getD 0 .top)
theorem Ahs (a : (List Pb)) : Tn (Tp a) = a:=by simp [Tn,Tp,PQ (u:=Zh) (en:=OV) AeW]
instance : Pn Tp Tn:=⟨Ahs⟩
def Aio (b : Int) : D:=.int .i64 b
noncomputable def Abe : Dw.Spec:=OT [] .ground Tp Tn (fun a=>Wq a) Aio noE
theorem AcY : OR Tryz.prog 100 Abe:=by
 refine fn2 1 (OX (l:=[(128,AeD),(129,YS)]) (by simp [Aij,AaB])) Tryz.func100<|?_
 intro s1
 unfold Wq
 refine A 13 ?_
 refine cD r ?_ ?_
 ·exact B
 ·refine A 9 ?_
  refine lP (E:=fun (s : Int) (_g : Unit)=>[(0,.sl (s1.map OV)),(3,.int .i64 s)]) (O:=fun _ _=>[]) (body:=fun s=>XC s1 s) (s:=0) () ((hE ⟨rfl,r,trivial⟩ trivial))<|?_
  rintro i2 ⟨⟩ nn
  try dsimp only
  unfold XC
  exact B

def WN (a : (List (List Int)) × Int) : List D:=[.sl (a.1.map (eL OK)),.int .i64 a.2]
def WM (ds : List D) : (List (List Int)) × Int:=((uL (uL uI)) (ds.getD 0 .top),uI (ds.getD 1 .top))
theorem Ahz (a : (List (List Int)) × Int) : WM (WN a) = a:=by simp [WM,WN,uI,PQ (u:=(uL uI)) (en:=(eL OK)) (PQ (u:=uI) (en:=OK) (fun _=>rfl))]
instance : Pn WN WM:=⟨Ahz⟩
def AiD (b : Bool) : D:=.bool b
noncomputable def AdP : Dw.Spec:=OT [] .ground WN WM (fun a=>YF a.1 a.2) AiD noE
theorem AhA : OR Tryz.prog 101 AdP:=by
 refine fn2 2 (OX (l:=[(91,Abf),(62,UT)]) (by simp [AcZ,Vw])) Tryz.func101<|?_
 rintro ⟨g1,n2⟩
 unfold YF
 refine A 14 ?_
 refine cD r ?_ ?_
 ·exact B
 ·refine A 9 ?_
  refine lP (E:=fun (s : Int) (_g : Unit)=>[(0,.sl (g1.map (eL OK))),(1,.int .i64 n2),(5,.int .i64 s)]) (O:=fun _ _=>[]) (body:=fun s=>XN n2 g1 s) (s:=0) () ((hE ⟨rfl,r,r,trivial⟩ trivial))<|?_
  rintro x3 ⟨⟩ nn
  try dsimp only
  unfold XN
  refine A 8 ?_
  refine cD r ?_ ?_
  ·refine A 2 ?_
   refine bC (E:=fun (s : (List Int) × (List Int) × Bool) (_g : Unit)=>[(0,.sl (g1.map (eL OK))),(1,.int .i64 n2),(5,.int .i64 x3),(24,.sl (g1.map (eL OK))),(25,.int .i64 x3),(26,.fptr (.sl (s.1.map OK)) 0),(27,.sl (s.2.1.map OK)),(28,.int .i64 x3),(29,.bool s.2.2)]) (O:=fun _ _=>[]) (j:=fun s=>XP x3 s.1 s.2.1 s.2.2) ?_ ?_
   ·refine sC (E:=fun (s : (List Int) × (List Int) × Bool) (_g : Unit)=>[(0,.sl (g1.map (eL OK))),(1,.int .i64 n2),(5,.int .i64 x3),(24,.sl (g1.map (eL OK))),(25,.int .i64 x3),(26,.fptr (.sl (s.1.map OK)) 0),(27,.sl (s.2.1.map OK)),(28,.int .i64 x3),(29,.bool s.2.2)]) (O:=fun _ _=>[]) (j:=fun s=>XQ g1 x3 n2 s.1 s.2.1 s.2.2) ?_ ?_
    ·exact B
    ·rintro ⟨x7,x8,x9⟩ ⟨⟩ nn
     try dsimp only
     unfold XQ
     refine A 6 ?_
     refine lP (E:=fun (s : Int) (_g : Unit)=>[(0,.sl (g1.map (eL OK))),(1,.int .i64 n2),(5,.int .i64 x3),(6,.int .i64 s),(24,.sl (g1.map (eL OK))),(25,.int .i64 x3),(26,.fptr (.sl (x7.map OK)) 0),(27,.sl (x8.map OK)),(28,.int .i64 x3),(29,.bool x9)]) (O:=fun _ _=>[]) (body:=fun s=>XO g1 x3 n2 x7 x8 x9 s) (s:=0) () ((hE ⟨rfl,r,r,r,r,r,r,r,r,r,trivial⟩ trivial))<|?_
     rintro i14 ⟨⟩ nn
     try dsimp only
     unfold XO
     exact B
   ·rintro ⟨x4,x5,x6⟩ ⟨⟩ nn
    try dsimp only
    unfold XP
    exact B
  ·exact B

def Ail (b : Bool) : D:=.bool b
noncomputable def Wg : Dw.Spec:=OT [] .ground PL PK (fun a=>RM a) Ail noE
theorem XA : OR Tryz.prog 102 Wg:=by
 refine fn2 1 (Pm) Tryz.func102<|?_
 intro a
 unfold RM
 exact B

def VY (a : Pb × Pb) : List D:=[OV a.1,OV a.2]
def VX (ds : List D) : Pb × Pb:=(Zh (ds.getD 0 .top),Zh (ds.getD 1 .top))
theorem AgS (a : Pb × Pb) : VX (VY a) = a:=by simp [VX,VY]
instance : Pn VY VX:=⟨AgS⟩
def AhN (b : Bool) : D:=.bool b
noncomputable def Adg : Dw.Spec:=OT [] .ground VY VX (fun a=>Xp a.1 a.2) AhN noE
theorem AgT : OR Tryz.prog 130 Adg:=by
 refine fn2 2 (Pm) Tryz.func130<|?_
 intro a
 unfold Xp
 exact B

def AiP (b : (List Int)) : D:=.sl (b.map OK)
noncomputable def AdX : Dw.Spec:=OT [] (.row 1 3) Tp Tn (fun a=>YL a) AiP noE
theorem AhM : OR Tryz.prog 103 AdX:=by
 refine fn2 1 (OX (l:=[(130,Adg)]) (by simp [AgT])) Tryz.func103<|?_
 intro s1
 unfold YL
 refine A 17 ?_
 refine lP (E:=fun (s : (List Int) × Int) (g : Nat)=>[(0,.sl (s1.map OV)),(3,.osl 3 g 0 s.1.length),(4,.int .i64 s.2)]) (O:=fun s g=>[(3,some (g,⟨false,false,1,3,s.1.map OK⟩))]) (body:=fun s=>Yh s1 s.1 s.2) (s:=(([] : List Int),0)) _ ((hE ⟨rfl,r,r,trivial⟩ ⟨rfl,trivial⟩))<|?_
 rintro ⟨out2,i3⟩ v3x1 nn
 try dsimp only
 unfold Yh
 refine A 9 ?_
 refine cD r ?_ ?_
 ·refine A 2 ?_
  refine bC (E:=fun (s : (List Int)) (g : Nat)=>[(0,.sl (s1.map OV)),(3,.osl 3 g 0 s.length),(4,.int .i64 i3)]) (O:=fun s g=>[(3,some (g,⟨false,false,1,3,s.map OK⟩))]) (j:=fun s=>Yj i3 s) ?_ ?_
  ·refine A 7 ?_
   refine bC (E:=fun (s : Int) (g : Nat)=>[(0,.sl (s1.map OV)),(3,.osl 3 g 0 out2.length),(4,.int .i64 i3),(5,.int .i64 s)]) (O:=fun _ g=>[(3,some (g,⟨false,false,1,3,out2.map OK⟩))]) (j:=fun s=>TQ out2 i3 s) ?_ ?_
   ·refine lP (E:=fun (s : Int) (g : Nat)=>[(0,.sl (s1.map OV)),(3,.osl 3 g 0 out2.length),(4,.int .i64 i3),(5,.int .i64 s)]) (O:=fun _ g=>[(3,some (g,⟨false,false,1,3,out2.map OK⟩))]) (body:=fun s=>Yi s1 i3 out2 s) (s:=(out2.length : Int)) _ ((hE ⟨rfl,r,r,r,trivial⟩ ⟨rfl,trivial⟩))<|?_
    rintro k6 v3x2 nn
    try dsimp only
    unfold Yi
    exact B
   ·rintro k5 v3x3 nn
    try dsimp only
    unfold TQ
    refine A 4 ?_
    refine cK fun hq=>AaK (l:=out2) r r r r r r hq<|cK fun hq=>aP (([] : List Int)) (out2.take k5.toNat) OK r r r r r r r (by first | (simp; done) | (simp; omega)) (by simp [List.map_take]) r r (by simp) r (fun _=>r) r hq<|?_
    refine A 7 ?_
    refine cK fun hq=>aP (([] : List Int) ++ (out2.take k5.toNat)) (([i3] : List Int)) OK r r r r r r r (by simp) (Tt _ _ r) r r (by simp) (Sc _ _ r) (fun _=>r) r hq<|?_
    refine A 2 ?_
    refine cK fun hq=>Yn (l:=out2) r r r r r r hq<|cK fun hq=>aP ((([] : List Int) ++ (out2.take k5.toNat)) ++ ([i3] : List Int)) (out2.drop k5.toNat) OK r r r r r r r (by first | (simp; done) | (simp; omega)) (AbW _ _ _) r r (by simp) (Sc _ _ r) (fun _=>r) r hq<|?_
    exact B
  ·rintro out4 v3x4 nn
   try dsimp only
   unfold Yj
   exact B
 ·exact B

def WJ (a : Pc) : List D:=[Qc a]
def WI (ds : List D) : Pc:=TK (ds.getD 0 .top)
theorem Ahr (a : Pc) : WI (WJ a) = a:=by simp [WI,WJ]
instance : Pn WJ WI:=⟨Ahr⟩
def Ain (b : Bool) : D:=.bool b
noncomputable def YT : Dw.Spec:=OT [] .ground WJ WI (fun a=>SQ a) Ain noE
theorem AaC : OR Tryz.prog 105 YT:=by
 refine fn2 1 (OX (l:=[(102,Wg)]) (by simp [XA])) Tryz.func105<|?_
 intro a
 unfold SQ
 exact B

def ZU (a : Int × Int) : List D:=[.int .i64 a.1,.int .i64 a.2]
def ZT (ds : List D) : Int × Int:=(uI (ds.getD 0 .top),uI (ds.getD 1 .top))
theorem Akr (a : Int × Int) : ZT (ZU a) = a:=by simp [ZT,ZU,uI]
instance : Pn ZU ZT:=⟨Akr⟩
def AkW (b : Int × Int) : D:=.tup [.int .i64 b.1,.int .i64 b.2]
noncomputable def Ady : Dw.Spec:=OT [] .ground ZU ZT (fun a=>AaD a.1 a.2) AkW noE
theorem AfG : OR Tryz.prog 106 Ady:=by
 refine fn2 2 (OX (l:=[(102,Wg),(129,YS)]) (by simp [XA,AaB])) Tryz.func106<|?_
 rintro ⟨n1,align2⟩
 unfold AaD
 refine A 6 ?_
 refine sC (E:=fun (_s : Unit) (_g : Unit)=>[(0,.int .i64 n1),(1,.int .i64 align2)]) (O:=fun _ _=>[]) (j:=fun _=>AaL align2 n1) ?_ ?_
 ·exact B
 ·rintro ⟨⟩ ⟨⟩ nn
  try dsimp only
  unfold AaL
  refine A 6 ?_
  refine sC (E:=fun (s : Int) (_g : Unit)=>[(6,.int .i64 s)]) (O:=fun _ _=>[]) (j:=fun s=>Ws s) ?_ ?_
  ·exact B
  ·rintro m5 ⟨⟩ nn
   try dsimp only
   unfold Ws
   exact B

def Ve (a : Pc × Pc) : List D:=[Qc a.1,Qc a.2]
def Vd (ds : List D) : Pc × Pc:=(TK (ds.getD 0 .top),TK (ds.getD 1 .top))
theorem Aga (a : Pc × Pc) : Vd (Ve a) = a:=by simp [Vd,Ve]
instance : Pn Ve Vd:=⟨Aga⟩
def AgE (b : Bool) : D:=.bool b
noncomputable def Aci : Dw.Spec:=OT [] .ground Ve Vd (fun a=>Wh a.1 a.2) AgE noE
theorem Agb : OR Tryz.prog 150 Aci:=by
 refine fn2 2 (OX (l:=[(105,YT)]) (by simp [AaC])) Tryz.func150<|?_
 intro a
 unfold Wh
 exact B

def XE (a : (List Pc) × Pc) : List D:=[.sl (a.1.map Qc),Qc a.2]
def XD (ds : List D) : (List Pc) × Pc:=((uL TK) (ds.getD 0 .top),TK (ds.getD 1 .top))
theorem Aip (a : (List Pc) × Pc) : XD (XE a) = a:=by simp [XD,XE,PQ (u:=TK) (en:=Qc) AfJ]
instance : Pn XE XD:=⟨Aip⟩
def AjF (b : Bool) : D:=.bool b
noncomputable def AeE : Dw.Spec:=OT [] .ground XE XD (fun a=>ZV a.1 a.2) AjF noE
theorem Aiq : OR Tryz.prog 131 AeE:=by
 refine fn2 2 (OX (l:=[(150,Aci)]) (by simp [Agb])) Tryz.func131<|?_
 rintro ⟨used1,x2⟩
 unfold ZV
 refine A 13 ?_
 refine lP (E:=fun (s : Int) (g : Nat)=>[(0,.sl (used1.map Qc)),(3,.optr 3 g 0 0),(5,.int .i64 s)]) (O:=fun _ g=>[(3,some (g,⟨false,true,2,157,[.agg [.int .i64 x2.Off,.int .i64 x2.Size]]⟩))]) (body:=fun s=>YU used1 x2 s) (s:=0) _ ((hE ⟨rfl,r,r,trivial⟩ ⟨rfl,trivial⟩))<|?_
 rintro i3 v3x1 nn
 try dsimp only
 unfold YU
 exact B

def YR (a : (List Pc) × Int × Int × Int) : List D:=[.sl (a.1.map Qc),.int .i64 a.2.1,.int .i64 a.2.2.1,.int .i64 a.2.2.2]
def YQ (ds : List D) : (List Pc) × Int × Int × Int:=((uL TK) (ds.getD 0 .top),uI (ds.getD 1 .top),uI (ds.getD 2 .top),uI (ds.getD 3 .top))
theorem AjD (a : (List Pc) × Int × Int × Int) : YQ (YR a) = a:=by simp [YQ,YR,uI,PQ (u:=TK) (en:=Qc) AfJ]
instance : Pn YR YQ:=⟨AjD⟩
def Akq (b : Int × Int) : D:=.tup [.int .i64 b.1,.int .i64 b.2]
noncomputable def AfF : Dw.Spec:=OT [] .ground YR YQ (fun a=>AaZ a.1 a.2.1 a.2.2.1 a.2.2.2) Akq noE
theorem AjE : OR Tryz.prog 104 AfF:=by
 refine fn2 4 (OX (l:=[(102,Wg),(129,YS),(105,YT),(106,Ady),(131,AeE)]) (by simp [XA,AaB,AaC,AfG,Aiq])) Tryz.func104<|?_
 rintro ⟨used1,from2,size3,align4⟩
 unfold AaZ
 refine A 6 ?_
 refine sC (E:=fun (_s : Unit) (_g : Unit)=>[(0,.sl (used1.map Qc)),(1,.int .i64 from2),(2,.int .i64 size3),(3,.int .i64 align4)]) (O:=fun _ _=>[]) (j:=fun _=>ZS used1 align4 size3 from2) ?_ ?_
 ·exact B
 ·rintro ⟨⟩ ⟨⟩ nn
  try dsimp only
  unfold ZS
  refine A 7 ?_
  refine lP (E:=fun (s : Int) (_g : Unit)=>[(0,.sl (used1.map Qc)),(1,.int .i64 from2),(2,.int .i64 size3),(3,.int .i64 align4),(10,.int .i64 s)]) (O:=fun _ _=>[]) (body:=fun s=>ZQ used1 align4 size3 from2 s) (s:=0) () ((hE ⟨rfl,r,r,r,r,trivial⟩ trivial))<|?_
  rintro i8 ⟨⟩ nn
  try dsimp only
  unfold ZQ
  refine A 9 ?_
  refine cD r ?_ ?_
  ·exact B
  ·refine A 18 ?_
   refine lP (E:=fun (s : Int × Bool × Int) (_g : Unit)=>[(0,.sl (used1.map Qc)),(1,.int .i64 from2),(2,.int .i64 size3),(3,.int .i64 align4),(11,.int .i64 s.1),(12,.bool s.2.1),(13,.int .i64 s.2.2)]) (O:=fun _ _=>[]) (body:=fun s=>ZR used1 align4 size3 from2 s.1 s.2.1 s.2.2) (s:=(0,false,(-1))) () ((hE ⟨rfl,r,r,r,r,r,r,trivial⟩ trivial))<|?_
   rintro ⟨best11,found12,i13⟩ ⟨⟩ nn
   try dsimp only
   unfold ZR
   refine A 9 ?_
   refine cD r ?_ ?_
   ·refine A 10 ?_
    refine sC (E:=fun (s : Int) (_g : Unit)=>[(0,.sl (used1.map Qc)),(1,.int .i64 from2),(2,.int .i64 size3),(3,.int .i64 align4),(11,.int .i64 best11),(12,.bool found12),(13,.int .i64 i13),(14,.int .i64 s)]) (O:=fun _ _=>[]) (j:=fun s=>Vu align4 size3 used1 found12 i13 best11 s) ?_ ?_
    ·exact B
    ·rintro at14 ⟨⟩ nn
     try dsimp only
     unfold Vu
     exact B
   ·exact B

def VW (a : (List Pb) × (List (List Int)) × Int) : List D:=[.sl (a.1.map OV),.sl (a.2.1.map (eL OK)),.int .i64 a.2.2]
def VV (ds : List D) : (List Pb) × (List (List Int)) × Int:=((uL Zh) (ds.getD 0 .top),(uL (uL uI)) (ds.getD 1 .top),uI (ds.getD 2 .top))
theorem AgQ (a : (List Pb) × (List (List Int)) × Int) : VV (VW a) = a:=by simp [VV,VW,uI,PQ (u:=Zh) (en:=OV) AeW,PQ (u:=(uL uI)) (en:=(eL OK)) (PQ (u:=uI) (en:=OK) (fun _=>rfl))]
instance : Pn VW VV:=⟨AgQ⟩
def AhL (b : (List Int) × Int) : D:=.tup [.sl (b.1.map OK),.int .i64 b.2]
noncomputable def Adf : Dw.Spec:=OT [] .val VW VV (fun a=>Xo a.1 a.2.1 a.2.2) AhL noE
theorem AgR : OR Tryz.prog 76 Adf:=by
 refine fn2 3 (OX (l:=[(100,Abe),(101,AdP),(102,Wg),(103,AdX),(62,UT),(104,AfF)]) (by simp [AcY,AhA,XA,AhM,Vw,AjE])) Tryz.func76<|?_
 rintro ⟨s1,g2,from3⟩
 unfold Xo
 refine A 10 ?_
 refine bD fun r4 hr4=>?_
 refine A 10 ?_
 refine cD r ?_ ?_
 ·exact B
 ·refine A 2 ?_
  refine sC (E:=fun (_s : Unit) (_g : Unit)=>[(0,.sl (s1.map OV)),(1,.sl (g2.map (eL OK))),(2,.int .i64 from3)]) (O:=fun _ _=>[]) (j:=fun _=>WX s1 g2 from3) ?_ ?_
  ·exact B
  ·rintro ⟨⟩ ⟨⟩ nn
   try dsimp only
   unfold WX
   refine A 15 ?_
   refine bD fun r7 hr7=>?_
   refine A 11 ?_
   refine lP (E:=fun (s : (List Bool) × (List Int) × Int) (g : Nat × Nat × Nat)=>[(0,.sl (s1.map OV)),(1,.sl (g2.map (eL OK))),(2,.int .i64 from3),(9,.osl 9 g.1 0 s.2.1.length),(10,.osl 10 g.2.1 0 s.1.length),(11,.osl 11 g.2.2 0 r7.length),(12,.int .i64 s.2.2)]) (O:=fun s g=>[(9,some (g.1,⟨false,false,1,3,s.2.1.map OK⟩)),(10,some (g.2.1,⟨false,false,1,4,s.1.map D.bool⟩)),(11,some (g.2.2,⟨false,false,1,3,r7.map OK⟩))]) (body:=fun s=>WU r7 s1 g2 from3 s.1 s.2.1 s.2.2) (s:=(List.replicate (s1.length : Int).toNat false,List.replicate (s1.length : Int).toNat (0 : Int),0)) (_,_,_) ((hE ⟨rfl,r,r,r,r,r,r,trivial⟩ ⟨rfl,r,r,trivial⟩))<|?_
   rintro ⟨done8,off9,i10⟩ ⟨v9x2,v10x2,v11x2⟩ nn
   try dsimp only
   unfold WU
   refine A 9 ?_
   refine cD r ?_ ?_
   ·refine A 2 ?_
    refine bC (E:=fun (s : (List Bool) × (List Int)) (g : Nat × Nat × Nat)=>[(0,.sl (s1.map OV)),(1,.sl (g2.map (eL OK))),(2,.int .i64 from3),(9,.osl 9 g.1 0 s.2.length),(10,.osl 10 g.2.1 0 s.1.length),(11,.osl 11 g.2.2 0 r7.length),(12,.int .i64 i10)]) (O:=fun s g=>[(9,some (g.1,⟨false,false,1,3,s.2.map OK⟩)),(10,some (g.2.1,⟨false,false,1,4,s.1.map D.bool⟩)),(11,some (g.2.2,⟨false,false,1,3,r7.map OK⟩))]) (j:=fun s=>WY i10 s.1 s.2) ?_ ?_
    ·refine A 5 ?_
     refine bD fun order_e13 horder_e13=>?_
     refine A 16 ?_
     refine lP (E:=fun (s : (List Pc) × Int) (g : Nat × Nat × Nat × Nat)=>[(0,.sl (s1.map OV)),(1,.sl (g2.map (eL OK))),(2,.int .i64 from3),(9,.osl 9 g.1 0 off9.length),(10,.osl 10 g.2.1 0 done8.length),(11,.osl 11 g.2.2.1 0 r7.length),(12,.int .i64 i10),(13,.int .i64 order_e13),(14,.osl 14 g.2.2.2 0 s.1.length),(15,.int .i64 s.2)]) (O:=fun s g=>[(9,some (g.1,⟨false,false,1,3,off9.map OK⟩)),(10,some (g.2.1,⟨false,false,1,4,done8.map D.bool⟩)),(11,some (g.2.2.1,⟨false,false,1,3,r7.map OK⟩)),(14,some (g.2.2.2,⟨false,false,2,157,s.1.map Qc⟩))]) (body:=fun s=>WV s1 done8 g2 order_e13 off9 from3 i10 s.1 s.2) (s:=(([] : List Pc),0)) (_,_,_,_) ((hE ⟨rfl,r,r,r,r,r,r,r,r,r,trivial⟩ ⟨rfl,r,r,r,trivial⟩))<|?_
     rintro ⟨used14,y15⟩ ⟨v9x3,v10x3,v11x3,v14x3⟩ nn
     try dsimp only
     unfold WV
     refine A 9 ?_
     refine cD r ?_ ?_
     ·refine A 4 ?_
      refine sC (E:=fun (s : Bool) (g : Nat × Nat × Nat × Nat)=>[(0,.sl (s1.map OV)),(1,.sl (g2.map (eL OK))),(2,.int .i64 from3),(9,.osl 9 g.1 0 off9.length),(10,.osl 10 g.2.1 0 done8.length),(11,.osl 11 g.2.2.1 0 r7.length),(12,.int .i64 i10),(13,.int .i64 order_e13),(14,.osl 14 g.2.2.2 0 used14.length),(15,.int .i64 y15),(68,.bool s)]) (O:=fun _ g=>[(9,some (g.1,⟨false,false,1,3,off9.map OK⟩)),(10,some (g.2.1,⟨false,false,1,4,done8.map D.bool⟩)),(11,some (g.2.2.1,⟨false,false,1,3,r7.map OK⟩)),(14,some (g.2.2.2,⟨false,false,2,157,used14.map Qc⟩))]) (j:=fun s=>Ts y15 off9 s1 used14 s) ?_ ?_
      ·exact B
      ·rintro x16 ⟨v9x4,v10x4,v11x4,v14x4⟩ nn
       try dsimp only
       unfold Ts
       refine cD r ?_ ?_
       ·refine A 5 ?_
        refine bD fun off_e20 hoff_e20=>?_
        refine A 3 ?_
        refine bD fun x_x21 hx_x21=>?_
        refine A 4 ?_
        refine bS ([(Pc.mk off_e20 x_x21.Size)] : List Pc) Qc r r r (by simp) r r r<|?_
        exact B
       ·exact B
     ·exact B
    ·rintro ⟨done11,off12⟩ ⟨v9x5,v10x5,v11x5⟩ nn
     try dsimp only
     unfold WY
     exact B
   ·exact B

def TA (a : Pf × Int × OJ) : List D:=[Ss a.1,.int .i64 a.2.1,PO a.2.2]
def Tz (ds : List D) : Pf × Int × OJ:=(Zm (ds.getD 0 .top),uI (ds.getD 1 .top),RV (ds.getD 2 .top))
theorem Agk (a : Pf × Int × OJ) : Tz (TA a) = a:=by simp [Tz,TA,uI]
instance : Pn TA Tz:=⟨Agk⟩
def Aco (b : Pf) : D:=Ss b
noncomputable def Acp : Dw.Spec:=OT [] .val TA Tz (fun a=>Zb a.1 a.2.1 a.2.2) Aco noE
theorem Agl : OR Tryz.prog 14 Acp:=by
 refine fn2 3 (Pm) Tryz.func14<|?_
 rintro ⟨p1,i2,f3⟩
 unfold Zb
 refine A 11 ?_
 refine cK fun hq=>aP (([] : List OJ)) (p1.Funcs) PO r r r r r r r (by simp) r r r (by simp) r (fun _=>r) r hq<|?_
 refine A 8 ?_
 refine cK fun hq=>iO (l:=([] : List OJ) ++ p1.Funcs) (en:=PO) r r r r r hq<|bD fun l_o4 hl_o4=>sE (l:=([] : List OJ) ++ p1.Funcs) (en:=PO) (q':=f3) r r r r r r r (by simp) hl_o4 r r r r r<|?_
 refine A 10 ?_
 refine Uq (b:=(Pf.mk ((([] : List OJ) ++ p1.Funcs).set i2.toNat f3))) r ?_ r r ?_ (by first | rfl | (simp only [OH]; rfl) | (simp only [OI]; rfl) | (simp only [OH,OI]; rfl) | simp [Aco,Ss])
 all_goals first|(simp;done)|(simp;omega)|rfl|(simp [Pv,PD];done)

end Go.Proofs.YtpagjjmondojpaaGreatDoor
