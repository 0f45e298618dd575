/-
  Programs on typed data, and the proofs that the code does what they say; written by a program (dx.py).
-/
import Derived.Test.YtpagjjmondojpaaGreatDoorProg
import Derived.Test.YtpagjjmondojpaaGreatDoorDc
import Derived.KernelRfl
import Derived.Test.YtpagjjmondojpaaGreatDoorDxP
import Derived.Test.YtpagjjmondojpaaGreatDoorDxF1
import Derived.Test.YtpagjjmondojpaaGreatDoorDxF2
namespace Go.Proofs.YtpagjjmondojpaaGreatDoor
open Go Go.Dw Go.Proofs
set_option maxRecDepth 100000
set_option maxHeartbeats 4000000
open Go.Dw renaming QV → bD,Pr → cK,AcM → bS,Acv → aP,Uz → sE,Aai → iO,Aef → cD,Afz → xL,Aby → hE,AgY → lP,AcN → sC,Aaf → bC,rf → r
def Yv (a : (List OQ) × Int × Int × Int) : List D:=[.sl (a.1.map PO),.int .i64 a.2.1,.int .i64 a.2.2.1,.int .i64 a.2.2.2]
def Yu (ds : List D) : (List OQ) × Int × Int × Int:=((uL Tp) (ds.getD 0 .top),uI (ds.getD 1 .top),uI (ds.getD 2 .top),uI (ds.getD 3 .top))
theorem AiN (a : (List OQ) × Int × Int × Int) : Yu (Yv a) = a:=by simp [Yu,Yv,uI,PD (u:=Tp) (en:=PO) AeS]
instance : Pc Yv Yu:=⟨AiN⟩
def Ajz (b : Int × Int) : D:=.tup [.int .i64 b.1,.int .i64 b.2]
noncomputable def AeO : Dw.Spec:=OH [] .ground Yv Yu (fun a=>Aau a.1 a.2.1 a.2.2.1 a.2.2.2) Ajz noE
theorem AiO : OE Tryz.prog 104 AeO:=by
 refine fn2 4 (OL (l:=[(102,VD),(129,Yw),(105,Yx),(106,AcK),(131,AdR)]) (by simp [Xd,ZY,ZZ,AeP,AhB])) Tryz.func104<|?_
 rintro ⟨used1,from2,size3,align4⟩
 unfold Aau
 refine A 6 ?_
 refine sC (E:=fun (_s : Unit) (_g : Unit)=>[(0,.sl (used1.map PO)),(1,.int .i64 from2),(2,.int .i64 size3),(3,.int .i64 align4)]) (O:=fun _ _=>[]) (j:=fun _=>Zq used1 align4 size3 from2) ?_ ?_
 ·exact B
 ·rintro ⟨⟩ ⟨⟩ nn
  try dsimp only
  unfold Zq
  refine A 7 ?_
  refine lP (E:=fun (s : Int) (_g : Unit)=>[(0,.sl (used1.map PO)),(1,.int .i64 from2),(2,.int .i64 size3),(3,.int .i64 align4),(10,.int .i64 s)]) (O:=fun _ _=>[]) (body:=fun s=>Zo used1 align4 size3 from2 s) (s:=0) () ((hE ⟨rfl,r,r,r,r,trivial⟩ trivial))<|?_
  rintro i8 ⟨⟩ nn
  try dsimp only
  unfold Zo
  refine A 9 ?_
  refine cD r ?_ ?_
  ·exact B
  ·refine A 18 ?_
   refine lP (E:=fun (s : Int × Bool × Int) (_g : Unit)=>[(0,.sl (used1.map PO)),(1,.int .i64 from2),(2,.int .i64 size3),(3,.int .i64 align4),(11,.int .i64 s.1),(12,.bool s.2.1),(13,.int .i64 s.2.2)]) (O:=fun _ _=>[]) (body:=fun s=>Zp used1 align4 size3 from2 s.1 s.2.1 s.2.2) (s:=(0,false,(-1))) () ((hE ⟨rfl,r,r,r,r,r,r,trivial⟩ trivial))<|?_
   rintro ⟨best11,found12,i13⟩ ⟨⟩ nn
   try dsimp only
   unfold Zp
   refine A 9 ?_
   refine cD r ?_ ?_
   ·refine A 10 ?_
    refine sC (E:=fun (s : Int) (_g : Unit)=>[(0,.sl (used1.map PO)),(1,.int .i64 from2),(2,.int .i64 size3),(3,.int .i64 align4),(11,.int .i64 best11),(12,.bool found12),(13,.int .i64 i13),(14,.int .i64 s)]) (O:=fun _ _=>[]) (j:=fun s=>UQ align4 size3 used1 found12 i13 best11 s) ?_ ?_
    ·exact B
    ·rintro at14 ⟨⟩ nn
     try dsimp only
     unfold UQ
     exact B
   ·exact B

def Vs (a : (List OO) × (List (List Int)) × Int) : List D:=[.sl (a.1.map OK),.sl (a.2.1.map (eL OB)),.int .i64 a.2.2]
def Vr (ds : List D) : (List OO) × (List (List Int)) × Int:=((uL YI) (ds.getD 0 .top),(uL (uL uI)) (ds.getD 1 .top),uI (ds.getD 2 .top))
theorem AfX (a : (List OO) × (List (List Int)) × Int) : Vr (Vs a) = a:=by simp [Vr,Vs,uI,PD (u:=YI) (en:=OK) Aeh,PD (u:=(uL uI)) (en:=(eL OB)) (PD (u:=uI) (en:=OB) (fun _=>rfl))]
instance : Pc Vs Vr:=⟨AfX⟩
def AgV (b : (List Int) × Int) : D:=.tup [.sl (b.1.map OB),.int .i64 b.2]
noncomputable def Acr : Dw.Spec:=OH [] .val Vs Vr (fun a=>WO a.1 a.2.1 a.2.2) AgV noE
theorem AfY : OE Tryz.prog 76 Acr:=by
 refine fn2 3 (OL (l:=[(100,Aaz),(101,Adc),(102,VD),(103,Adl),(62,VR),(104,AeO)]) (by simp [Acl,AgK,Xd,AgW,WM,AiO])) Tryz.func76<|?_
 rintro ⟨s1,g2,from3⟩
 unfold WO
 refine A 10 ?_
 refine bD fun r4 hr4=>?_
 refine A 10 ?_
 refine cD r ?_ ?_
 ·exact B
 ·refine A 2 ?_
  refine sC (E:=fun (_s : Unit) (_g : Unit)=>[(0,.sl (s1.map OK)),(1,.sl (g2.map (eL OB))),(2,.int .i64 from3)]) (O:=fun _ _=>[]) (j:=fun _=>Wu s1 g2 from3) ?_ ?_
  ·exact B
  ·rintro ⟨⟩ ⟨⟩ nn
   try dsimp only
   unfold Wu
   refine A 15 ?_
   refine bD fun r7 hr7=>?_
   refine A 11 ?_
   refine lP (E:=fun (s : (List Bool) × (List Int) × Int) (g : Nat × Nat × Nat)=>[(0,.sl (s1.map OK)),(1,.sl (g2.map (eL OB))),(2,.int .i64 from3),(9,.osl 9 g.1 0 s.2.1.length),(10,.osl 10 g.2.1 0 s.1.length),(11,.osl 11 g.2.2 0 r7.length),(12,.int .i64 s.2.2)]) (O:=fun s g=>[(9,some (g.1,⟨false,false,1,3,s.2.1.map OB⟩)),(10,some (g.2.1,⟨false,false,1,4,s.1.map D.bool⟩)),(11,some (g.2.2,⟨false,false,1,3,r7.map OB⟩))]) (body:=fun s=>Ws r7 s1 g2 from3 s.1 s.2.1 s.2.2) (s:=(List.replicate (s1.length : Int).toNat false,List.replicate (s1.length : Int).toNat (0 : Int),0)) (_,_,_) ((hE ⟨rfl,r,r,r,r,r,r,trivial⟩ ⟨rfl,r,r,trivial⟩))<|?_
   rintro ⟨done8,off9,i10⟩ ⟨v9x2,v10x2,v11x2⟩ nn
   try dsimp only
   unfold Ws
   refine A 9 ?_
   refine cD r ?_ ?_
   ·refine A 2 ?_
    refine bC (E:=fun (s : (List Bool) × (List Int)) (g : Nat × Nat × Nat)=>[(0,.sl (s1.map OK)),(1,.sl (g2.map (eL OB))),(2,.int .i64 from3),(9,.osl 9 g.1 0 s.2.length),(10,.osl 10 g.2.1 0 s.1.length),(11,.osl 11 g.2.2 0 r7.length),(12,.int .i64 i10)]) (O:=fun s g=>[(9,some (g.1,⟨false,false,1,3,s.2.map OB⟩)),(10,some (g.2.1,⟨false,false,1,4,s.1.map D.bool⟩)),(11,some (g.2.2,⟨false,false,1,3,r7.map OB⟩))]) (j:=fun s=>Wv i10 s.1 s.2) ?_ ?_
    ·refine A 5 ?_
     refine bD fun order_e13 horder_e13=>?_
     refine A 16 ?_
     refine lP (E:=fun (s : (List OQ) × Int) (g : Nat × Nat × Nat × Nat)=>[(0,.sl (s1.map OK)),(1,.sl (g2.map (eL OB))),(2,.int .i64 from3),(9,.osl 9 g.1 0 off9.length),(10,.osl 10 g.2.1 0 done8.length),(11,.osl 11 g.2.2.1 0 r7.length),(12,.int .i64 i10),(13,.int .i64 order_e13),(14,.osl 14 g.2.2.2 0 s.1.length),(15,.int .i64 s.2)]) (O:=fun s g=>[(9,some (g.1,⟨false,false,1,3,off9.map OB⟩)),(10,some (g.2.1,⟨false,false,1,4,done8.map D.bool⟩)),(11,some (g.2.2.1,⟨false,false,1,3,r7.map OB⟩)),(14,some (g.2.2.2,⟨false,false,2,157,s.1.map PO⟩))]) (body:=fun s=>Wt s1 done8 g2 order_e13 off9 from3 i10 s.1 s.2) (s:=(([] : List OQ),0)) (_,_,_,_) ((hE ⟨rfl,r,r,r,r,r,r,r,r,r,trivial⟩ ⟨rfl,r,r,r,trivial⟩))<|?_
     rintro ⟨used14,y15⟩ ⟨v9x3,v10x3,v11x3,v14x3⟩ nn
     try dsimp only
     unfold Wt
     refine A 9 ?_
     refine cD r ?_ ?_
     ·refine A 4 ?_
      refine sC (E:=fun (s : Bool) (g : Nat × Nat × Nat × Nat)=>[(0,.sl (s1.map OK)),(1,.sl (g2.map (eL OB))),(2,.int .i64 from3),(9,.osl 9 g.1 0 off9.length),(10,.osl 10 g.2.1 0 done8.length),(11,.osl 11 g.2.2.1 0 r7.length),(12,.int .i64 i10),(13,.int .i64 order_e13),(14,.osl 14 g.2.2.2 0 used14.length),(15,.int .i64 y15),(68,.bool s)]) (O:=fun _ g=>[(9,some (g.1,⟨false,false,1,3,off9.map OB⟩)),(10,some (g.2.1,⟨false,false,1,4,done8.map D.bool⟩)),(11,some (g.2.2.1,⟨false,false,1,3,r7.map OB⟩)),(14,some (g.2.2.2,⟨false,false,2,157,used14.map PO⟩))]) (j:=fun s=>SS y15 off9 s1 used14 s) ?_ ?_
      ·exact B
      ·rintro x16 ⟨v9x4,v10x4,v11x4,v14x4⟩ nn
       try dsimp only
       unfold SS
       refine cD r ?_ ?_
       ·refine A 5 ?_
        refine bD fun off_e20 hoff_e20=>?_
        refine A 3 ?_
        refine bD fun x_x21 hx_x21=>?_
        refine A 4 ?_
        refine bS ([(OQ.mk off_e20 x_x21.Size)] : List OQ) PO r r r (by simp) r r r<|?_
        exact B
       ·exact B
     ·exact B
    ·rintro ⟨done11,off12⟩ ⟨v9x5,v10x5,v11x5⟩ nn
     try dsimp only
     unfold Wv
     exact B
   ·exact B

def Tb (a : OV × Int × Oy) : List D:=[RZ a.1,.int .i64 a.2.1,PH a.2.2]
def Ta (ds : List D) : OV × Int × Oy:=(YM (ds.getD 0 .top),uI (ds.getD 1 .top),RU (ds.getD 2 .top))
theorem Afs (a : OV × Int × Oy) : Ta (Tb a) = a:=by simp [Ta,Tb,uI]
instance : Pc Tb Ta:=⟨Afs⟩
def AbF (b : OV) : D:=RZ b
noncomputable def AbG : Dw.Spec:=OH [] .val Tb Ta (fun a=>YC a.1 a.2.1 a.2.2) AbF noE
theorem Aft : OE Tryz.prog 14 AbG:=by
 refine fn2 3 (Pb) Tryz.func14<|?_
 rintro ⟨p1,i2,f3⟩
 unfold YC
 refine A 11 ?_
 refine cK fun hq=>aP (([] : List Oy)) (p1.Funcs) PH r r r r r r r (by simp) r r r (by simp) r (fun _=>r) r hq<|?_
 refine A 8 ?_
 refine cK fun hq=>iO (l:=([] : List Oy) ++ p1.Funcs) (en:=PH) r r r r r hq<|bD fun l_o4 hl_o4=>sE (l:=([] : List Oy) ++ p1.Funcs) (en:=PH) (q':=f3) r r r r r r r (by simp) hl_o4 r r r r r<|?_
 refine A 10 ?_
 refine TW (b:=(OV.mk ((([] : List Oy) ++ p1.Funcs).set i2.toNat f3))) r ?_ r r ?_ (by first | rfl | (simp only [Ow]; rfl) | (simp only [Ox]; rfl) | (simp only [Ow,Ox]; rfl) | simp [AbF,RZ])
 all_goals first|(simp;done)|(simp;omega)|rfl|(simp [Pk,Pp];done)

def Ajb (b : OV) : D:=RZ b
noncomputable def AdZ : Dw.Spec:=OH [] .val Tb Ta (fun a=>AaM a.1 a.2.1 a.2.2) Ajb noE
theorem Aib : OE Tryz.prog 79 AdZ:=by
 refine fn2 3 (OL (l:=[(14,AbG)]) (by simp [Aft])) Tryz.func79<|?_
 intro a
 unfold AaM
 exact B

def Ahv (b : Int) : D:=.int .i64 b
noncomputable def AcU : Dw.Spec:=OH [] .ground SR SQ (fun a=>Ye a) Ahv noE
theorem Agz : OE Tryz.prog 108 AcU:=by
 refine fn2 1 (OL (l:=[(100,Aaz)]) (by simp [Acl])) Tryz.func108<|?_
 intro s1
 unfold Ye
 refine A 14 ?_
 refine bD fun r2 hr2=>?_
 refine A 4 ?_
 refine cD r ?_ ?_
 ·exact B
 ·refine A 9 ?_
  refine lP (E:=fun (s : Int × Int) (_g : Unit)=>[(0,.sl (s1.map OK)),(3,.int .i64 s.1),(4,.int .i64 s.2)]) (O:=fun _ _=>[]) (body:=fun s=>Xc s1 s.1 s.2) (s:=(16,0)) () ((hE ⟨rfl,r,r,trivial⟩ trivial))<|?_
  rintro ⟨a3,i4⟩ ⟨⟩ nn
  try dsimp only
  unfold Xc
  exact B

def Wi (a : OV) : List D:=[RZ a]
def Wh (ds : List D) : OV:=YM (ds.getD 0 .top)
theorem AgE (a : OV) : Wh (Wi a) = a:=by simp [Wh,Wi]
instance : Pc Wi Wh:=⟨AgE⟩
def AhG (b : Int) : D:=.int .i64 b
noncomputable def AcX : Dw.Spec:=OH [] .ground Wi Wh (fun a=>Yg a) AhG noE
theorem AgF : OE Tryz.prog 80 AcX:=by
 refine fn2 1 (OL (l:=[(108,AcU)]) (by simp [Agz])) Tryz.func80<|?_
 intro p1
 unfold Yg
 refine A 18 ?_
 refine lP (E:=fun (s : Int × Int) (g : Nat)=>[(1,.optr 1 g 0 0),(3,.int .i64 s.1),(4,.int .i64 s.2)]) (O:=fun _ g=>[(1,some (g,⟨false,true,1,26,[.agg [.sl (p1.Funcs.map PH)]]⟩))]) (body:=fun s=>Xj p1 s.1 s.2) (s:=(16,0)) _ ((hE ⟨rfl,r,r,trivial⟩ ⟨rfl,trivial⟩))<|?_
 rintro ⟨a2,i3⟩ v1x1 nn
 try dsimp only
 unfold Xj
 exact B

def YG (a : (List OO) × (List Int)) : List D:=[.sl (a.1.map OK),.sl (a.2.map OB)]
def YF (ds : List D) : (List OO) × (List Int):=((uL YI) (ds.getD 0 .top),(uL uI) (ds.getD 1 .top))
theorem AiY (a : (List OO) × (List Int)) : YF (YG a) = a:=by simp [YF,YG,PD (u:=YI) (en:=OK) Aeh,PD (u:=uI) (en:=OB) (fun _=>rfl)]
instance : Pc YG YF:=⟨AiY⟩
def AjD (b : Int) : D:=.int .i64 b
noncomputable def AeR : Dw.Spec:=OH [] .ground YG YF (fun a=>Aaw a.1 a.2) AjD noE
theorem AiZ : OE Tryz.prog 107 AeR:=by
 refine fn2 2 (Pb) Tryz.func107<|?_
 rintro ⟨s1,off2⟩
 unfold Aaw
 refine A 17 ?_
 refine lP (E:=fun (s : Int × Int) (_g : Unit)=>[(0,.sl (s1.map OK)),(1,.sl (off2.map OB)),(5,.int .i64 s.1),(6,.int .i64 s.2)]) (O:=fun _ _=>[]) (body:=fun s=>ZC s1 off2 s.1 s.2) (s:=(0,0)) () ((hE ⟨rfl,r,r,r,trivial⟩ trivial))<|?_
 rintro ⟨n3,i4⟩ ⟨⟩ nn
 try dsimp only
 unfold ZC
 refine sC (E:=fun (_s : Unit) (_g : Unit)=>[(0,.sl (s1.map OK)),(1,.sl (off2.map OB)),(5,.int .i64 n3),(6,.int .i64 i4),(12,.int .i64 i4),(13,.sl (off2.map OB)),(14,.int .i64 (off2.length : Int)),(15,.bool (decide (i4 < (off2.length : Int))))]) (O:=fun _ _=>[]) (j:=fun _=>ZD off2 i4 s1 n3) ?_ ?_
 ·exact B
 ·rintro ⟨⟩ ⟨⟩ nn
  try dsimp only
  unfold ZD
  exact B

def Vw (a : OV × Int × Int × (List Int)) : List D:=[RZ a.1,.int .i64 a.2.1,.int .i64 a.2.2.1,.sl (a.2.2.2.map OB)]
def Vv (ds : List D) : OV × Int × Int × (List Int):=(YM (ds.getD 0 .top),uI (ds.getD 1 .top),uI (ds.getD 2 .top),(uL uI) (ds.getD 3 .top))
theorem Agb (a : OV × Int × Int × (List Int)) : Vv (Vw a) = a:=by simp [Vv,Vw,uI,PD (u:=uI) (en:=OB) (fun _=>rfl)]
instance : Pc Vw Vv:=⟨Agb⟩
def Tw (b : Qu × Int) : D:=.tup [YV b.1,.int .i64 b.2]
noncomputable def Acu : Dw.Spec:=OH [] .val Vw Vv (fun a=>WR a.1 a.2.1 a.2.2.1 a.2.2.2) Tw noE
theorem Agc : OE Tryz.prog 78 Acu:=by
 refine fn2 4 (OL (l:=[(105,Yx),(77,Abj),(107,AeR),(106,AcK)]) (by simp [ZZ,Adm,AiZ,AeP])) Tryz.func78<|?_
 rintro ⟨p1,i2,align3,off4⟩
 unfold WR
 refine A 12 ?_
 refine bD fun x_x5 hx_x5=>?_
 refine A 16 ?_
 refine cD r ?_ ?_
 ·refine A 9 ?_
  refine Uy (b:=((Qu.mk 0 0 ([])),13)) r ?_ r r ?_ (by first | rfl | (simp only [Ow]; rfl) | (simp only [Ox]; rfl) | (simp only [Ow,Ox]; rfl) | simp [Tw,YV]) (by decide)
  all_goals first|(simp;done)|(simp;omega)|rfl|(simp [Pk,Pp];done)
 ·refine A 9 ?_
  refine lP (E:=fun (s : Int) (g : Nat × Nat)=>[(1,.int .i64 i2),(2,.int .i64 align3),(3,.sl (off4.map OB)),(4,.optr 4 g.1 0 0),(8,.optr 8 g.2 0 0),(10,.sl (x_x5.Slots.map OK)),(11,.int .i64 s)]) (O:=fun _ g=>[(4,some (g.1,⟨false,true,1,26,[.agg [.sl (p1.Funcs.map PH)]]⟩)),(8,some (g.2,⟨false,true,3,95,[.agg [.int .i64 0,.int .i64 0,.nils]]⟩))]) (body:=fun s=>Ww x_x5 off4 p1 i2 align3 s) (s:=0) (_,_) ((hE ⟨rfl,r,r,r,r,r,r,trivial⟩ ⟨rfl,r,trivial⟩))<|?_
  rintro k6 ⟨v4x1,v8x1⟩ nn
  try dsimp only
  unfold Ww
  refine A 9 ?_
  refine cD r ?_ ?_
  ·refine A 8 ?_
   refine bD fun x_x7 hx_x7=>?_
   refine A 4 ?_
   refine bD fun x_x8 hx_x8=>?_
   refine A 4 ?_
   refine bD fun r9 hr9=>?_
   refine A 4 ?_
   refine cD r ?_ ?_
   ·refine A 13 ?_
    refine Uy (b:=((Qu.mk 0 0 ([])),13)) r ?_ r r ?_ (by first | rfl | (simp only [Ow]; rfl) | (simp only [Ox]; rfl) | (simp only [Ow,Ox]; rfl) | simp [Tw,YV]) (by decide)
    all_goals first|(simp;done)|(simp;omega)|rfl|(simp [Pk,Pp];done)
   ·exact B
  ·refine A 9 ?_
   refine bD fun r10 hr10=>?_
   refine A 9 ?_
   refine bD fun r11 hr11=>?_
   refine A 3 ?_
   refine bD fun r12 hr12=>?_
   refine A 14 ?_
   refine AaQ r ?_ ?_
   ·refine A 15 ?_
    refine Uy (b:=((Qu.mk 0 0 ([])),9)) r ?_ r r ?_ (by first | rfl | (simp only [Ow]; rfl) | (simp only [Ox]; rfl) | (simp only [Ow,Ox]; rfl) | simp [Tw,YV]) (by decide)
    all_goals first|(simp;done)|(simp;omega)|rfl|(simp [Pk,Pp];done)
   ·refine A 5 ?_
    refine cD r ?_ ?_
    ·refine A 9 ?_
     refine Uy (b:=((Qu.mk 0 0 ([])),9)) r ?_ r r ?_ (by first | rfl | (simp only [Ow]; rfl) | (simp only [Ox]; rfl) | (simp only [Ow,Ox]; rfl) | simp [Tw,YV]) (by decide)
     all_goals first|(simp;done)|(simp;omega)|rfl|(simp [Pk,Pp];done)
    ·refine A 7 ?_
     refine cK fun hq=>aP (([] : List Int)) (off4) OB r r r r r r r (by simp) r r r (by simp) r (fun _=>r) r hq<|?_
     refine A 6 ?_
     refine Uy (b:=((Qu.mk r10 r12.1 (([] : List Int) ++ off4)),0)) r ?_ r r ?_ (by first | rfl | (simp only [Ow]; rfl) | (simp only [Ox]; rfl) | (simp only [Ow,Ox]; rfl) | simp [Tw,YV]) (by decide)
     all_goals first|(simp;done)|(simp;omega)|rfl|(simp [Pk,Pp];done)

def ZE (b : Sx) : D:=Aan b
noncomputable def AbI : Dw.Spec:=OH [] .val UZ UY (fun a=>VK a.1 a.2) ZE noE
theorem Afw : OE Tryz.prog 45 AbI:=by
 refine fn2 2 (OL (l:=[(9,VH),(72,Ade),(73,AbE),(74,AdW),(13,Adj),(75,Aco),(77,Abj),(76,Acr),(79,AdZ),(80,AcX),(78,Acu)]) (by simp [Xo,AgL,Afr,AhV,AgS,AfR,Adm,AfY,Aib,AgF,Agc])) Tryz.func45<|?_
 rintro ⟨p1,i2⟩
 unfold VK
 refine A 11 ?_
 refine bD fun x_x3 hx_x3=>?_
 refine A 9 ?_
 refine bD fun r4 hr4=>?_
 refine A 11 ?_
 refine bD fun r5 hr5=>?_
 refine A 12 ?_
 refine bD fun r6 hr6=>?_
 refine A 14 ?_
 refine bD fun r7 hr7=>?_
 refine A 11 ?_
 refine bD fun r8 hr8=>?_
 refine A 12 ?_
 refine bD fun r9 hr9=>?_
 refine A 10 ?_
 refine bD fun r10 hr10=>?_
 refine A 15 ?_
 refine bD fun r11 hr11=>?_
 refine A 1 ?_
 refine bD fun r12 hr12=>?_
 refine A 15 ?_
 refine cD r ?_ ?_
 ·refine A 8 ?_
  refine TW (b:=(Sx.mk r4 (OJ.mk r6 r7) r9 (Qu.mk 0 0 ([])))) r ?_ r r ?_ (by first | rfl | (simp only [Ow]; rfl) | (simp only [Ox]; rfl) | (simp only [Ow,Ox]; rfl) | simp [ZE,Aan])
  all_goals first|(simp;done)|(simp;omega)|rfl|(simp [Pk,Pp];done)
 ·refine A 7 ?_
  refine bD fun r13 hr13=>?_
  refine A 3 ?_
  refine bD fun r14 hr14=>?_
  refine A 2 ?_
  refine bD fun r15 hr15=>?_
  refine A 15 ?_
  refine TW (b:=(Sx.mk r4 (OJ.mk r6 r7) r9 r15.1)) r ?_ r r ?_ (by first | rfl | (simp only [Ow]; rfl) | (simp only [Ox]; rfl) | (simp only [Ow,Ox]; rfl) | simp [ZE,Aan])
  all_goals first|(simp;done)|(simp;omega)|rfl|(simp [Pk,Pp];done)

def SK (a : Mk × OV × Int) : List D:=[Pa a.1,RZ a.2.1,.int .i64 a.2.2]
def SJ (ds : List D) : Mk × OV × Int:=(RB (ds.getD 0 .top),YM (ds.getD 1 .top),uI (ds.getD 2 .top))
theorem AcH (a : Mk × OV × Int) : SJ (SK a) = a:=by simp [SJ,SK,uI]
instance : Pc SK SJ:=⟨AcH⟩
def ZL (b : OJ × Mk) : D:=TP b.1
def Adq (b : OJ × Mk) : List D:=[Pa b.2]
noncomputable def ZM : Dw.Spec:=OH [(0,(2,91))] .val SK SJ (fun a=>SX a.1 a.2.1 a.2.2) ZL Adq
theorem AcI : OE Tryz.prog 24 ZM:=by
 refine fn2 3 (OL (l:=[(45,AbI),(21,Pn),(46,XV),(44,YK)]) (by simp [Afw,Po,Aam,AaD])) Tryz.func24<|?_
 rintro ⟨c1,p2,i3⟩
 unfold SX
 refine A 11 ?_
 refine bD fun x_x4 hx_x4=>?_
 refine A 10 ?_
 refine bD fun r5 hr5=>?_
 refine A 10 ?_
 refine cK fun hq=>aP (([] : List Int)) (r5.Rename.To) OB r r r r r r r (by simp) r r r (by simp) r (fun _=>r) r hq<|?_
 refine A 2 ?_
 refine cK fun hq=>aP (([] : List Bool)) (r5.Rename.Keep) D.bool r r r r r r r (by simp) r r r (by simp) r (fun _=>r) r hq<|?_
 refine A 5 ?_
 refine sC (E:=fun (_s : (List Int) × Int × (List Int) × (List Bool)) (g : Nat × Nat × Nat × Nat × Nat)=>[(0,.optr 8192 0 0 0),(6,.optr 6 g.1 0 0),(7,.optr 7 g.2.1 0 0),(9,.optr 9 g.2.2.1 0 0)]) (O:=fun s g=>[(6,some (g.1,⟨false,true,2,33,[.agg [.nils,.nils]]⟩)),(7,some (g.2.1,⟨false,true,3,40,[.agg [.int .i64 x_x4.Params,.sl (x_x4.Slots.map OK),.sl (x_x4.Code.map OI)]]⟩)),(9,some (g.2.2.1,⟨false,true,2,33,[.agg [.osl 29 g.2.2.2.1 0 s.2.2.1.length,.osl 32 g.2.2.2.2 0 s.2.2.2.length]]⟩)),(29,some (g.2.2.2.1,⟨false,false,1,3,s.2.2.1.map OB⟩)),(32,some (g.2.2.2.2,⟨false,false,1,4,s.2.2.2.map D.bool⟩)),(8192,some (0,⟨false,true,2,91,[.agg [.sl (s.1.map eU8),.int .i64 s.2.1]]⟩))]) (j:=fun s=>QL x_x4 s.1 s.2.1 s.2.2.1 s.2.2.2) ?_ ?_
 ·refine A 3 ?_
  refine bD fun r10 hr10=>?_
  refine A 4 ?_
  refine cD r ?_ ?_
  ·refine A 7 ?_
   refine lP (E:=fun (s : (List Int) × Int) (g : Nat × Nat × Nat × Nat × Nat)=>[(0,.optr 8192 0 0 0),(6,.optr 6 g.1 0 0),(7,.optr 7 g.2.1 0 0),(9,.optr 9 g.2.2.1 0 0),(10,.int .i64 s.2)]) (O:=fun s g=>[(6,some (g.1,⟨false,true,2,33,[.agg [.nils,.nils]]⟩)),(7,some (g.2.1,⟨false,true,3,40,[.agg [.int .i64 x_x4.Params,.sl (x_x4.Slots.map OK),.sl (x_x4.Code.map OI)]]⟩)),(9,some (g.2.2.1,⟨false,true,2,33,[.agg [.osl 29 g.2.2.2.1 0 s.1.length,.osl 32 g.2.2.2.2 0 ((([] : List Bool) ++ r5.Rename.Keep).length)]]⟩)),(29,some (g.2.2.2.1,⟨false,false,1,3,s.1.map OB⟩)),(32,some (g.2.2.2.2,⟨false,false,1,4,(([] : List Bool) ++ r5.Rename.Keep).map D.bool⟩)),(8192,some (0,⟨false,true,2,91,[.agg [.sl (r10.2.list.map eU8),.int .i64 r10.2.at_]]⟩))]) (body:=fun s=>Te x_x4 r10 r5 s.1 s.2) (s:=(([] : List Int) ++ r5.Rename.To,0)) (_,_,_,_,_) ((hE ⟨rfl,r,r,r,r,trivial⟩ ⟨rfl,r,r,r,r,r,trivial⟩))<|?_
   rintro ⟨x11,s12⟩ ⟨v6x1,v7x1,v9x1,v29x1,v32x1⟩ nn
   try dsimp only
   unfold Te
   refine A 10 ?_
   refine cD r ?_ ?_
   ·refine A 10 ?_
    refine bD fun x_o13 hx_o13=>?_
    refine A 9 ?_
    exact xL (s:=(x11.set s12.toNat s12,IntKind.i64.wrap (s12 + 1))) (_,_,_,_,_) ((hE ⟨rfl,r,r,r,r,trivial⟩ ⟨rfl,r,(Eq.trans (b:=some (_,⟨false,true,2,33,[.agg [.osl 29 _ 0 x11.length,.osl 32 _ 0 ((([] : List Bool) ++ r5.Rename.Keep).length)]]⟩)) r (by simp)),r,r,r,trivial⟩))
   ·refine A 11 ?_
    refine lP (E:=fun (s : (List Bool) × Int) (g : Nat × Nat × Nat × Nat × Nat)=>[(0,.optr 8192 0 0 0),(6,.optr 6 g.1 0 0),(7,.optr 7 g.2.1 0 0),(9,.optr 9 g.2.2.1 0 0),(11,.int .i64 s.2)]) (O:=fun s g=>[(6,some (g.1,⟨false,true,2,33,[.agg [.nils,.nils]]⟩)),(7,some (g.2.1,⟨false,true,3,40,[.agg [.int .i64 x_x4.Params,.sl (x_x4.Slots.map OK),.sl (x_x4.Code.map OI)]]⟩)),(9,some (g.2.2.1,⟨false,true,2,33,[.agg [.osl 29 g.2.2.2.1 0 x11.length,.osl 32 g.2.2.2.2 0 s.1.length]]⟩)),(29,some (g.2.2.2.1,⟨false,false,1,3,x11.map OB⟩)),(32,some (g.2.2.2.2,⟨false,false,1,4,s.1.map D.bool⟩)),(8192,some (0,⟨false,true,2,91,[.agg [.sl (r10.2.list.map eU8),.int .i64 r10.2.at_]]⟩))]) (body:=fun s=>Tf x_x4 r10 x11 s.1 s.2) (s:=(([] : List Bool) ++ r5.Rename.Keep,0)) (_,_,_,_,_) ((hE ⟨rfl,r,r,r,r,trivial⟩ ⟨rfl,r,r,r,r,r,trivial⟩))<|?_
    rintro ⟨x14,k15⟩ ⟨v6x2,v7x2,v9x2,v29x2,v32x2⟩ nn
    try dsimp only
    unfold Tf
    refine A 10 ?_
    refine cD r ?_ ?_
    ·refine A 9 ?_
     refine bD fun x_o16 hx_o16=>?_
     refine A 9 ?_
     exact xL (s:=(x14.set k15.toNat true,IntKind.i64.wrap (k15 + 1))) (_,_,_,_,_) ((hE ⟨rfl,r,r,r,r,trivial⟩ ⟨rfl,r,(Eq.trans (b:=some (_,⟨false,true,2,33,[.agg [.osl 29 _ 0 x11.length,.osl 32 _ 0 x14.length]]⟩)) r (by simp)),r,r,r,trivial⟩))
    ·exact B
  ·exact B
 ·rintro ⟨c6,c7,x8,x9⟩ ⟨v6x3,v7x3,v9x3,v29x3,v32x3⟩ nn
  try dsimp only
  unfold QL
  refine A 4 ?_
  refine bD fun r17 hr17=>?_
  refine A 5 ?_
  refine lP (E:=fun (s : (List Int) × Int × (List Int) × (List Bool) × Int) (g : Nat × Nat × Nat × Nat × Nat)=>[(0,.optr 8192 0 0 0),(6,.optr 6 g.1 0 0),(7,.optr 7 g.2.1 0 0),(9,.optr 9 g.2.2.1 0 0),(12,.int .i64 s.2.2.2.2)]) (O:=fun s g=>[(6,some (g.1,⟨false,true,2,33,[.agg [.nils,.nils]]⟩)),(7,some (g.2.1,⟨false,true,3,40,[.agg [.int .i64 x_x4.Params,.sl (x_x4.Slots.map OK),.sl (x_x4.Code.map OI)]]⟩)),(9,some (g.2.2.1,⟨false,true,2,33,[.agg [.osl 29 g.2.2.2.1 0 s.2.2.1.length,.osl 32 g.2.2.2.2 0 s.2.2.2.1.length]]⟩)),(29,some (g.2.2.2.1,⟨false,false,1,3,s.2.2.1.map OB⟩)),(32,some (g.2.2.2.2,⟨false,false,1,4,s.2.2.2.1.map D.bool⟩)),(8192,some (0,⟨false,true,2,91,[.agg [.sl (s.1.map eU8),.int .i64 s.2.1]]⟩))]) (body:=fun s=>Tg x_x4 s.1 s.2.1 s.2.2.1 s.2.2.2.1 s.2.2.2.2) (s:=(r17.2.list,r17.2.at_,x8,x9,r17.1)) (_,_,_,_,_) ((hE ⟨rfl,r,r,r,r,trivial⟩ ⟨rfl,r,r,r,r,r,trivial⟩))<|?_
  rintro ⟨c18,c19,x20,x21,n22⟩ ⟨v6x4,v7x4,v9x4,v29x4,v32x4⟩ nn
  try dsimp only
  unfold Tg
  refine A 7 ?_
  refine cD r ?_ ?_
  ·refine A 2 ?_
   refine bC (E:=fun (_s : (List Int) × Int × (List Int) × (List Bool)) (g : Nat × Nat × Nat × Nat × Nat)=>[(0,.optr 8192 0 0 0),(6,.optr 6 g.1 0 0),(7,.optr 7 g.2.1 0 0),(9,.optr 9 g.2.2.1 0 0),(12,.int .i64 n22)]) (O:=fun s g=>[(6,some (g.1,⟨false,true,2,33,[.agg [.nils,.nils]]⟩)),(7,some (g.2.1,⟨false,true,3,40,[.agg [.int .i64 x_x4.Params,.sl (x_x4.Slots.map OK),.sl (x_x4.Code.map OI)]]⟩)),(9,some (g.2.2.1,⟨false,true,2,33,[.agg [.osl 29 g.2.2.2.1 0 s.2.2.1.length,.osl 32 g.2.2.2.2 0 s.2.2.2.length]]⟩)),(29,some (g.2.2.2.1,⟨false,false,1,3,s.2.2.1.map OB⟩)),(32,some (g.2.2.2.2,⟨false,false,1,4,s.2.2.2.map D.bool⟩)),(8192,some (0,⟨false,true,2,91,[.agg [.sl (s.1.map eU8),.int .i64 s.2.1]]⟩))]) (j:=fun s=>Pm n22 s.1 s.2.1 s.2.2.1 s.2.2.2) ?_ ?_
   ·refine A 6 ?_
    refine bD fun r27 hr27=>?_
    refine A 7 ?_
    refine bD fun r28 hr28=>?_
    refine A 4 ?_
    refine sC (E:=fun (s : Bool) (g : Nat × Nat × Nat × Nat × Nat)=>[(0,.optr 8192 0 0 0),(6,.optr 6 g.1 0 0),(7,.optr 7 g.2.1 0 0),(9,.optr 9 g.2.2.1 0 0),(12,.int .i64 n22),(13,.int .i64 r27.1),(72,.int .i64 r28.1),(73,.bool s)]) (O:=fun _ g=>[(6,some (g.1,⟨false,true,2,33,[.agg [.nils,.nils]]⟩)),(7,some (g.2.1,⟨false,true,3,40,[.agg [.int .i64 x_x4.Params,.sl (x_x4.Slots.map OK),.sl (x_x4.Code.map OI)]]⟩)),(9,some (g.2.2.1,⟨false,true,2,33,[.agg [.osl 29 g.2.2.2.1 0 x20.length,.osl 32 g.2.2.2.2 0 x21.length]]⟩)),(29,some (g.2.2.2.1,⟨false,false,1,3,x20.map OB⟩)),(32,some (g.2.2.2.2,⟨false,false,1,4,x21.map D.bool⟩)),(8192,some (0,⟨false,true,2,91,[.agg [.sl (r28.2.list.map eU8),.int .i64 r28.2.at_]]⟩))]) (j:=fun s=>QM x_x4 r27 x21 n22 x20 r28 s) ?_ ?_
    ·exact B
    ·rintro x29 ⟨v6x5,v7x5,v9x5,v29x5,v32x5⟩ nn
     try dsimp only
     unfold QM
     refine cD r ?_ ?_
     ·refine A 5 ?_
      refine bD fun x_x30 hx_x30=>?_
      refine A 6 ?_
      refine sC (E:=fun (s : (List Int) × Int × Bool) (g : Nat × Nat × Nat × Nat × Nat)=>[(0,.optr 8192 0 0 0),(6,.optr 6 g.1 0 0),(7,.optr 7 g.2.1 0 0),(9,.optr 9 g.2.2.1 0 0),(12,.int .i64 n22),(13,.int .i64 r27.1),(92,.bool s.2.2)]) (O:=fun s g=>[(6,some (g.1,⟨false,true,2,33,[.agg [.nils,.nils]]⟩)),(7,some (g.2.1,⟨false,true,3,40,[.agg [.int .i64 x_x4.Params,.sl (x_x4.Slots.map OK),.sl (x_x4.Code.map OI)]]⟩)),(9,some (g.2.2.1,⟨false,true,2,33,[.agg [.osl 29 g.2.2.2.1 0 x20.length,.osl 32 g.2.2.2.2 0 x21.length]]⟩)),(29,some (g.2.2.2.1,⟨false,false,1,3,x20.map OB⟩)),(32,some (g.2.2.2.2,⟨false,false,1,4,x21.map D.bool⟩)),(8192,some (0,⟨false,true,2,91,[.agg [.sl (s.1.map eU8),.int .i64 s.2.1]]⟩))]) (j:=fun s=>Qd r27 x21 n22 x20 s.1 s.2.1 s.2.2) ?_ ?_
      ·exact B
      ·rintro ⟨c31,c32,x33⟩ ⟨v6x6,v7x6,v9x6,v29x6,v32x6⟩ nn
       try dsimp only
       unfold Qd
       refine cD r ?_ ?_
       ·refine A 8 ?_
        refine bD fun x_e35 hx_e35=>?_
        refine A 3 ?_
        refine bD fun x_o36 hx_o36=>?_
        refine A 3 ?_
        exact Ut (s:=(c31,c32,x20,x21.set r27.1.toNat (!x_e35))) (_,_,_,_,_) ((hE ⟨rfl,r,r,r,r,trivial⟩ ⟨rfl,r,(Eq.trans (b:=some (_,⟨false,true,2,33,[.agg [.osl 29 _ 0 x20.length,.osl 32 _ 0 x21.length]]⟩)) r (by simp)),r,r,r,trivial⟩))
       ·exact B
     ·refine A 6 ?_
      refine cD r ?_ ?_
      ·refine A 8 ?_
       refine cD r ?_ ?_
       ·refine A 6 ?_
        refine bD fun r37 hr37=>?_
        refine A 11 ?_
        refine bD fun r38 hr38=>?_
        refine A 2 ?_
        refine bD fun x_e39 hx_e39=>?_
        refine A 10 ?_
        refine lP (E:=fun (s : (List Int) × Int) (g : Nat × Nat × Nat × Nat × Nat)=>[(0,.optr 8192 0 0 0),(6,.optr 6 g.1 0 0),(7,.optr 7 g.2.1 0 0),(9,.optr 9 g.2.2.1 0 0),(12,.int .i64 n22),(15,.int .i64 r37.1),(16,.int .i64 x_e39),(17,.int .i64 s.2)]) (O:=fun s g=>[(6,some (g.1,⟨false,true,2,33,[.agg [.nils,.nils]]⟩)),(7,some (g.2.1,⟨false,true,3,40,[.agg [.int .i64 x_x4.Params,.sl (x_x4.Slots.map OK),.sl (x_x4.Code.map OI)]]⟩)),(9,some (g.2.2.1,⟨false,true,2,33,[.agg [.osl 29 g.2.2.2.1 0 s.1.length,.osl 32 g.2.2.2.2 0 x21.length]]⟩)),(29,some (g.2.2.2.1,⟨false,false,1,3,s.1.map OB⟩)),(32,some (g.2.2.2.2,⟨false,false,1,4,x21.map D.bool⟩)),(8192,some (0,⟨false,true,2,91,[.agg [.sl (r38.2.list.map eU8),.int .i64 r38.2.at_]]⟩))]) (body:=fun s=>Th r37 x_e39 n22 r38 x21 s.1 s.2) (s:=(x20,0)) (_,_,_,_,_) ((hE ⟨rfl,r,r,r,r,r,r,r,trivial⟩ ⟨rfl,r,r,r,r,r,trivial⟩))<|?_
        rintro ⟨x40,u41⟩ ⟨v6x7,v7x7,v9x7,v29x7,v32x7⟩ nn
        try dsimp only
        unfold Th
        refine A 10 ?_
        refine cD r ?_ ?_
        ·refine A 10 ?_
         refine bD fun x_e42 hx_e42=>?_
         refine A 5 ?_
         refine cD r ?_ ?_
         ·refine A 6 ?_
          refine bD fun x_o43 hx_o43=>?_
          refine A 9 ?_
          exact xL (s:=(x40.set u41.toNat x_e39,IntKind.i64.wrap (u41 + 1))) (_,_,_,_,_) ((hE ⟨rfl,r,r,r,r,r,r,r,trivial⟩ ⟨rfl,r,(Eq.trans (b:=some (_,⟨false,true,2,33,[.agg [.osl 29 _ 0 x40.length,.osl 32 _ 0 x21.length]]⟩)) r (by simp)),r,r,r,trivial⟩))
         ·exact B
        ·exact B
       ·exact B
      ·refine A 6 ?_
       refine cD r ?_ ?_
       ·refine sC (E:=fun (s : (List Int) × Int × Bool) (g : Nat × Nat × Nat × Nat × Nat)=>[(0,.optr 8192 0 0 0),(6,.optr 6 g.1 0 0),(7,.optr 7 g.2.1 0 0),(9,.optr 9 g.2.2.1 0 0),(12,.int .i64 n22),(151,.bool s.2.2)]) (O:=fun s g=>[(6,some (g.1,⟨false,true,2,33,[.agg [.nils,.nils]]⟩)),(7,some (g.2.1,⟨false,true,3,40,[.agg [.int .i64 x_x4.Params,.sl (x_x4.Slots.map OK),.sl (x_x4.Code.map OI)]]⟩)),(9,some (g.2.2.1,⟨false,true,2,33,[.agg [.osl 29 g.2.2.2.1 0 x20.length,.osl 32 g.2.2.2.2 0 x21.length]]⟩)),(29,some (g.2.2.2.1,⟨false,false,1,3,x20.map OB⟩)),(32,some (g.2.2.2.2,⟨false,false,1,4,x21.map D.bool⟩)),(8192,some (0,⟨false,true,2,91,[.agg [.sl (s.1.map eU8),.int .i64 s.2.1]]⟩))]) (j:=fun s=>QN x_x4 x20 n22 x21 s.1 s.2.1 s.2.2) ?_ ?_
        ·exact B
        ·rintro ⟨c44,c45,x46⟩ ⟨v6x8,v7x8,v9x8,v29x8,v32x8⟩ nn
         try dsimp only
         unfold QN
         refine cD r ?_ ?_
         ·refine A 7 ?_
          refine bD fun r48 hr48=>?_
          refine A 2 ?_
          refine bD fun r49 hr49=>?_
          refine A 2 ?_
          refine bD fun x_o50 hx_o50=>?_
          refine A 3 ?_
          exact Ut (s:=(r49.2.list,r49.2.at_,x20.set r48.1.toNat r49.1,x21)) (_,_,_,_,_) ((hE ⟨rfl,r,r,r,r,trivial⟩ ⟨rfl,r,(Eq.trans (b:=some (_,⟨false,true,2,33,[.agg [.osl 29 _ 0 x20.length,.osl 32 _ 0 x21.length]]⟩)) r (by simp)),r,r,r,trivial⟩))
         ·exact B
       ·exact B
   ·rintro ⟨c23,c24,x25,x26⟩ ⟨v6x9,v7x9,v9x9,v29x9,v32x9⟩ nn
    try dsimp only
    unfold Pm
    exact B
  ·refine A 12 ?_
   refine TW (b:=((OJ.mk x20 x21),(Mk.mk c18 c19))) r ?_ r r ?_ (by first | rfl | (simp only [Ow]; rfl) | (simp only [Ox]; rfl) | (simp only [Ow,Ox]; rfl) | simp [ZL,TP])
   all_goals first|(simp;done)|(simp;omega)|rfl|(simp [Pk,Pp];done)

def We (a : (List Int)) : List D:=[.sl (a.map eU8)]
def Wd (ds : List D) : (List Int):=(uL uI) (ds.getD 0 .top)
theorem Acj (a : (List Int)) : Wd (We a) = a:=by simp [Wd,We,PD (u:=uI) (en:=eU8) (fun _=>rfl)]
instance : Pc We Wd:=⟨Acj⟩
def Ahs (b : OV × Int × OG × OJ × Mk) : D:=.tup [RZ b.1,.int .i64 b.2.1,Qe b.2.2.1,TP b.2.2.2.1,Pa b.2.2.2.2]
noncomputable def AcT : Dw.Spec:=OH [] (.tupPtr 4 2 91) We Wd (fun a=>Yd a) Ahs noE
theorem Agv : OE Tryz.prog 7 AcT:=by
 refine fn2 1 (OL (l:=[(19,AfJ),(20,Zj),(21,Pn),(22,Aaj),(23,AaF),(24,ZM)]) (by simp [Ajt,Ach,Po,Adp,Ady,AcI])) Tryz.func7<|?_
 intro codes1
 unfold Yd
 refine A 12 ?_
 refine bD fun r2 hr2=>?_
 refine A 7 ?_
 refine bD fun r3 hr3=>?_
 refine A 11 ?_
 refine bD fun r4 hr4=>?_
 refine A 10 ?_
 refine bD fun x_x5 hx_x5=>?_
 refine A 2 ?_
 refine bD fun r6 hr6=>?_
 refine A 5 ?_
 refine sC (E:=fun (_s : (List (List Int)) × (List Int) × Int) (g : Nat × Nat × Nat × Nat × Nat × Nat)=>[(2,.optr 2 g.1 0 0),(4,.optr 4 g.2.1 0 0),(5,.optr 5 g.2.2.1 0 0),(7,.optr 12 g.2.2.2.2.2 0 0),(8,.optr 8 g.2.2.2.1 0 0),(9,.int .i64 r4.1),(10,.optr 10 g.2.2.2.2.1 0 0)]) (O:=fun s g=>[(2,some (g.1,⟨false,true,1,26,[.agg [.nils]]⟩)),(4,some (g.2.1,⟨false,true,1,29,[.agg [.nils]]⟩)),(5,some (g.2.2.1,⟨false,true,2,33,[.agg [.nils,.nils]]⟩)),(8,some (g.2.2.2.1,⟨false,true,1,26,[.agg [.sl (r3.1.Funcs.map PH)]]⟩)),(10,some (g.2.2.2.2.1,⟨false,true,1,29,[.agg [.sl (s.1.map (eL OB))]]⟩)),(12,some (g.2.2.2.2.2,⟨false,true,2,91,[.agg [.sl (s.2.1.map eU8),.int .i64 s.2.2]]⟩))]) (j:=fun s=>Tq r3 r4 s.1 s.2.1 s.2.2) ?_ ?_
 ·exact B
 ·rintro ⟨l7,x8,x9⟩ ⟨v2x1,v4x1,v5x1,v8x1,v10x1,v12x1⟩ nn
  try dsimp only
  unfold Tq
  exact B

def PT (a : (List Int)) : List D:=[.sl (a.map eU8)]
def PS (ds : List D) : (List Int):=(uL uI) (ds.getD 0 .top)
theorem SO (a : (List Int)) : PS (PT a) = a:=by simp [PS,PT,PD (u:=uI) (en:=eU8) (fun _=>rfl)]
instance : Pc PT PS:=⟨SO⟩
def XY (b : Bool) : D:=.bool b
noncomputable def XZ : Dw.Spec:=OH [] .ground PT PS (fun a=>PI a) XY noE
theorem WY : OE Tryz.prog 3 XZ:=by
 refine fn2 1 (OL (l:=[(6,AcS),(7,AcT),(8,YN),(9,VH)]) (by simp [Agu,Agv,AaJ,Xo])) Tryz.func3<|?_
 intro codes1
 unfold PI
 refine A 8 ?_
 refine bD fun r2 hr2=>?_
 refine A 4 ?_
 refine cD r ?_ ?_
 ·exact B
 ·refine A 5 ?_
  refine bD fun r3 hr3=>Agg (rs:=[RZ r3.1,.int .i64 r3.2.1,Qe r3.2.2.1,TP r3.2.2.2.1,Pa r3.2.2.2.2]) (z:=Pa r3.2.2.2.2) codes1 r r r Acj r r (by simp) r hr3 r r<|?_
  exact B

end Go.Proofs.YtpagjjmondojpaaGreatDoor
