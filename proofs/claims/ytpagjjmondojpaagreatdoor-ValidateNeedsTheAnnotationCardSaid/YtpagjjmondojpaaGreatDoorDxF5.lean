/-
  Programs on typed data, and the proofs that the code does what they say; written by a program (dx.py).
-/
import Derived.Test.YtpagjjmondojpaaGreatDoorProg
import Derived.Test.YtpagjjmondojpaaGreatDoorDd
import Derived.KernelRfl
import Derived.Test.YtpagjjmondojpaaGreatDoorDxP
import Derived.Test.YtpagjjmondojpaaGreatDoorDxF2
import Derived.Test.YtpagjjmondojpaaGreatDoorDxF3
import Derived.Test.YtpagjjmondojpaaGreatDoorDxF4
namespace Go.Proofs.YtpagjjmondojpaaGreatDoor
open Go Go.Dw Go.Proofs
set_option maxRecDepth 100000
set_option maxHeartbeats 4000000
open Go.Dw renaming QP → bD,PM → cK,Abk → aP,Abl → cD,Adh → xL,Zm → hE,AcO → lP,Aaa → sC,Yh → bC,rf → r
def Ajq (b : Pt) : D:=Ss b
noncomputable def Aes : Dw.Spec:=Pe [] .val Tu Tt (fun a=>Abe a.1 a.2.1 a.2.2) Ajq noE
theorem Aiq : Pd Tryz.prog 79 Aes:=by
 refine fn2 3 (Pk (l:=[(14,AbZ)]) (by simp [AfL])) Tryz.func79<|?_
 intro a
 unfold Abe
 exact B

def AhK (b : Int) : D:=.int .i64 b
noncomputable def Ado : Dw.Spec:=Pe [] .ground Tj Ti (fun a=>Yv a) AhK noE
theorem AgP : Pd Tryz.prog 108 Ado:=by
 refine fn2 1 (Pk (l:=[(100,AaR)]) (by simp [AcF])) Tryz.func108<|?_
 intro s1
 unfold Yv
 refine A 14 ?_
 refine bD fun r2 hr2=>?_
 refine A 4 ?_
 refine cD r ?_ ?_
 ·exact B
 ·refine A 9 ?_
  refine lP (E:=fun (s : Int × Int) (_g : Unit)=>[(0,.sl (s1.map Ph)),(3,.int .i64 s.1),(4,.int .i64 s.2)]) (O:=fun _ _=>[]) (body:=fun s=>Xr s1 s.1 s.2) (s:=(16,0)) () ((hE ⟨rfl,r,r,trivial⟩ trivial))<|?_
  rintro ⟨a3,i4⟩ ⟨⟩ nn
  try dsimp only
  unfold Xr
  exact B

def Wz (a : Pt) : List D:=[Ss a]
def Wy (ds : List D) : Pt:=Zc (ds.getD 0 .top)
theorem AgU (a : Pt) : Wy (Wz a) = a:=by simp [Wy,Wz]
instance : PA Wz Wy:=⟨AgU⟩
def AhV (b : Int) : D:=.int .i64 b
noncomputable def Adr : Dw.Spec:=Pe [] .ground Wz Wy (fun a=>Yx a) AhV noE
theorem AgV : Pd Tryz.prog 80 Adr:=by
 refine fn2 1 (Pk (l:=[(108,Ado)]) (by simp [AgP])) Tryz.func80<|?_
 intro p1
 unfold Yx
 refine A 18 ?_
 refine lP (E:=fun (s : Int × Int) (g : Nat)=>[(1,.optr 1 g 0 0),(3,.int .i64 s.1),(4,.int .i64 s.2)]) (O:=fun _ g=>[(1,some (g,⟨false,true,1,26,[.agg [.sl (p1.Funcs.map Qe)]]⟩))]) (body:=fun s=>Xy p1 s.1 s.2) (s:=(16,0)) _ ((hE ⟨rfl,r,r,trivial⟩ ⟨rfl,trivial⟩))<|?_
 rintro ⟨a2,i3⟩ v1x1 nn
 try dsimp only
 unfold Xy
 exact B

def YW (a : (List Pn) × (List Int)) : List D:=[.sl (a.1.map Ph),.sl (a.2.map Pa)]
def YV (ds : List D) : (List Pn) × (List Int):=((uL YY) (ds.getD 0 .top),(uL uI) (ds.getD 1 .top))
theorem Ajn (a : (List Pn) × (List Int)) : YV (YW a) = a:=by simp [YV,YW,Qa (u:=YY) (en:=Ph) Aez,Qa (u:=uI) (en:=Pa) (fun _=>rfl)]
instance : PA YW YV:=⟨Ajn⟩
def AjS (b : Int) : D:=.int .i64 b
noncomputable def Afj : Dw.Spec:=Pe [] .ground YW YV (fun a=>AaP a.1 a.2) AjS noE
theorem Ajo : Pd Tryz.prog 107 Afj:=by
 refine fn2 2 (Pz) Tryz.func107<|?_
 rintro ⟨s1,off2⟩
 unfold AaP
 refine A 17 ?_
 refine lP (E:=fun (s : Int × Int) (_g : Unit)=>[(0,.sl (s1.map Ph)),(1,.sl (off2.map Pa)),(5,.int .i64 s.1),(6,.int .i64 s.2)]) (O:=fun _ _=>[]) (body:=fun s=>ZV s1 off2 s.1 s.2) (s:=(0,0)) () ((hE ⟨rfl,r,r,r,trivial⟩ trivial))<|?_
 rintro ⟨n3,i4⟩ ⟨⟩ nn
 try dsimp only
 unfold ZV
 refine sC (E:=fun (_s : Unit) (_g : Unit)=>[(0,.sl (s1.map Ph)),(1,.sl (off2.map Pa)),(5,.int .i64 n3),(6,.int .i64 i4),(12,.int .i64 i4),(13,.sl (off2.map Pa)),(14,.int .i64 (off2.length : Int)),(15,.bool (decide (i4 < (off2.length : Int))))]) (O:=fun _ _=>[]) (j:=fun _=>ZW off2 i4 s1 n3) ?_ ?_
 ·exact B
 ·rintro ⟨⟩ ⟨⟩ nn
  try dsimp only
  unfold ZW
  exact B

def VN (a : Pt × Int × Int × (List Int)) : List D:=[Ss a.1,.int .i64 a.2.1,.int .i64 a.2.2.1,.sl (a.2.2.2.map Pa)]
def VM (ds : List D) : Pt × Int × Int × (List Int):=(Zc (ds.getD 0 .top),uI (ds.getD 1 .top),uI (ds.getD 2 .top),(uL uI) (ds.getD 3 .top))
theorem Ags (a : Pt × Int × Int × (List Int)) : VM (VN a) = a:=by simp [VM,VN,uI,Qa (u:=uI) (en:=Pa) (fun _=>rfl)]
instance : PA VN VM:=⟨Ags⟩
def TN (b : QQ × Int) : D:=.tup [Zl b.1,.int .i64 b.2]
noncomputable def AcN : Dw.Spec:=Pe [] .val VN VM (fun a=>Xh a.1 a.2.1 a.2.2.1 a.2.2.2) TN noE
theorem Agt : Pd Tryz.prog 78 AcN:=by
 refine fn2 4 (Pk (l:=[(105,YN),(77,AbD),(107,Afj),(106,Ade)]) (by simp [Aat,AdF,Ajo,Afh])) Tryz.func78<|?_
 rintro ⟨p1,i2,align3,off4⟩
 unfold Xh
 refine A 12 ?_
 refine bD fun x_x5 hx_x5=>?_
 refine A 16 ?_
 refine cD r ?_ ?_
 ·refine A 9 ?_
  refine UP (b:=((QQ.mk 0 0 ([])),13)) r ?_ r r ?_ (by first | rfl | (simp only [OV]; rfl) | (simp only [OW]; rfl) | (simp only [OV,OW]; rfl) | simp [TN,Zl]) (by decide)
  all_goals first|(simp;done)|(simp;omega)|rfl|(simp [PI,PO];done)
 ·refine A 9 ?_
  refine lP (E:=fun (s : Int) (g : Nat × Nat)=>[(1,.int .i64 i2),(2,.int .i64 align3),(3,.sl (off4.map Pa)),(4,.optr 4 g.1 0 0),(8,.optr 8 g.2 0 0),(10,.sl (x_x5.Slots.map Ph)),(11,.int .i64 s)]) (O:=fun _ g=>[(4,some (g.1,⟨false,true,1,26,[.agg [.sl (p1.Funcs.map Qe)]]⟩)),(8,some (g.2,⟨false,true,3,95,[.agg [.int .i64 0,.int .i64 0,.nils]]⟩))]) (body:=fun s=>WM x_x5 off4 p1 i2 align3 s) (s:=0) (_,_) ((hE ⟨rfl,r,r,r,r,r,r,trivial⟩ ⟨rfl,r,trivial⟩))<|?_
  rintro k6 ⟨v4x1,v8x1⟩ nn
  try dsimp only
  unfold WM
  refine A 9 ?_
  refine cD r ?_ ?_
  ·refine A 8 ?_
   refine bD fun x_x7 hx_x7=>?_
   refine A 4 ?_
   refine bD fun x_x8 hx_x8=>?_
   refine A 4 ?_
   refine bD fun r9 hr9=>?_
   refine A 4 ?_
   refine cD r ?_ ?_
   ·refine A 13 ?_
    refine UP (b:=((QQ.mk 0 0 ([])),13)) r ?_ r r ?_ (by first | rfl | (simp only [OV]; rfl) | (simp only [OW]; rfl) | (simp only [OV,OW]; rfl) | simp [TN,Zl]) (by decide)
    all_goals first|(simp;done)|(simp;omega)|rfl|(simp [PI,PO];done)
   ·exact B
  ·refine A 9 ?_
   refine bD fun r10 hr10=>?_
   refine A 9 ?_
   refine bD fun r11 hr11=>?_
   refine A 3 ?_
   refine bD fun r12 hr12=>?_
   refine A 14 ?_
   refine Abi r ?_ ?_
   ·refine A 15 ?_
    refine UP (b:=((QQ.mk 0 0 ([])),9)) r ?_ r r ?_ (by first | rfl | (simp only [OV]; rfl) | (simp only [OW]; rfl) | (simp only [OV,OW]; rfl) | simp [TN,Zl]) (by decide)
    all_goals first|(simp;done)|(simp;omega)|rfl|(simp [PI,PO];done)
   ·refine A 5 ?_
    refine cD r ?_ ?_
    ·refine A 9 ?_
     refine UP (b:=((QQ.mk 0 0 ([])),9)) r ?_ r r ?_ (by first | rfl | (simp only [OV]; rfl) | (simp only [OW]; rfl) | (simp only [OV,OW]; rfl) | simp [TN,Zl]) (by decide)
     all_goals first|(simp;done)|(simp;omega)|rfl|(simp [PI,PO];done)
    ·refine A 7 ?_
     refine cK fun hq=>aP (([] : List Int)) (off4) Pa r r r r r r r (by simp) r r r (by simp) r (fun _=>r) r hq<|?_
     refine A 6 ?_
     refine UP (b:=((QQ.mk r10 r12.1 (([] : List Int) ++ off4)),0)) r ?_ r r ?_ (by first | rfl | (simp only [OV]; rfl) | (simp only [OW]; rfl) | (simp only [OV,OW]; rfl) | simp [TN,Zl]) (by decide)
     all_goals first|(simp;done)|(simp;omega)|rfl|(simp [PI,PO];done)

def ZX (b : SP) : D:=AaG b
noncomputable def Acb : Dw.Spec:=Pe [] .val Vq Vp (fun a=>Wb a.1 a.2) ZX noE
theorem AfO : Pd Tryz.prog 45 Acb:=by
 refine fn2 2 (Pk (l:=[(9,VY),(72,Adx),(73,AbX),(74,Aep),(13,AdC),(75,AcI),(77,AbD),(76,AcL),(79,Aes),(80,Adr),(78,AcN)]) (by simp [XD,Ahb,AfJ,Aik,Ahi,Agi,AdF,Agp,Aiq,AgV,Agt])) Tryz.func45<|?_
 rintro ⟨p1,i2⟩
 unfold Wb
 refine A 11 ?_
 refine bD fun x_x3 hx_x3=>?_
 refine A 9 ?_
 refine bD fun r4 hr4=>?_
 refine A 11 ?_
 refine bD fun r5 hr5=>?_
 refine A 12 ?_
 refine bD fun r6 hr6=>?_
 refine A 14 ?_
 refine bD fun r7 hr7=>?_
 refine A 11 ?_
 refine bD fun r8 hr8=>?_
 refine A 12 ?_
 refine bD fun r9 hr9=>?_
 refine A 10 ?_
 refine bD fun r10 hr10=>?_
 refine A 15 ?_
 refine bD fun r11 hr11=>?_
 refine A 1 ?_
 refine bD fun r12 hr12=>?_
 refine A 15 ?_
 refine cD r ?_ ?_
 ·refine A 8 ?_
  refine Un (b:=(SP.mk r4 (Pj.mk r6 r7) r9 (QQ.mk 0 0 ([])))) r ?_ r r ?_ (by first | rfl | (simp only [OV]; rfl) | (simp only [OW]; rfl) | (simp only [OV,OW]; rfl) | simp [ZX,AaG])
  all_goals first|(simp;done)|(simp;omega)|rfl|(simp [PI,PO];done)
 ·refine A 7 ?_
  refine bD fun r13 hr13=>?_
  refine A 3 ?_
  refine bD fun r14 hr14=>?_
  refine A 2 ?_
  refine bD fun r15 hr15=>?_
  refine A 15 ?_
  refine Un (b:=(SP.mk r4 (Pj.mk r6 r7) r9 r15.1)) r ?_ r r ?_ (by first | rfl | (simp only [OV]; rfl) | (simp only [OW]; rfl) | (simp only [OV,OW]; rfl) | simp [ZX,AaG])
  all_goals first|(simp;done)|(simp;omega)|rfl|(simp [PI,PO];done)

def Tc (a : Mk × Pt × Int) : List D:=[Py a.1,Ss a.2.1,.int .i64 a.2.2]
def Tb (ds : List D) : Mk × Pt × Int:=(RU (ds.getD 0 .top),Zc (ds.getD 1 .top),uI (ds.getD 2 .top))
theorem Ada (a : Mk × Pt × Int) : Tb (Tc a) = a:=by simp [Tb,Tc,uI]
instance : PA Tc Tb:=⟨Ada⟩
def Aaf (b : Pj × Mk) : D:=Ug b.1
def AdJ (b : Pj × Mk) : List D:=[Py b.2]
noncomputable def Aag : Dw.Spec:=Pe [(0,(2,91))] .val Tc Tb (fun a=>Tp a.1 a.2.1 a.2.2) Aaf AdJ
theorem Adb : Pd Tryz.prog 24 Aag:=by
 refine fn2 3 (Pk (l:=[(45,Acb),(21,PL),(46,Ym),(44,Za)]) (by simp [AfO,PN,AaF,AaV])) Tryz.func24<|?_
 rintro ⟨c1,p2,i3⟩
 unfold Tp
 refine A 11 ?_
 refine bD fun x_x4 hx_x4=>?_
 refine A 10 ?_
 refine bD fun r5 hr5=>?_
 refine A 10 ?_
 refine cK fun hq=>aP (([] : List Int)) (r5.Rename.To) Pa r r r r r r r (by simp) r r r (by simp) r (fun _=>r) r hq<|?_
 refine A 2 ?_
 refine cK fun hq=>aP (([] : List Bool)) (r5.Rename.Keep) D.bool r r r r r r r (by simp) r r r (by simp) r (fun _=>r) r hq<|?_
 refine A 5 ?_
 refine sC (E:=fun (_s : (List Int) × Int × (List Int) × (List Bool)) (g : Nat × Nat × Nat × Nat × Nat)=>[(0,.optr 8192 0 0 0),(6,.optr 6 g.1 0 0),(7,.optr 7 g.2.1 0 0),(9,.optr 9 g.2.2.1 0 0)]) (O:=fun s g=>[(6,some (g.1,⟨false,true,2,33,[.agg [.nils,.nils]]⟩)),(7,some (g.2.1,⟨false,true,3,40,[.agg [.int .i64 x_x4.Params,.sl (x_x4.Slots.map Ph),.sl (x_x4.Code.map Pg)]]⟩)),(9,some (g.2.2.1,⟨false,true,2,33,[.agg [.osl 29 g.2.2.2.1 0 s.2.2.1.length,.osl 32 g.2.2.2.2 0 s.2.2.2.length]]⟩)),(29,some (g.2.2.2.1,⟨false,false,1,3,s.2.2.1.map Pa⟩)),(32,some (g.2.2.2.2,⟨false,false,1,4,s.2.2.2.map D.bool⟩)),(8192,some (0,⟨false,true,2,91,[.agg [.sl (s.1.map eU8),.int .i64 s.2.1]]⟩))]) (j:=fun s=>Rh x_x4 s.1 s.2.1 s.2.2.1 s.2.2.2) ?_ ?_
 ·refine A 3 ?_
  refine bD fun r10 hr10=>?_
  refine A 4 ?_
  refine cD r ?_ ?_
  ·refine A 7 ?_
   refine lP (E:=fun (s : (List Int) × Int) (g : Nat × Nat × Nat × Nat × Nat)=>[(0,.optr 8192 0 0 0),(6,.optr 6 g.1 0 0),(7,.optr 7 g.2.1 0 0),(9,.optr 9 g.2.2.1 0 0),(10,.int .i64 s.2)]) (O:=fun s g=>[(6,some (g.1,⟨false,true,2,33,[.agg [.nils,.nils]]⟩)),(7,some (g.2.1,⟨false,true,3,40,[.agg [.int .i64 x_x4.Params,.sl (x_x4.Slots.map Ph),.sl (x_x4.Code.map Pg)]]⟩)),(9,some (g.2.2.1,⟨false,true,2,33,[.agg [.osl 29 g.2.2.2.1 0 s.1.length,.osl 32 g.2.2.2.2 0 ((([] : List Bool) ++ r5.Rename.Keep).length)]]⟩)),(29,some (g.2.2.2.1,⟨false,false,1,3,s.1.map Pa⟩)),(32,some (g.2.2.2.2,⟨false,false,1,4,(([] : List Bool) ++ r5.Rename.Keep).map D.bool⟩)),(8192,some (0,⟨false,true,2,91,[.agg [.sl (r10.2.list.map eU8),.int .i64 r10.2.at_]]⟩))]) (body:=fun s=>Tx x_x4 r10 r5 s.1 s.2) (s:=(([] : List Int) ++ r5.Rename.To,0)) (_,_,_,_,_) ((hE ⟨rfl,r,r,r,r,trivial⟩ ⟨rfl,r,r,r,r,r,trivial⟩))<|?_
   rintro ⟨x11,s12⟩ ⟨v6x1,v7x1,v9x1,v29x1,v32x1⟩ nn
   try dsimp only
   unfold Tx
   refine A 10 ?_
   refine cD r ?_ ?_
   ·refine A 10 ?_
    refine bD fun x_o13 hx_o13=>?_
    refine A 9 ?_
    exact xL (s:=(x11.set s12.toNat s12,IntKind.i64.wrap (s12 + 1))) (_,_,_,_,_) ((hE ⟨rfl,r,r,r,r,trivial⟩ ⟨rfl,r,(Eq.trans (b:=some (_,⟨false,true,2,33,[.agg [.osl 29 _ 0 x11.length,.osl 32 _ 0 ((([] : List Bool) ++ r5.Rename.Keep).length)]]⟩)) r (by simp)),r,r,r,trivial⟩))
   ·refine A 11 ?_
    refine lP (E:=fun (s : (List Bool) × Int) (g : Nat × Nat × Nat × Nat × Nat)=>[(0,.optr 8192 0 0 0),(6,.optr 6 g.1 0 0),(7,.optr 7 g.2.1 0 0),(9,.optr 9 g.2.2.1 0 0),(11,.int .i64 s.2)]) (O:=fun s g=>[(6,some (g.1,⟨false,true,2,33,[.agg [.nils,.nils]]⟩)),(7,some (g.2.1,⟨false,true,3,40,[.agg [.int .i64 x_x4.Params,.sl (x_x4.Slots.map Ph),.sl (x_x4.Code.map Pg)]]⟩)),(9,some (g.2.2.1,⟨false,true,2,33,[.agg [.osl 29 g.2.2.2.1 0 x11.length,.osl 32 g.2.2.2.2 0 s.1.length]]⟩)),(29,some (g.2.2.2.1,⟨false,false,1,3,x11.map Pa⟩)),(32,some (g.2.2.2.2,⟨false,false,1,4,s.1.map D.bool⟩)),(8192,some (0,⟨false,true,2,91,[.agg [.sl (r10.2.list.map eU8),.int .i64 r10.2.at_]]⟩))]) (body:=fun s=>Ty x_x4 r10 x11 s.1 s.2) (s:=(([] : List Bool) ++ r5.Rename.Keep,0)) (_,_,_,_,_) ((hE ⟨rfl,r,r,r,r,trivial⟩ ⟨rfl,r,r,r,r,r,trivial⟩))<|?_
    rintro ⟨x14,k15⟩ ⟨v6x2,v7x2,v9x2,v29x2,v32x2⟩ nn
    try dsimp only
    unfold Ty
    refine A 10 ?_
    refine cD r ?_ ?_
    ·refine A 9 ?_
     refine bD fun x_o16 hx_o16=>?_
     refine A 9 ?_
     exact xL (s:=(x14.set k15.toNat true,IntKind.i64.wrap (k15 + 1))) (_,_,_,_,_) ((hE ⟨rfl,r,r,r,r,trivial⟩ ⟨rfl,r,(Eq.trans (b:=some (_,⟨false,true,2,33,[.agg [.osl 29 _ 0 x11.length,.osl 32 _ 0 x14.length]]⟩)) r (by simp)),r,r,r,trivial⟩))
    ·exact B
  ·exact B
 ·rintro ⟨c6,c7,x8,x9⟩ ⟨v6x3,v7x3,v9x3,v29x3,v32x3⟩ nn
  try dsimp only
  unfold Rh
  refine A 4 ?_
  refine bD fun r17 hr17=>?_
  refine A 5 ?_
  refine lP (E:=fun (s : (List Int) × Int × (List Int) × (List Bool) × Int) (g : Nat × Nat × Nat × Nat × Nat)=>[(0,.optr 8192 0 0 0),(6,.optr 6 g.1 0 0),(7,.optr 7 g.2.1 0 0),(9,.optr 9 g.2.2.1 0 0),(12,.int .i64 s.2.2.2.2)]) (O:=fun s g=>[(6,some (g.1,⟨false,true,2,33,[.agg [.nils,.nils]]⟩)),(7,some (g.2.1,⟨false,true,3,40,[.agg [.int .i64 x_x4.Params,.sl (x_x4.Slots.map Ph),.sl (x_x4.Code.map Pg)]]⟩)),(9,some (g.2.2.1,⟨false,true,2,33,[.agg [.osl 29 g.2.2.2.1 0 s.2.2.1.length,.osl 32 g.2.2.2.2 0 s.2.2.2.1.length]]⟩)),(29,some (g.2.2.2.1,⟨false,false,1,3,s.2.2.1.map Pa⟩)),(32,some (g.2.2.2.2,⟨false,false,1,4,s.2.2.2.1.map D.bool⟩)),(8192,some (0,⟨false,true,2,91,[.agg [.sl (s.1.map eU8),.int .i64 s.2.1]]⟩))]) (body:=fun s=>Tz x_x4 s.1 s.2.1 s.2.2.1 s.2.2.2.1 s.2.2.2.2) (s:=(r17.2.list,r17.2.at_,x8,x9,r17.1)) (_,_,_,_,_) ((hE ⟨rfl,r,r,r,r,trivial⟩ ⟨rfl,r,r,r,r,r,trivial⟩))<|?_
  rintro ⟨c18,c19,x20,x21,n22⟩ ⟨v6x4,v7x4,v9x4,v29x4,v32x4⟩ nn
  try dsimp only
  unfold Tz
  refine A 7 ?_
  refine cD r ?_ ?_
  ·refine A 2 ?_
   refine bC (E:=fun (_s : (List Int) × Int × (List Int) × (List Bool)) (g : Nat × Nat × Nat × Nat × Nat)=>[(0,.optr 8192 0 0 0),(6,.optr 6 g.1 0 0),(7,.optr 7 g.2.1 0 0),(9,.optr 9 g.2.2.1 0 0),(12,.int .i64 n22)]) (O:=fun s g=>[(6,some (g.1,⟨false,true,2,33,[.agg [.nils,.nils]]⟩)),(7,some (g.2.1,⟨false,true,3,40,[.agg [.int .i64 x_x4.Params,.sl (x_x4.Slots.map Ph),.sl (x_x4.Code.map Pg)]]⟩)),(9,some (g.2.2.1,⟨false,true,2,33,[.agg [.osl 29 g.2.2.2.1 0 s.2.2.1.length,.osl 32 g.2.2.2.2 0 s.2.2.2.length]]⟩)),(29,some (g.2.2.2.1,⟨false,false,1,3,s.2.2.1.map Pa⟩)),(32,some (g.2.2.2.2,⟨false,false,1,4,s.2.2.2.map D.bool⟩)),(8192,some (0,⟨false,true,2,91,[.agg [.sl (s.1.map eU8),.int .i64 s.2.1]]⟩))]) (j:=fun s=>PK n22 s.1 s.2.1 s.2.2.1 s.2.2.2) ?_ ?_
   ·refine A 6 ?_
    refine bD fun r27 hr27=>?_
    refine A 7 ?_
    refine bD fun r28 hr28=>?_
    refine A 4 ?_
    refine sC (E:=fun (s : Bool) (g : Nat × Nat × Nat × Nat × Nat)=>[(0,.optr 8192 0 0 0),(6,.optr 6 g.1 0 0),(7,.optr 7 g.2.1 0 0),(9,.optr 9 g.2.2.1 0 0),(12,.int .i64 n22),(13,.int .i64 r27.1),(72,.int .i64 r28.1),(73,.bool s)]) (O:=fun _ g=>[(6,some (g.1,⟨false,true,2,33,[.agg [.nils,.nils]]⟩)),(7,some (g.2.1,⟨false,true,3,40,[.agg [.int .i64 x_x4.Params,.sl (x_x4.Slots.map Ph),.sl (x_x4.Code.map Pg)]]⟩)),(9,some (g.2.2.1,⟨false,true,2,33,[.agg [.osl 29 g.2.2.2.1 0 x20.length,.osl 32 g.2.2.2.2 0 x21.length]]⟩)),(29,some (g.2.2.2.1,⟨false,false,1,3,x20.map Pa⟩)),(32,some (g.2.2.2.2,⟨false,false,1,4,x21.map D.bool⟩)),(8192,some (0,⟨false,true,2,91,[.agg [.sl (r28.2.list.map eU8),.int .i64 r28.2.at_]]⟩))]) (j:=fun s=>Ri x_x4 r27 x21 n22 x20 r28 s) ?_ ?_
    ·exact B
    ·rintro x29 ⟨v6x5,v7x5,v9x5,v29x5,v32x5⟩ nn
     try dsimp only
     unfold Ri
     refine cD r ?_ ?_
     ·refine A 5 ?_
      refine bD fun x_x30 hx_x30=>?_
      refine A 6 ?_
      refine sC (E:=fun (s : (List Int) × Int × Bool) (g : Nat × Nat × Nat × Nat × Nat)=>[(0,.optr 8192 0 0 0),(6,.optr 6 g.1 0 0),(7,.optr 7 g.2.1 0 0),(9,.optr 9 g.2.2.1 0 0),(12,.int .i64 n22),(13,.int .i64 r27.1),(92,.bool s.2.2)]) (O:=fun s g=>[(6,some (g.1,⟨false,true,2,33,[.agg [.nils,.nils]]⟩)),(7,some (g.2.1,⟨false,true,3,40,[.agg [.int .i64 x_x4.Params,.sl (x_x4.Slots.map Ph),.sl (x_x4.Code.map Pg)]]⟩)),(9,some (g.2.2.1,⟨false,true,2,33,[.agg [.osl 29 g.2.2.2.1 0 x20.length,.osl 32 g.2.2.2.2 0 x21.length]]⟩)),(29,some (g.2.2.2.1,⟨false,false,1,3,x20.map Pa⟩)),(32,some (g.2.2.2.2,⟨false,false,1,4,x21.map D.bool⟩)),(8192,some (0,⟨false,true,2,91,[.agg [.sl (s.1.map eU8),.int .i64 s.2.1]]⟩))]) (j:=fun s=>Qz r27 x21 n22 x20 s.1 s.2.1 s.2.2) ?_ ?_
      ·exact B
      ·rintro ⟨c31,c32,x33⟩ ⟨v6x6,v7x6,v9x6,v29x6,v32x6⟩ nn
       try dsimp only
       unfold Qz
       refine cD r ?_ ?_
       ·refine A 8 ?_
        refine bD fun x_e35 hx_e35=>?_
        refine A 3 ?_
        refine bD fun x_o36 hx_o36=>?_
        refine A 3 ?_
        exact UK (s:=(c31,c32,x20,x21.set r27.1.toNat (!x_e35))) (_,_,_,_,_) ((hE ⟨rfl,r,r,r,r,trivial⟩ ⟨rfl,r,(Eq.trans (b:=some (_,⟨false,true,2,33,[.agg [.osl 29 _ 0 x20.length,.osl 32 _ 0 x21.length]]⟩)) r (by simp)),r,r,r,trivial⟩))
       ·exact B
     ·refine A 6 ?_
      refine cD r ?_ ?_
      ·refine A 8 ?_
       refine cD r ?_ ?_
       ·refine A 6 ?_
        refine bD fun r37 hr37=>?_
        refine A 11 ?_
        refine bD fun r38 hr38=>?_
        refine A 2 ?_
        refine bD fun x_e39 hx_e39=>?_
        refine A 10 ?_
        refine lP (E:=fun (s : (List Int) × Int) (g : Nat × Nat × Nat × Nat × Nat)=>[(0,.optr 8192 0 0 0),(6,.optr 6 g.1 0 0),(7,.optr 7 g.2.1 0 0),(9,.optr 9 g.2.2.1 0 0),(12,.int .i64 n22),(15,.int .i64 r37.1),(16,.int .i64 x_e39),(17,.int .i64 s.2)]) (O:=fun s g=>[(6,some (g.1,⟨false,true,2,33,[.agg [.nils,.nils]]⟩)),(7,some (g.2.1,⟨false,true,3,40,[.agg [.int .i64 x_x4.Params,.sl (x_x4.Slots.map Ph),.sl (x_x4.Code.map Pg)]]⟩)),(9,some (g.2.2.1,⟨false,true,2,33,[.agg [.osl 29 g.2.2.2.1 0 s.1.length,.osl 32 g.2.2.2.2 0 x21.length]]⟩)),(29,some (g.2.2.2.1,⟨false,false,1,3,s.1.map Pa⟩)),(32,some (g.2.2.2.2,⟨false,false,1,4,x21.map D.bool⟩)),(8192,some (0,⟨false,true,2,91,[.agg [.sl (r38.2.list.map eU8),.int .i64 r38.2.at_]]⟩))]) (body:=fun s=>TA r37 x_e39 n22 r38 x21 s.1 s.2) (s:=(x20,0)) (_,_,_,_,_) ((hE ⟨rfl,r,r,r,r,r,r,r,trivial⟩ ⟨rfl,r,r,r,r,r,trivial⟩))<|?_
        rintro ⟨x40,u41⟩ ⟨v6x7,v7x7,v9x7,v29x7,v32x7⟩ nn
        try dsimp only
        unfold TA
        refine A 10 ?_
        refine cD r ?_ ?_
        ·refine A 10 ?_
         refine bD fun x_e42 hx_e42=>?_
         refine A 5 ?_
         refine cD r ?_ ?_
         ·refine A 6 ?_
          refine bD fun x_o43 hx_o43=>?_
          refine A 9 ?_
          exact xL (s:=(x40.set u41.toNat x_e39,IntKind.i64.wrap (u41 + 1))) (_,_,_,_,_) ((hE ⟨rfl,r,r,r,r,r,r,r,trivial⟩ ⟨rfl,r,(Eq.trans (b:=some (_,⟨false,true,2,33,[.agg [.osl 29 _ 0 x40.length,.osl 32 _ 0 x21.length]]⟩)) r (by simp)),r,r,r,trivial⟩))
         ·exact B
        ·exact B
       ·exact B
      ·refine A 6 ?_
       refine cD r ?_ ?_
       ·refine sC (E:=fun (s : (List Int) × Int × Bool) (g : Nat × Nat × Nat × Nat × Nat)=>[(0,.optr 8192 0 0 0),(6,.optr 6 g.1 0 0),(7,.optr 7 g.2.1 0 0),(9,.optr 9 g.2.2.1 0 0),(12,.int .i64 n22),(151,.bool s.2.2)]) (O:=fun s g=>[(6,some (g.1,⟨false,true,2,33,[.agg [.nils,.nils]]⟩)),(7,some (g.2.1,⟨false,true,3,40,[.agg [.int .i64 x_x4.Params,.sl (x_x4.Slots.map Ph),.sl (x_x4.Code.map Pg)]]⟩)),(9,some (g.2.2.1,⟨false,true,2,33,[.agg [.osl 29 g.2.2.2.1 0 x20.length,.osl 32 g.2.2.2.2 0 x21.length]]⟩)),(29,some (g.2.2.2.1,⟨false,false,1,3,x20.map Pa⟩)),(32,some (g.2.2.2.2,⟨false,false,1,4,x21.map D.bool⟩)),(8192,some (0,⟨false,true,2,91,[.agg [.sl (s.1.map eU8),.int .i64 s.2.1]]⟩))]) (j:=fun s=>Rj x_x4 x20 n22 x21 s.1 s.2.1 s.2.2) ?_ ?_
        ·exact B
        ·rintro ⟨c44,c45,x46⟩ ⟨v6x8,v7x8,v9x8,v29x8,v32x8⟩ nn
         try dsimp only
         unfold Rj
         refine cD r ?_ ?_
         ·refine A 7 ?_
          refine bD fun r48 hr48=>?_
          refine A 2 ?_
          refine bD fun r49 hr49=>?_
          refine A 2 ?_
          refine bD fun x_o50 hx_o50=>?_
          refine A 3 ?_
          exact UK (s:=(r49.2.list,r49.2.at_,x20.set r48.1.toNat r49.1,x21)) (_,_,_,_,_) ((hE ⟨rfl,r,r,r,r,trivial⟩ ⟨rfl,r,(Eq.trans (b:=some (_,⟨false,true,2,33,[.agg [.osl 29 _ 0 x20.length,.osl 32 _ 0 x21.length]]⟩)) r (by simp)),r,r,r,trivial⟩))
         ·exact B
       ·exact B
   ·rintro ⟨c23,c24,x25,x26⟩ ⟨v6x9,v7x9,v9x9,v29x9,v32x9⟩ nn
    try dsimp only
    unfold PK
    exact B
  ·refine A 12 ?_
   refine Un (b:=((Pj.mk x20 x21),(Mk.mk c18 c19))) r ?_ r r ?_ (by first | rfl | (simp only [OV]; rfl) | (simp only [OW]; rfl) | (simp only [OV,OW]; rfl) | simp [Aaf,Ug])
   all_goals first|(simp;done)|(simp;omega)|rfl|(simp [PI,PO];done)

def Wv (a : (List Int)) : List D:=[.sl (a.map eU8)]
def Wu (ds : List D) : (List Int):=(uL uI) (ds.getD 0 .top)
theorem AcD (a : (List Int)) : Wu (Wv a) = a:=by simp [Wu,Wv,Qa (u:=uI) (en:=eU8) (fun _=>rfl)]
instance : PA Wv Wu:=⟨AcD⟩
def AhH (b : Pt × Int × Pf × Pj × Mk) : D:=.tup [Ss b.1,.int .i64 b.2.1,QA b.2.2.1,Ug b.2.2.2.1,Py b.2.2.2.2]
noncomputable def Adn : Dw.Spec:=Pe [] (.tupPtr 4 2 91) Wv Wu (fun a=>Yu a) AhH noE
theorem AgM : Pd Tryz.prog 7 Adn:=by
 refine fn2 1 (Pk (l:=[(19,Aga),(20,ZA),(21,PL),(22,AaC),(23,AaX),(24,Aag)]) (by simp [AjI,AcB,PN,AdI,AdR,Adb])) Tryz.func7<|?_
 intro codes1
 unfold Yu
 refine A 12 ?_
 refine bD fun r2 hr2=>?_
 refine A 7 ?_
 refine bD fun r3 hr3=>?_
 refine A 11 ?_
 refine bD fun r4 hr4=>?_
 refine A 10 ?_
 refine bD fun x_x5 hx_x5=>?_
 refine A 2 ?_
 refine bD fun r6 hr6=>?_
 refine A 5 ?_
 refine sC (E:=fun (_s : (List (List Int)) × (List Int) × Int) (g : Nat × Nat × Nat × Nat × Nat × Nat)=>[(2,.optr 2 g.1 0 0),(4,.optr 4 g.2.1 0 0),(5,.optr 5 g.2.2.1 0 0),(7,.optr 12 g.2.2.2.2.2 0 0),(8,.optr 8 g.2.2.2.1 0 0),(9,.int .i64 r4.1),(10,.optr 10 g.2.2.2.2.1 0 0)]) (O:=fun s g=>[(2,some (g.1,⟨false,true,1,26,[.agg [.nils]]⟩)),(4,some (g.2.1,⟨false,true,1,29,[.agg [.nils]]⟩)),(5,some (g.2.2.1,⟨false,true,2,33,[.agg [.nils,.nils]]⟩)),(8,some (g.2.2.2.1,⟨false,true,1,26,[.agg [.sl (r3.1.Funcs.map Qe)]]⟩)),(10,some (g.2.2.2.2.1,⟨false,true,1,29,[.agg [.sl (s.1.map (eL Pa))]]⟩)),(12,some (g.2.2.2.2.2,⟨false,true,2,91,[.agg [.sl (s.2.1.map eU8),.int .i64 s.2.2]]⟩))]) (j:=fun s=>TI r3 r4 s.1 s.2.1 s.2.2) ?_ ?_
 ·exact B
 ·rintro ⟨l7,x8,x9⟩ ⟨v2x1,v4x1,v5x1,v8x1,v10x1,v12x1⟩ nn
  try dsimp only
  unfold TI
  exact B

def Qp (a : (List Int)) : List D:=[.sl (a.map eU8)]
def Qo (ds : List D) : (List Int):=(uL uI) (ds.getD 0 .top)
theorem Tg (a : (List Int)) : Qo (Qp a) = a:=by simp [Qo,Qp,Qa (u:=uI) (en:=eU8) (fun _=>rfl)]
instance : PA Qp Qo:=⟨Tg⟩
def Yp (b : Bool) : D:=.bool b
noncomputable def Yq : Dw.Spec:=Pe [] .ground Qp Qo (fun a=>Qf a) Yp noE
theorem Xn : Pd Tryz.prog 3 Yq:=by
 refine fn2 1 (Pk (l:=[(6,Adm),(7,Adn),(8,Zd),(9,VY)]) (by simp [AgL,AgM,Abb,XD])) Tryz.func3<|?_
 intro codes1
 unfold Qf
 refine A 8 ?_
 refine bD fun r2 hr2=>?_
 refine A 4 ?_
 refine cD r ?_ ?_
 ·exact B
 ·refine A 5 ?_
  refine bD fun r3 hr3=>Agx (rs:=[Ss r3.1,.int .i64 r3.2.1,QA r3.2.2.1,Ug r3.2.2.2.1,Py r3.2.2.2.2]) (z:=Py r3.2.2.2.2) codes1 r r r AcD r r (by simp) r hr3 r r<|?_
  exact B

end Go.Proofs.YtpagjjmondojpaaGreatDoor
