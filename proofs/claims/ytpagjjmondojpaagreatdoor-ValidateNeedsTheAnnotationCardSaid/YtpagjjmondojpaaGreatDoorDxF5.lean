/-
  Programs on typed data, and the proofs that the code does what they say; written by a program (dx.py).
-/
import Derived.Test.YtpagjjmondojpaaGreatDoorProg
import Derived.Test.YtpagjjmondojpaaGreatDoorDc
import Derived.Test.YtpagjjmondojpaaGreatDoorDd
import Derived.KernelRfl
import Derived.Test.YtpagjjmondojpaaGreatDoorDxP
import Derived.Test.YtpagjjmondojpaaGreatDoorDxF2
import Derived.Test.YtpagjjmondojpaaGreatDoorDxF3
import Derived.Test.YtpagjjmondojpaaGreatDoorDxF4
namespace Go.Proofs.YtpagjjmondojpaaGreatDoor
open Go Go.Dw Go.Proofs
set_option maxRecDepth 100000
set_option maxHeartbeats 4000000
open Go.Dw renaming QE → bD,Py → cK,Abe → aP,Abf → cD,Ada → xL,Zf → hE,AcI → lP,ZT → sC,Yb → bC,rf → r
def Ajl (b : Pf) : D:=Sj b
noncomputable def Aem : Dw.Spec:=OQ [] .val Tl Tk (fun a=>AaY a.1 a.2.1 a.2.2) Ajl noE
theorem Ail : OP Tryz.prog 79 Aem:=by
 refine fn2 3 (OW (l:=[(14,AbT)]) (by simp [AfF])) Tryz.func79<|?_
 intro a
 unfold AaY
 exact B

def AhF (b : Int) : D:=.int .i64 b
noncomputable def Adi : Dw.Spec:=OQ [] .ground Tc Tb (fun a=>Yo a) AhF noE
theorem AgK : OP Tryz.prog 108 Adi:=by
 refine fn2 1 (OW (l:=[(100,AaL)]) (by simp [Acz])) Tryz.func108<|?_
 intro s1
 unfold Yo
 refine A 14 ?_
 refine bD fun r2 hr2=>?_
 refine A 4 ?_
 refine cD r ?_ ?_
 ·exact B
 ·refine A 9 ?_
  refine lP (E:=fun (s : Int × Int) (_g : Unit)=>[(0,.sl (s1.map OV)),(3,.int .i64 s.1),(4,.int .i64 s.2)]) (O:=fun _ _=>[]) (body:=fun s=>Xl s1 s.1 s.2) (s:=(16,0)) () ((hE ⟨rfl,r,r,trivial⟩ trivial))<|?_
  rintro ⟨a3,i4⟩ ⟨⟩ nn
  try dsimp only
  unfold Xl
  exact B

def Wt (a : Pf) : List D:=[Sj a]
def Ws (ds : List D) : Pf:=YV (ds.getD 0 .top)
theorem AgP (a : Pf) : Ws (Wt a) = a:=by simp [Ws,Wt]
instance : Pn Wt Ws:=⟨AgP⟩
def AhQ (b : Int) : D:=.int .i64 b
noncomputable def Adl : Dw.Spec:=OQ [] .ground Wt Ws (fun a=>Yq a) AhQ noE
theorem AgQ : OP Tryz.prog 80 Adl:=by
 refine fn2 1 (OW (l:=[(108,Adi)]) (by simp [AgK])) Tryz.func80<|?_
 intro p1
 unfold Yq
 refine A 18 ?_
 refine lP (E:=fun (s : Int × Int) (g : Nat)=>[(1,.optr 1 g 0 0),(3,.int .i64 s.1),(4,.int .i64 s.2)]) (O:=fun _ g=>[(1,some (g,⟨false,true,1,26,[.agg [.sl (p1.Funcs.map PS)]]⟩))]) (body:=fun s=>Xs p1 s.1 s.2) (s:=(16,0)) _ ((hE ⟨rfl,r,r,trivial⟩ ⟨rfl,trivial⟩))<|?_
 rintro ⟨a2,i3⟩ v1x1 nn
 try dsimp only
 unfold Xs
 exact B

def YP (a : (List OZ) × (List Int)) : List D:=[.sl (a.1.map OV),.sl (a.2.map OM)]
def YO (ds : List D) : (List OZ) × (List Int):=((uL YR) (ds.getD 0 .top),(uL uI) (ds.getD 1 .top))
theorem Aji (a : (List OZ) × (List Int)) : YO (YP a) = a:=by simp [YO,YP,PN (u:=YR) (en:=OV) Aet,PN (u:=uI) (en:=OM) (fun _=>rfl)]
instance : Pn YP YO:=⟨Aji⟩
def AjN (b : Int) : D:=.int .i64 b
noncomputable def Afd : Dw.Spec:=OQ [] .ground YP YO (fun a=>AaI a.1 a.2) AjN noE
theorem Ajj : OP Tryz.prog 107 Afd:=by
 refine fn2 2 (Pm) Tryz.func107<|?_
 rintro ⟨s1,off2⟩
 unfold AaI
 refine A 17 ?_
 refine lP (E:=fun (s : Int × Int) (_g : Unit)=>[(0,.sl (s1.map OV)),(1,.sl (off2.map OM)),(5,.int .i64 s.1),(6,.int .i64 s.2)]) (O:=fun _ _=>[]) (body:=fun s=>ZO s1 off2 s.1 s.2) (s:=(0,0)) () ((hE ⟨rfl,r,r,r,trivial⟩ trivial))<|?_
 rintro ⟨n3,i4⟩ ⟨⟩ nn
 try dsimp only
 unfold ZO
 refine sC (E:=fun (_s : Unit) (_g : Unit)=>[(0,.sl (s1.map OV)),(1,.sl (off2.map OM)),(5,.int .i64 n3),(6,.int .i64 i4),(12,.int .i64 i4),(13,.sl (off2.map OM)),(14,.int .i64 (off2.length : Int)),(15,.bool (decide (i4 < (off2.length : Int))))]) (O:=fun _ _=>[]) (j:=fun _=>ZP off2 i4 s1 n3) ?_ ?_
 ·exact B
 ·rintro ⟨⟩ ⟨⟩ nn
  try dsimp only
  unfold ZP
  exact B

def VG (a : Pf × Int × Int × (List Int)) : List D:=[Sj a.1,.int .i64 a.2.1,.int .i64 a.2.2.1,.sl (a.2.2.2.map OM)]
def VF (ds : List D) : Pf × Int × Int × (List Int):=(YV (ds.getD 0 .top),uI (ds.getD 1 .top),uI (ds.getD 2 .top),(uL uI) (ds.getD 3 .top))
theorem Agm (a : Pf × Int × Int × (List Int)) : VF (VG a) = a:=by simp [VF,VG,uI,PN (u:=uI) (en:=OM) (fun _=>rfl)]
instance : Pn VG VF:=⟨Agm⟩
def TG (b : QF × Int) : D:=.tup [Ze b.1,.int .i64 b.2]
noncomputable def AcH : Dw.Spec:=OQ [] .val VG VF (fun a=>Xb a.1 a.2.1 a.2.2.1 a.2.2.2) TG noE
theorem Agn : OP Tryz.prog 78 AcH:=by
 refine fn2 4 (OW (l:=[(105,YG),(77,Abx),(107,Afd),(106,AcX)]) (by simp [Aam,Adz,Ajj,Afb])) Tryz.func78<|?_
 rintro ⟨p1,i2,align3,off4⟩
 unfold Xb
 refine A 12 ?_
 refine bD fun x_x5 hx_x5=>?_
 refine A 16 ?_
 refine cD r ?_ ?_
 ·refine A 9 ?_
  refine UI (b:=((QF.mk 0 0 ([])),13)) r ?_ r r ?_ (by first | rfl | (simp only [OH]; rfl) | (simp only [OI]; rfl) | (simp only [OH,OI]; rfl) | simp [TG,Ze]) (by decide)
  all_goals first|(simp;done)|(simp;omega)|rfl|(simp [Pu,PA];done)
 ·refine A 9 ?_
  refine lP (E:=fun (s : Int) (g : Nat × Nat)=>[(1,.int .i64 i2),(2,.int .i64 align3),(3,.sl (off4.map OM)),(4,.optr 4 g.1 0 0),(8,.optr 8 g.2 0 0),(10,.sl (x_x5.Slots.map OV)),(11,.int .i64 s)]) (O:=fun _ g=>[(4,some (g.1,⟨false,true,1,26,[.agg [.sl (p1.Funcs.map PS)]]⟩)),(8,some (g.2,⟨false,true,3,95,[.agg [.int .i64 0,.int .i64 0,.nils]]⟩))]) (body:=fun s=>WG x_x5 off4 p1 i2 align3 s) (s:=0) (_,_) ((hE ⟨rfl,r,r,r,r,r,r,trivial⟩ ⟨rfl,r,trivial⟩))<|?_
  rintro k6 ⟨v4x1,v8x1⟩ nn
  try dsimp only
  unfold WG
  refine A 9 ?_
  refine cD r ?_ ?_
  ·refine A 8 ?_
   refine bD fun x_x7 hx_x7=>?_
   refine A 4 ?_
   refine bD fun x_x8 hx_x8=>?_
   refine A 4 ?_
   refine bD fun r9 hr9=>?_
   refine A 4 ?_
   refine cD r ?_ ?_
   ·refine A 13 ?_
    refine UI (b:=((QF.mk 0 0 ([])),13)) r ?_ r r ?_ (by first | rfl | (simp only [OH]; rfl) | (simp only [OI]; rfl) | (simp only [OH,OI]; rfl) | simp [TG,Ze]) (by decide)
    all_goals first|(simp;done)|(simp;omega)|rfl|(simp [Pu,PA];done)
   ·exact B
  ·refine A 9 ?_
   refine bD fun r10 hr10=>?_
   refine A 9 ?_
   refine bD fun r11 hr11=>?_
   refine A 3 ?_
   refine bD fun r12 hr12=>?_
   refine A 14 ?_
   refine Abc r ?_ ?_
   ·refine A 15 ?_
    refine UI (b:=((QF.mk 0 0 ([])),9)) r ?_ r r ?_ (by first | rfl | (simp only [OH]; rfl) | (simp only [OI]; rfl) | (simp only [OH,OI]; rfl) | simp [TG,Ze]) (by decide)
    all_goals first|(simp;done)|(simp;omega)|rfl|(simp [Pu,PA];done)
   ·refine A 5 ?_
    refine cD r ?_ ?_
    ·refine A 9 ?_
     refine UI (b:=((QF.mk 0 0 ([])),9)) r ?_ r r ?_ (by first | rfl | (simp only [OH]; rfl) | (simp only [OI]; rfl) | (simp only [OH,OI]; rfl) | simp [TG,Ze]) (by decide)
     all_goals first|(simp;done)|(simp;omega)|rfl|(simp [Pu,PA];done)
    ·refine A 7 ?_
     refine cK fun hq=>aP (([] : List Int)) (off4) OM r r r r r r r (by simp) r r r (by simp) r (fun _=>r) r hq<|?_
     refine A 6 ?_
     refine UI (b:=((QF.mk r10 r12.1 (([] : List Int) ++ off4)),0)) r ?_ r r ?_ (by first | rfl | (simp only [OH]; rfl) | (simp only [OI]; rfl) | (simp only [OH,OI]; rfl) | simp [TG,Ze]) (by decide)
     all_goals first|(simp;done)|(simp;omega)|rfl|(simp [Pu,PA];done)

def ZQ (b : SH) : D:=Aaz b
noncomputable def AbV : Dw.Spec:=OQ [] .val Vj Vi (fun a=>VU a.1 a.2) ZQ noE
theorem AfI : OP Tryz.prog 45 AbV:=by
 refine fn2 2 (OW (l:=[(9,VR),(72,Adr),(73,AbR),(74,Aej),(13,Adw),(75,AcC),(77,Abx),(76,AcF),(79,Aem),(80,Adl),(78,AcH)]) (by simp [Xx,AgW,AfD,Aif,Ahd,Agc,Adz,Agj,Ail,AgQ,Agn])) Tryz.func45<|?_
 rintro ⟨p1,i2⟩
 unfold VU
 refine A 11 ?_
 refine bD fun x_x3 hx_x3=>?_
 refine A 9 ?_
 refine bD fun r4 hr4=>?_
 refine A 11 ?_
 refine bD fun r5 hr5=>?_
 refine A 12 ?_
 refine bD fun r6 hr6=>?_
 refine A 14 ?_
 refine bD fun r7 hr7=>?_
 refine A 11 ?_
 refine bD fun r8 hr8=>?_
 refine A 12 ?_
 refine bD fun r9 hr9=>?_
 refine A 10 ?_
 refine bD fun r10 hr10=>?_
 refine A 15 ?_
 refine bD fun r11 hr11=>?_
 refine A 1 ?_
 refine bD fun r12 hr12=>?_
 refine A 15 ?_
 refine cD r ?_ ?_
 ·refine A 8 ?_
  refine Ug (b:=(SH.mk r4 (OU.mk r6 r7) r9 (QF.mk 0 0 ([])))) r ?_ r r ?_ (by first | rfl | (simp only [OH]; rfl) | (simp only [OI]; rfl) | (simp only [OH,OI]; rfl) | simp [ZQ,Aaz])
  all_goals first|(simp;done)|(simp;omega)|rfl|(simp [Pu,PA];done)
 ·refine A 7 ?_
  refine bD fun r13 hr13=>?_
  refine A 3 ?_
  refine bD fun r14 hr14=>?_
  refine A 2 ?_
  refine bD fun r15 hr15=>?_
  refine A 15 ?_
  refine Ug (b:=(SH.mk r4 (OU.mk r6 r7) r9 r15.1)) r ?_ r r ?_ (by first | rfl | (simp only [OH]; rfl) | (simp only [OI]; rfl) | (simp only [OH,OI]; rfl) | simp [ZQ,Aaz])
  all_goals first|(simp;done)|(simp;omega)|rfl|(simp [Pu,PA];done)

def SV (a : Mk × Pf × Int) : List D:=[Pl a.1,Sj a.2.1,.int .i64 a.2.2]
def SU (ds : List D) : Mk × Pf × Int:=(RL (ds.getD 0 .top),YV (ds.getD 1 .top),uI (ds.getD 2 .top))
theorem AcU (a : Mk × Pf × Int) : SU (SV a) = a:=by simp [SU,SV,uI]
instance : Pn SV SU:=⟨AcU⟩
def ZY (b : OU × Mk) : D:=TZ b.1
def AdD (b : OU × Mk) : List D:=[Pl b.2]
noncomputable def ZZ : Dw.Spec:=OQ [(0,(2,91))] .val SV SU (fun a=>Th a.1 a.2.1 a.2.2) ZY AdD
theorem AcV : OP Tryz.prog 24 ZZ:=by
 refine fn2 3 (OW (l:=[(45,AbV),(21,Px),(46,Yf),(44,YT)]) (by simp [AfI,Pz,Aay,AaP])) Tryz.func24<|?_
 rintro ⟨c1,p2,i3⟩
 unfold Th
 refine A 11 ?_
 refine bD fun x_x4 hx_x4=>?_
 refine A 10 ?_
 refine bD fun r5 hr5=>?_
 refine A 10 ?_
 refine cK fun hq=>aP (([] : List Int)) (r5.Rename.To) OM r r r r r r r (by simp) r r r (by simp) r (fun _=>r) r hq<|?_
 refine A 2 ?_
 refine cK fun hq=>aP (([] : List Bool)) (r5.Rename.Keep) D.bool r r r r r r r (by simp) r r r (by simp) r (fun _=>r) r hq<|?_
 refine A 5 ?_
 refine sC (E:=fun (_s : (List Int) × Int × (List Int) × (List Bool)) (g : Nat × Nat × Nat × Nat × Nat)=>[(0,.optr 8192 0 0 0),(6,.optr 6 g.1 0 0),(7,.optr 7 g.2.1 0 0),(9,.optr 9 g.2.2.1 0 0)]) (O:=fun s g=>[(6,some (g.1,⟨false,true,2,33,[.agg [.nils,.nils]]⟩)),(7,some (g.2.1,⟨false,true,3,40,[.agg [.int .i64 x_x4.Params,.sl (x_x4.Slots.map OV),.sl (x_x4.Code.map OT)]]⟩)),(9,some (g.2.2.1,⟨false,true,2,33,[.agg [.osl 29 g.2.2.2.1 0 s.2.2.1.length,.osl 32 g.2.2.2.2 0 s.2.2.2.length]]⟩)),(29,some (g.2.2.2.1,⟨false,false,1,3,s.2.2.1.map OM⟩)),(32,some (g.2.2.2.2,⟨false,false,1,4,s.2.2.2.map D.bool⟩)),(8192,some (0,⟨false,true,2,91,[.agg [.sl (s.1.map eU8),.int .i64 s.2.1]]⟩))]) (j:=fun s=>QX x_x4 s.1 s.2.1 s.2.2.1 s.2.2.2) ?_ ?_
 ·refine A 3 ?_
  refine bD fun r10 hr10=>?_
  refine A 4 ?_
  refine cD r ?_ ?_
  ·refine A 7 ?_
   refine lP (E:=fun (s : (List Int) × Int) (g : Nat × Nat × Nat × Nat × Nat)=>[(0,.optr 8192 0 0 0),(6,.optr 6 g.1 0 0),(7,.optr 7 g.2.1 0 0),(9,.optr 9 g.2.2.1 0 0),(10,.int .i64 s.2)]) (O:=fun s g=>[(6,some (g.1,⟨false,true,2,33,[.agg [.nils,.nils]]⟩)),(7,some (g.2.1,⟨false,true,3,40,[.agg [.int .i64 x_x4.Params,.sl (x_x4.Slots.map OV),.sl (x_x4.Code.map OT)]]⟩)),(9,some (g.2.2.1,⟨false,true,2,33,[.agg [.osl 29 g.2.2.2.1 0 s.1.length,.osl 32 g.2.2.2.2 0 ((([] : List Bool) ++ r5.Rename.Keep).length)]]⟩)),(29,some (g.2.2.2.1,⟨false,false,1,3,s.1.map OM⟩)),(32,some (g.2.2.2.2,⟨false,false,1,4,(([] : List Bool) ++ r5.Rename.Keep).map D.bool⟩)),(8192,some (0,⟨false,true,2,91,[.agg [.sl (r10.2.list.map eU8),.int .i64 r10.2.at_]]⟩))]) (body:=fun s=>Tp x_x4 r10 r5 s.1 s.2) (s:=(([] : List Int) ++ r5.Rename.To,0)) (_,_,_,_,_) ((hE ⟨rfl,r,r,r,r,trivial⟩ ⟨rfl,r,r,r,r,r,trivial⟩))<|?_
   rintro ⟨x11,s12⟩ ⟨v6x1,v7x1,v9x1,v29x1,v32x1⟩ nn
   try dsimp only
   unfold Tp
   refine A 10 ?_
   refine cD r ?_ ?_
   ·refine A 10 ?_
    refine bD fun x_o13 hx_o13=>?_
    refine A 9 ?_
    exact xL (s:=(x11.set s12.toNat s12,IntKind.i64.wrap (s12 + 1))) (_,_,_,_,_) ((hE ⟨rfl,r,r,r,r,trivial⟩ ⟨rfl,r,(Eq.trans (b:=some (_,⟨false,true,2,33,[.agg [.osl 29 _ 0 x11.length,.osl 32 _ 0 ((([] : List Bool) ++ r5.Rename.Keep).length)]]⟩)) r (by simp)),r,r,r,trivial⟩))
   ·refine A 11 ?_
    refine lP (E:=fun (s : (List Bool) × Int) (g : Nat × Nat × Nat × Nat × Nat)=>[(0,.optr 8192 0 0 0),(6,.optr 6 g.1 0 0),(7,.optr 7 g.2.1 0 0),(9,.optr 9 g.2.2.1 0 0),(11,.int .i64 s.2)]) (O:=fun s g=>[(6,some (g.1,⟨false,true,2,33,[.agg [.nils,.nils]]⟩)),(7,some (g.2.1,⟨false,true,3,40,[.agg [.int .i64 x_x4.Params,.sl (x_x4.Slots.map OV),.sl (x_x4.Code.map OT)]]⟩)),(9,some (g.2.2.1,⟨false,true,2,33,[.agg [.osl 29 g.2.2.2.1 0 x11.length,.osl 32 g.2.2.2.2 0 s.1.length]]⟩)),(29,some (g.2.2.2.1,⟨false,false,1,3,x11.map OM⟩)),(32,some (g.2.2.2.2,⟨false,false,1,4,s.1.map D.bool⟩)),(8192,some (0,⟨false,true,2,91,[.agg [.sl (r10.2.list.map eU8),.int .i64 r10.2.at_]]⟩))]) (body:=fun s=>Tq x_x4 r10 x11 s.1 s.2) (s:=(([] : List Bool) ++ r5.Rename.Keep,0)) (_,_,_,_,_) ((hE ⟨rfl,r,r,r,r,trivial⟩ ⟨rfl,r,r,r,r,r,trivial⟩))<|?_
    rintro ⟨x14,k15⟩ ⟨v6x2,v7x2,v9x2,v29x2,v32x2⟩ nn
    try dsimp only
    unfold Tq
    refine A 10 ?_
    refine cD r ?_ ?_
    ·refine A 9 ?_
     refine bD fun x_o16 hx_o16=>?_
     refine A 9 ?_
     exact xL (s:=(x14.set k15.toNat true,IntKind.i64.wrap (k15 + 1))) (_,_,_,_,_) ((hE ⟨rfl,r,r,r,r,trivial⟩ ⟨rfl,r,(Eq.trans (b:=some (_,⟨false,true,2,33,[.agg [.osl 29 _ 0 x11.length,.osl 32 _ 0 x14.length]]⟩)) r (by simp)),r,r,r,trivial⟩))
    ·exact B
  ·exact B
 ·rintro ⟨c6,c7,x8,x9⟩ ⟨v6x3,v7x3,v9x3,v29x3,v32x3⟩ nn
  try dsimp only
  unfold QX
  refine A 4 ?_
  refine bD fun r17 hr17=>?_
  refine A 5 ?_
  refine lP (E:=fun (s : (List Int) × Int × (List Int) × (List Bool) × Int) (g : Nat × Nat × Nat × Nat × Nat)=>[(0,.optr 8192 0 0 0),(6,.optr 6 g.1 0 0),(7,.optr 7 g.2.1 0 0),(9,.optr 9 g.2.2.1 0 0),(12,.int .i64 s.2.2.2.2)]) (O:=fun s g=>[(6,some (g.1,⟨false,true,2,33,[.agg [.nils,.nils]]⟩)),(7,some (g.2.1,⟨false,true,3,40,[.agg [.int .i64 x_x4.Params,.sl (x_x4.Slots.map OV),.sl (x_x4.Code.map OT)]]⟩)),(9,some (g.2.2.1,⟨false,true,2,33,[.agg [.osl 29 g.2.2.2.1 0 s.2.2.1.length,.osl 32 g.2.2.2.2 0 s.2.2.2.1.length]]⟩)),(29,some (g.2.2.2.1,⟨false,false,1,3,s.2.2.1.map OM⟩)),(32,some (g.2.2.2.2,⟨false,false,1,4,s.2.2.2.1.map D.bool⟩)),(8192,some (0,⟨false,true,2,91,[.agg [.sl (s.1.map eU8),.int .i64 s.2.1]]⟩))]) (body:=fun s=>Ts x_x4 s.1 s.2.1 s.2.2.1 s.2.2.2.1 s.2.2.2.2) (s:=(r17.2.list,r17.2.at_,x8,x9,r17.1)) (_,_,_,_,_) ((hE ⟨rfl,r,r,r,r,trivial⟩ ⟨rfl,r,r,r,r,r,trivial⟩))<|?_
  rintro ⟨c18,c19,x20,x21,n22⟩ ⟨v6x4,v7x4,v9x4,v29x4,v32x4⟩ nn
  try dsimp only
  unfold Ts
  refine A 7 ?_
  refine cD r ?_ ?_
  ·refine A 2 ?_
   refine bC (E:=fun (_s : (List Int) × Int × (List Int) × (List Bool)) (g : Nat × Nat × Nat × Nat × Nat)=>[(0,.optr 8192 0 0 0),(6,.optr 6 g.1 0 0),(7,.optr 7 g.2.1 0 0),(9,.optr 9 g.2.2.1 0 0),(12,.int .i64 n22)]) (O:=fun s g=>[(6,some (g.1,⟨false,true,2,33,[.agg [.nils,.nils]]⟩)),(7,some (g.2.1,⟨false,true,3,40,[.agg [.int .i64 x_x4.Params,.sl (x_x4.Slots.map OV),.sl (x_x4.Code.map OT)]]⟩)),(9,some (g.2.2.1,⟨false,true,2,33,[.agg [.osl 29 g.2.2.2.1 0 s.2.2.1.length,.osl 32 g.2.2.2.2 0 s.2.2.2.length]]⟩)),(29,some (g.2.2.2.1,⟨false,false,1,3,s.2.2.1.map OM⟩)),(32,some (g.2.2.2.2,⟨false,false,1,4,s.2.2.2.map D.bool⟩)),(8192,some (0,⟨false,true,2,91,[.agg [.sl (s.1.map eU8),.int .i64 s.2.1]]⟩))]) (j:=fun s=>Pw n22 s.1 s.2.1 s.2.2.1 s.2.2.2) ?_ ?_
   ·refine A 6 ?_
    refine bD fun r27 hr27=>?_
    refine A 7 ?_
    refine bD fun r28 hr28=>?_
    refine A 4 ?_
    refine sC (E:=fun (s : Bool) (g : Nat × Nat × Nat × Nat × Nat)=>[(0,.optr 8192 0 0 0),(6,.optr 6 g.1 0 0),(7,.optr 7 g.2.1 0 0),(9,.optr 9 g.2.2.1 0 0),(12,.int .i64 n22),(13,.int .i64 r27.1),(72,.int .i64 r28.1),(73,.bool s)]) (O:=fun _ g=>[(6,some (g.1,⟨false,true,2,33,[.agg [.nils,.nils]]⟩)),(7,some (g.2.1,⟨false,true,3,40,[.agg [.int .i64 x_x4.Params,.sl (x_x4.Slots.map OV),.sl (x_x4.Code.map OT)]]⟩)),(9,some (g.2.2.1,⟨false,true,2,33,[.agg [.osl 29 g.2.2.2.1 0 x20.length,.osl 32 g.2.2.2.2 0 x21.length]]⟩)),(29,some (g.2.2.2.1,⟨false,false,1,3,x20.map OM⟩)),(32,some (g.2.2.2.2,⟨false,false,1,4,x21.map D.bool⟩)),(8192,some (0,⟨false,true,2,91,[.agg [.sl (r28.2.list.map eU8),.int .i64 r28.2.at_]]⟩))]) (j:=fun s=>QY x_x4 r27 x21 n22 x20 r28 s) ?_ ?_
    ·exact B
    ·rintro x29 ⟨v6x5,v7x5,v9x5,v29x5,v32x5⟩ nn
     try dsimp only
     unfold QY
     refine cD r ?_ ?_
     ·refine A 5 ?_
      refine bD fun x_x30 hx_x30=>?_
      refine A 6 ?_
      refine sC (E:=fun (s : (List Int) × Int × Bool) (g : Nat × Nat × Nat × Nat × Nat)=>[(0,.optr 8192 0 0 0),(6,.optr 6 g.1 0 0),(7,.optr 7 g.2.1 0 0),(9,.optr 9 g.2.2.1 0 0),(12,.int .i64 n22),(13,.int .i64 r27.1),(92,.bool s.2.2)]) (O:=fun s g=>[(6,some (g.1,⟨false,true,2,33,[.agg [.nils,.nils]]⟩)),(7,some (g.2.1,⟨false,true,3,40,[.agg [.int .i64 x_x4.Params,.sl (x_x4.Slots.map OV),.sl (x_x4.Code.map OT)]]⟩)),(9,some (g.2.2.1,⟨false,true,2,33,[.agg [.osl 29 g.2.2.2.1 0 x20.length,.osl 32 g.2.2.2.2 0 x21.length]]⟩)),(29,some (g.2.2.2.1,⟨false,false,1,3,x20.map OM⟩)),(32,some (g.2.2.2.2,⟨false,false,1,4,x21.map D.bool⟩)),(8192,some (0,⟨false,true,2,91,[.agg [.sl (s.1.map eU8),.int .i64 s.2.1]]⟩))]) (j:=fun s=>Qn r27 x21 n22 x20 s.1 s.2.1 s.2.2) ?_ ?_
      ·exact B
      ·rintro ⟨c31,c32,x33⟩ ⟨v6x6,v7x6,v9x6,v29x6,v32x6⟩ nn
       try dsimp only
       unfold Qn
       refine cD r ?_ ?_
       ·refine A 8 ?_
        refine bD fun x_e35 hx_e35=>?_
        refine A 3 ?_
        refine bD fun x_o36 hx_o36=>?_
        refine A 3 ?_
        exact UD (s:=(c31,c32,x20,x21.set r27.1.toNat (!x_e35))) (_,_,_,_,_) ((hE ⟨rfl,r,r,r,r,trivial⟩ ⟨rfl,r,(Eq.trans (b:=some (_,⟨false,true,2,33,[.agg [.osl 29 _ 0 x20.length,.osl 32 _ 0 x21.length]]⟩)) r (by simp)),r,r,r,trivial⟩))
       ·exact B
     ·refine A 6 ?_
      refine cD r ?_ ?_
      ·refine A 8 ?_
       refine cD r ?_ ?_
       ·refine A 6 ?_
        refine bD fun r37 hr37=>?_
        refine A 11 ?_
        refine bD fun r38 hr38=>?_
        refine A 2 ?_
        refine bD fun x_e39 hx_e39=>?_
        refine A 10 ?_
        refine lP (E:=fun (s : (List Int) × Int) (g : Nat × Nat × Nat × Nat × Nat)=>[(0,.optr 8192 0 0 0),(6,.optr 6 g.1 0 0),(7,.optr 7 g.2.1 0 0),(9,.optr 9 g.2.2.1 0 0),(12,.int .i64 n22),(15,.int .i64 r37.1),(16,.int .i64 x_e39),(17,.int .i64 s.2)]) (O:=fun s g=>[(6,some (g.1,⟨false,true,2,33,[.agg [.nils,.nils]]⟩)),(7,some (g.2.1,⟨false,true,3,40,[.agg [.int .i64 x_x4.Params,.sl (x_x4.Slots.map OV),.sl (x_x4.Code.map OT)]]⟩)),(9,some (g.2.2.1,⟨false,true,2,33,[.agg [.osl 29 g.2.2.2.1 0 s.1.length,.osl 32 g.2.2.2.2 0 x21.length]]⟩)),(29,some (g.2.2.2.1,⟨false,false,1,3,s.1.map OM⟩)),(32,some (g.2.2.2.2,⟨false,false,1,4,x21.map D.bool⟩)),(8192,some (0,⟨false,true,2,91,[.agg [.sl (r38.2.list.map eU8),.int .i64 r38.2.at_]]⟩))]) (body:=fun s=>Tt r37 x_e39 n22 r38 x21 s.1 s.2) (s:=(x20,0)) (_,_,_,_,_) ((hE ⟨rfl,r,r,r,r,r,r,r,trivial⟩ ⟨rfl,r,r,r,r,r,trivial⟩))<|?_
        rintro ⟨x40,u41⟩ ⟨v6x7,v7x7,v9x7,v29x7,v32x7⟩ nn
        try dsimp only
        unfold Tt
        refine A 10 ?_
        refine cD r ?_ ?_
        ·refine A 10 ?_
         refine bD fun x_e42 hx_e42=>?_
         refine A 5 ?_
         refine cD r ?_ ?_
         ·refine A 6 ?_
          refine bD fun x_o43 hx_o43=>?_
          refine A 9 ?_
          exact xL (s:=(x40.set u41.toNat x_e39,IntKind.i64.wrap (u41 + 1))) (_,_,_,_,_) ((hE ⟨rfl,r,r,r,r,r,r,r,trivial⟩ ⟨rfl,r,(Eq.trans (b:=some (_,⟨false,true,2,33,[.agg [.osl 29 _ 0 x40.length,.osl 32 _ 0 x21.length]]⟩)) r (by simp)),r,r,r,trivial⟩))
         ·exact B
        ·exact B
       ·exact B
      ·refine A 6 ?_
       refine cD r ?_ ?_
       ·refine sC (E:=fun (s : (List Int) × Int × Bool) (g : Nat × Nat × Nat × Nat × Nat)=>[(0,.optr 8192 0 0 0),(6,.optr 6 g.1 0 0),(7,.optr 7 g.2.1 0 0),(9,.optr 9 g.2.2.1 0 0),(12,.int .i64 n22),(151,.bool s.2.2)]) (O:=fun s g=>[(6,some (g.1,⟨false,true,2,33,[.agg [.nils,.nils]]⟩)),(7,some (g.2.1,⟨false,true,3,40,[.agg [.int .i64 x_x4.Params,.sl (x_x4.Slots.map OV),.sl (x_x4.Code.map OT)]]⟩)),(9,some (g.2.2.1,⟨false,true,2,33,[.agg [.osl 29 g.2.2.2.1 0 x20.length,.osl 32 g.2.2.2.2 0 x21.length]]⟩)),(29,some (g.2.2.2.1,⟨false,false,1,3,x20.map OM⟩)),(32,some (g.2.2.2.2,⟨false,false,1,4,x21.map D.bool⟩)),(8192,some (0,⟨false,true,2,91,[.agg [.sl (s.1.map eU8),.int .i64 s.2.1]]⟩))]) (j:=fun s=>QZ x_x4 x20 n22 x21 s.1 s.2.1 s.2.2) ?_ ?_
        ·exact B
        ·rintro ⟨c44,c45,x46⟩ ⟨v6x8,v7x8,v9x8,v29x8,v32x8⟩ nn
         try dsimp only
         unfold QZ
         refine cD r ?_ ?_
         ·refine A 7 ?_
          refine bD fun r48 hr48=>?_
          refine A 2 ?_
          refine bD fun r49 hr49=>?_
          refine A 2 ?_
          refine bD fun x_o50 hx_o50=>?_
          refine A 3 ?_
          exact UD (s:=(r49.2.list,r49.2.at_,x20.set r48.1.toNat r49.1,x21)) (_,_,_,_,_) ((hE ⟨rfl,r,r,r,r,trivial⟩ ⟨rfl,r,(Eq.trans (b:=some (_,⟨false,true,2,33,[.agg [.osl 29 _ 0 x20.length,.osl 32 _ 0 x21.length]]⟩)) r (by simp)),r,r,r,trivial⟩))
         ·exact B
       ·exact B
   ·rintro ⟨c23,c24,x25,x26⟩ ⟨v6x9,v7x9,v9x9,v29x9,v32x9⟩ nn
    try dsimp only
    unfold Pw
    exact B
  ·refine A 12 ?_
   refine Ug (b:=((OU.mk x20 x21),(Mk.mk c18 c19))) r ?_ r r ?_ (by first | rfl | (simp only [OH]; rfl) | (simp only [OI]; rfl) | (simp only [OH,OI]; rfl) | simp [ZY,TZ])
   all_goals first|(simp;done)|(simp;omega)|rfl|(simp [Pu,PA];done)

def Wo (a : (List Int)) : List D:=[.sl (a.map eU8)]
def Wn (ds : List D) : (List Int):=(uL uI) (ds.getD 0 .top)
theorem Acx (a : (List Int)) : Wn (Wo a) = a:=by simp [Wn,Wo,PN (u:=uI) (en:=eU8) (fun _=>rfl)]
instance : Pn Wo Wn:=⟨Acx⟩
def AhC (b : Pf × Int × OR × OU × Mk) : D:=.tup [Sj b.1,.int .i64 b.2.1,Qo b.2.2.1,TZ b.2.2.2.1,Pl b.2.2.2.2]
noncomputable def Adh : Dw.Spec:=OQ [] (.tupPtr 4 2 91) Wo Wn (fun a=>Yn a) AhC noE
theorem AgG : OP Tryz.prog 7 Adh:=by
 refine fn2 1 (OW (l:=[(19,AfU),(20,Zt),(21,Px),(22,Aav),(23,AaR),(24,ZZ)]) (by simp [AjD,Acv,Pz,AdC,AdL,AcV])) Tryz.func7<|?_
 intro codes1
 unfold Yn
 refine A 12 ?_
 refine bD fun r2 hr2=>?_
 refine A 7 ?_
 refine bD fun r3 hr3=>?_
 refine A 11 ?_
 refine bD fun r4 hr4=>?_
 refine A 10 ?_
 refine bD fun x_x5 hx_x5=>?_
 refine A 2 ?_
 refine bD fun r6 hr6=>?_
 refine A 5 ?_
 refine sC (E:=fun (_s : (List (List Int)) × (List Int) × Int) (g : Nat × Nat × Nat × Nat × Nat × Nat)=>[(2,.optr 2 g.1 0 0),(4,.optr 4 g.2.1 0 0),(5,.optr 5 g.2.2.1 0 0),(7,.optr 12 g.2.2.2.2.2 0 0),(8,.optr 8 g.2.2.2.1 0 0),(9,.int .i64 r4.1),(10,.optr 10 g.2.2.2.2.1 0 0)]) (O:=fun s g=>[(2,some (g.1,⟨false,true,1,26,[.agg [.nils]]⟩)),(4,some (g.2.1,⟨false,true,1,29,[.agg [.nils]]⟩)),(5,some (g.2.2.1,⟨false,true,2,33,[.agg [.nils,.nils]]⟩)),(8,some (g.2.2.2.1,⟨false,true,1,26,[.agg [.sl (r3.1.Funcs.map PS)]]⟩)),(10,some (g.2.2.2.2.1,⟨false,true,1,29,[.agg [.sl (s.1.map (eL OM))]]⟩)),(12,some (g.2.2.2.2.2,⟨false,true,2,91,[.agg [.sl (s.2.1.map eU8),.int .i64 s.2.2]]⟩))]) (j:=fun s=>TB r3 r4 s.1 s.2.1 s.2.2) ?_ ?_
 ·exact B
 ·rintro ⟨l7,x8,x9⟩ ⟨v2x1,v4x1,v5x1,v8x1,v10x1,v12x1⟩ nn
  try dsimp only
  unfold TB
  exact B

def Qd (a : (List Int)) : List D:=[.sl (a.map eU8)]
def Qc (ds : List D) : (List Int):=(uL uI) (ds.getD 0 .top)
theorem SZ (a : (List Int)) : Qc (Qd a) = a:=by simp [Qc,Qd,PN (u:=uI) (en:=eU8) (fun _=>rfl)]
instance : Pn Qd Qc:=⟨SZ⟩
def Yi (b : Bool) : D:=.bool b
noncomputable def Yj : Dw.Spec:=OQ [] .ground Qd Qc (fun a=>PT a) Yi noE
theorem Xh : OP Tryz.prog 3 Yj:=by
 refine fn2 1 (OW (l:=[(6,Adg),(7,Adh),(8,YW),(9,VR)]) (by simp [AgF,AgG,AaV,Xx])) Tryz.func3<|?_
 intro codes1
 unfold PT
 refine A 8 ?_
 refine bD fun r2 hr2=>?_
 refine A 4 ?_
 refine cD r ?_ ?_
 ·exact B
 ·refine A 5 ?_
  refine bD fun r3 hr3=>Agr (rs:=[Sj r3.1,.int .i64 r3.2.1,Qo r3.2.2.1,TZ r3.2.2.2.1,Pl r3.2.2.2.2]) (z:=Pl r3.2.2.2.2) codes1 r r r Acx r r (by simp) r hr3 r r<|?_
  exact B

end Go.Proofs.YtpagjjmondojpaaGreatDoor
