/-
  Programs on typed data, and the proofs that the code does what they say; written by a program (dx.py).
-/
import Derived.Test.YtpagjjmondojpaaGreatDoorProg
import Derived.Test.YtpagjjmondojpaaGreatDoorDc
import Derived.Test.YtpagjjmondojpaaGreatDoorDd
import Derived.KernelRfl
import Derived.Test.YtpagjjmondojpaaGreatDoorDxP
import Derived.Test.YtpagjjmondojpaaGreatDoorDxF2
import Derived.Test.YtpagjjmondojpaaGreatDoorDxF3
import Derived.Test.YtpagjjmondojpaaGreatDoorDxF4
namespace Go.Proofs.YtpagjjmondojpaaGreatDoor
open Go Go.Dw Go.Proofs
set_option maxRecDepth 100000
set_option maxHeartbeats 4000000
open Go.Dw renaming QG → bD,PA → cK,AbX → bS,Aby → aP,Abz → cD,AdC → xL,Zw → hE,Adi → lP,Aaj → sC,Yo → bC,rf → r
def AjR (b : Pf) : D:=Ss b
noncomputable def AeM : Dw.Spec:=OT [] .val TA Tz (fun a=>Abs a.1 a.2.1 a.2.2) AjR noE
theorem AiR : OR Tryz.prog 79 AeM:=by
 refine fn2 3 (OX (l:=[(14,Acp)]) (by simp [Agl])) Tryz.func79<|?_
 intro a
 unfold Abs
 exact B

def Aik (b : Int) : D:=.int .i64 b
noncomputable def AdI : Dw.Spec:=OT [] .ground Tp Tn (fun a=>YB a) Aik noE
theorem Ahq : OR Tryz.prog 108 AdI:=by
 refine fn2 1 (OX (l:=[(100,Abe)]) (by simp [AcY])) Tryz.func108<|?_
 intro s1
 unfold YB
 refine A 14 ?_
 refine bD fun r2 hr2=>?_
 refine A 4 ?_
 refine cD r ?_ ?_
 ·exact B
 ·refine A 9 ?_
  refine lP (E:=fun (s : Int × Int) (_g : Unit)=>[(0,.sl (s1.map OV)),(3,.int .i64 s.1),(4,.int .i64 s.2)]) (O:=fun _ _=>[]) (body:=fun s=>Xz s1 s.1 s.2) (s:=(16,0)) () ((hE ⟨rfl,r,r,trivial⟩ trivial))<|?_
  rintro ⟨a3,i4⟩ ⟨⟩ nn
  try dsimp only
  unfold Xz
  exact B

def WL (a : Pf) : List D:=[Ss a]
def WK (ds : List D) : Pf:=Zm (ds.getD 0 .top)
theorem Ahv (a : Pf) : WK (WL a) = a:=by simp [WK,WL]
instance : Pn WL WK:=⟨Ahv⟩
def Aiv (b : Int) : D:=.int .i64 b
noncomputable def AdL : Dw.Spec:=OT [] .ground WL WK (fun a=>YD a) Aiv noE
theorem Ahw : OR Tryz.prog 80 AdL:=by
 refine fn2 1 (OX (l:=[(108,AdI)]) (by simp [Ahq])) Tryz.func80<|?_
 intro p1
 unfold YD
 refine A 18 ?_
 refine lP (E:=fun (s : Int × Int) (g : Nat)=>[(1,.optr 1 g 0 0),(3,.int .i64 s.1),(4,.int .i64 s.2)]) (O:=fun _ g=>[(1,some (g,⟨false,true,1,26,[.agg [.sl (p1.Funcs.map PO)]]⟩))]) (body:=fun s=>XG p1 s.1 s.2) (s:=(16,0)) _ ((hE ⟨rfl,r,r,trivial⟩ ⟨rfl,trivial⟩))<|?_
 rintro ⟨a2,i3⟩ v1x1 nn
 try dsimp only
 unfold XG
 exact B

def Zf (a : (List Pb) × (List Int)) : List D:=[.sl (a.1.map OV),.sl (a.2.map OK)]
def Ze (ds : List D) : (List Pb) × (List Int):=((uL Zh) (ds.getD 0 .top),(uL uI) (ds.getD 1 .top))
theorem AjO (a : (List Pb) × (List Int)) : Ze (Zf a) = a:=by simp [Ze,Zf,PQ (u:=Zh) (en:=OV) AeW,PQ (u:=uI) (en:=OK) (fun _=>rfl)]
instance : Pn Zf Ze:=⟨AjO⟩
def Aku (b : Int) : D:=.int .i64 b
noncomputable def AfI : Dw.Spec:=OT [] .ground Zf Ze (fun a=>Abb a.1 a.2) Aku noE
theorem AjP : OR Tryz.prog 107 AfI:=by
 refine fn2 2 (Pm) Tryz.func107<|?_
 rintro ⟨s1,off2⟩
 unfold Abb
 refine A 17 ?_
 refine lP (E:=fun (s : Int × Int) (_g : Unit)=>[(0,.sl (s1.map OV)),(1,.sl (off2.map OK)),(5,.int .i64 s.1),(6,.int .i64 s.2)]) (O:=fun _ _=>[]) (body:=fun s=>Aae s1 off2 s.1 s.2) (s:=(0,0)) () ((hE ⟨rfl,r,r,r,trivial⟩ trivial))<|?_
 rintro ⟨n3,i4⟩ ⟨⟩ nn
 try dsimp only
 unfold Aae
 refine sC (E:=fun (_s : Unit) (_g : Unit)=>[(0,.sl (s1.map OV)),(1,.sl (off2.map OK)),(5,.int .i64 n3),(6,.int .i64 i4),(12,.int .i64 i4),(13,.sl (off2.map OK)),(14,.int .i64 (off2.length : Int)),(15,.bool (decide (i4 < (off2.length : Int))))]) (O:=fun _ _=>[]) (j:=fun _=>Aaf off2 i4 s1 n3) ?_ ?_
 ·exact B
 ·rintro ⟨⟩ ⟨⟩ nn
  try dsimp only
  unfold Aaf
  exact B

def Wa (a : Pf × Int × Int × (List Int)) : List D:=[Ss a.1,.int .i64 a.2.1,.int .i64 a.2.2.1,.sl (a.2.2.2.map OK)]
def VZ (ds : List D) : Pf × Int × Int × (List Int):=(Zm (ds.getD 0 .top),uI (ds.getD 1 .top),uI (ds.getD 2 .top),(uL uI) (ds.getD 3 .top))
theorem AgU (a : Pf × Int × Int × (List Int)) : VZ (Wa a) = a:=by simp [VZ,Wa,uI,PQ (u:=uI) (en:=OK) (fun _=>rfl)]
instance : Pn Wa VZ:=⟨AgU⟩
def TR (b : QI × Int) : D:=.tup [Zv b.1,.int .i64 b.2]
noncomputable def Adh : Dw.Spec:=OT [] .val Wa VZ (fun a=>Xq a.1 a.2.1 a.2.2.1 a.2.2.2) TR noE
theorem AgV : OR Tryz.prog 78 Adh:=by
 refine fn2 4 (OX (l:=[(105,YT),(77,AbS),(107,AfI),(106,Ady)]) (by simp [AaC,AdY,AjP,AfG])) Tryz.func78<|?_
 rintro ⟨p1,i2,align3,off4⟩
 unfold Xq
 refine A 12 ?_
 refine bD fun x_x5 hx_x5=>?_
 refine A 16 ?_
 refine cD r ?_ ?_
 ·refine A 9 ?_
  refine UY (b:=((QI.mk 0 0 ([])),13)) r ?_ r r ?_ (by first | rfl | (simp only [OH]; rfl) | (simp only [OI]; rfl) | (simp only [OH,OI]; rfl) | simp [TR,Zv]) (by decide)
  all_goals first|(simp;done)|(simp;omega)|rfl|(simp [Pv,PD];done)
 ·refine A 9 ?_
  refine lP (E:=fun (s : Int) (g : Nat × Nat)=>[(1,.int .i64 i2),(2,.int .i64 align3),(3,.sl (off4.map OK)),(4,.optr 4 g.1 0 0),(8,.optr 8 g.2 0 0),(10,.sl (x_x5.Slots.map OV)),(11,.int .i64 s)]) (O:=fun _ g=>[(4,some (g.1,⟨false,true,1,26,[.agg [.sl (p1.Funcs.map PO)]]⟩)),(8,some (g.2,⟨false,true,3,95,[.agg [.int .i64 0,.int .i64 0,.nils]]⟩))]) (body:=fun s=>WZ x_x5 off4 p1 i2 align3 s) (s:=0) (_,_) ((hE ⟨rfl,r,r,r,r,r,r,trivial⟩ ⟨rfl,r,trivial⟩))<|?_
  rintro k6 ⟨v4x1,v8x1⟩ nn
  try dsimp only
  unfold WZ
  refine A 9 ?_
  refine cD r ?_ ?_
  ·refine A 8 ?_
   refine bD fun x_x7 hx_x7=>?_
   refine A 4 ?_
   refine bD fun x_x8 hx_x8=>?_
   refine A 4 ?_
   refine bD fun r9 hr9=>?_
   refine A 4 ?_
   refine cD r ?_ ?_
   ·refine A 13 ?_
    refine UY (b:=((QI.mk 0 0 ([])),13)) r ?_ r r ?_ (by first | rfl | (simp only [OH]; rfl) | (simp only [OI]; rfl) | (simp only [OH,OI]; rfl) | simp [TR,Zv]) (by decide)
    all_goals first|(simp;done)|(simp;omega)|rfl|(simp [Pv,PD];done)
   ·exact B
  ·refine A 9 ?_
   refine bD fun r10 hr10=>?_
   refine A 9 ?_
   refine bD fun r11 hr11=>?_
   refine A 3 ?_
   refine bD fun r12 hr12=>?_
   refine A 14 ?_
   refine Abw r ?_ ?_
   ·refine A 15 ?_
    refine UY (b:=((QI.mk 0 0 ([])),9)) r ?_ r r ?_ (by first | rfl | (simp only [OH]; rfl) | (simp only [OI]; rfl) | (simp only [OH,OI]; rfl) | simp [TR,Zv]) (by decide)
    all_goals first|(simp;done)|(simp;omega)|rfl|(simp [Pv,PD];done)
   ·refine A 5 ?_
    refine cD r ?_ ?_
    ·refine A 9 ?_
     refine UY (b:=((QI.mk 0 0 ([])),9)) r ?_ r r ?_ (by first | rfl | (simp only [OH]; rfl) | (simp only [OI]; rfl) | (simp only [OH,OI]; rfl) | simp [TR,Zv]) (by decide)
     all_goals first|(simp;done)|(simp;omega)|rfl|(simp [Pv,PD];done)
    ·refine A 7 ?_
     refine cK fun hq=>aP (([] : List Int)) (off4) OK r r r r r r r (by simp) r r r (by simp) r (fun _=>r) r hq<|?_
     refine A 6 ?_
     refine UY (b:=((QI.mk r10 r12.1 (([] : List Int) ++ off4)),0)) r ?_ r r ?_ (by first | rfl | (simp only [OH]; rfl) | (simp only [OI]; rfl) | (simp only [OH,OI]; rfl) | simp [TR,Zv]) (by decide)
     all_goals first|(simp;done)|(simp;omega)|rfl|(simp [Pv,PD];done)

def Aag (b : SU) : D:=AaR b
noncomputable def Acr : Dw.Spec:=OT [] .val VE VD (fun a=>Wn a.1 a.2) Aag noE
theorem Agq : OR Tryz.prog 45 Acr:=by
 refine fn2 2 (OX (l:=[(9,YW),(72,AdQ),(73,Acn),(74,AeJ),(13,AdV),(75,Adb),(77,AbS),(76,Adf),(79,AeM),(80,AdL),(78,Adh)]) (by simp [AaG,AhB,Agj,AiK,AhI,AgK,AdY,AgR,AiR,Ahw,AgV])) Tryz.func45<|?_
 rintro ⟨p1,i2⟩
 unfold Wn
 refine A 11 ?_
 refine bD fun x_x3 hx_x3=>?_
 refine A 9 ?_
 refine bD fun r4 hr4=>?_
 refine A 11 ?_
 refine bD fun r5 hr5=>?_
 refine A 12 ?_
 refine bD fun r6 hr6=>?_
 refine A 14 ?_
 refine bD fun r7 hr7=>?_
 refine A 11 ?_
 refine bD fun r8 hr8=>?_
 refine A 12 ?_
 refine bD fun r9 hr9=>?_
 refine A 10 ?_
 refine bD fun r10 hr10=>?_
 refine A 15 ?_
 refine bD fun r11 hr11=>?_
 refine A 1 ?_
 refine bD fun r12 hr12=>?_
 refine A 15 ?_
 refine cD r ?_ ?_
 ·refine A 8 ?_
  refine Uq (b:=(SU.mk r4 (OP.mk r6 r7) r9 (QI.mk 0 0 ([])))) r ?_ r r ?_ (by first | rfl | (simp only [OH]; rfl) | (simp only [OI]; rfl) | (simp only [OH,OI]; rfl) | simp [Aag,AaR])
  all_goals first|(simp;done)|(simp;omega)|rfl|(simp [Pv,PD];done)
 ·refine A 7 ?_
  refine bD fun r13 hr13=>?_
  refine A 3 ?_
  refine bD fun r14 hr14=>?_
  refine A 2 ?_
  refine bD fun r15 hr15=>?_
  refine A 15 ?_
  refine Uq (b:=(SU.mk r4 (OP.mk r6 r7) r9 r15.1)) r ?_ r r ?_ (by first | rfl | (simp only [OH]; rfl) | (simp only [OI]; rfl) | (simp only [OH,OI]; rfl) | simp [Aag,AaR])
  all_goals first|(simp;done)|(simp;omega)|rfl|(simp [Pv,PD];done)

def Ti (a : Mk × Pf × Int) : List D:=[Pl a.1,Ss a.2.1,.int .i64 a.2.2]
def Th (ds : List D) : Mk × Pf × Int:=(RN (ds.getD 0 .top),Zm (ds.getD 1 .top),uI (ds.getD 2 .top))
theorem Adv (a : Mk × Pf × Int) : Th (Ti a) = a:=by simp [Th,Ti,uI]
instance : Pn Ti Th:=⟨Adv⟩
def Aap (b : OP × Mk) : D:=RD b.1
def Aec (b : OP × Mk) : List D:=[Pl b.2]
noncomputable def Aaq : Dw.Spec:=OT [(0,(2,91))] .val Ti Th (fun a=>Tw a.1 a.2.1 a.2.2) Aap Aec
theorem Adw : OR Tryz.prog 24 Aaq:=by
 refine fn2 3 (OX (l:=[(45,Acr),(21,Pz),(46,Ys),(44,Zj)]) (by simp [Agq,PC,AaQ,Abi])) Tryz.func24<|?_
 rintro ⟨c1,p2,i3⟩
 unfold Tw
 refine A 11 ?_
 refine bD fun x_x4 hx_x4=>?_
 refine A 10 ?_
 refine bD fun r5 hr5=>?_
 refine A 10 ?_
 refine cK fun hq=>aP (([] : List Int)) (r5.Rename.To) OK r r r r r r r (by simp) r r r (by simp) r (fun _=>r) r hq<|?_
 refine A 2 ?_
 refine cK fun hq=>aP (([] : List Bool)) (r5.Rename.Keep) D.bool r r r r r r r (by simp) r r r (by simp) r (fun _=>r) r hq<|?_
 refine A 5 ?_
 refine sC (E:=fun (_s : (List Int) × Int × (List Int) × (List Bool)) (g : Nat × Nat × Nat × Nat × Nat)=>[(0,.optr 8192 0 0 0),(6,.optr 6 g.1 0 0),(7,.optr 7 g.2.1 0 0),(9,.optr 9 g.2.2.1 0 0)]) (O:=fun s g=>[(6,some (g.1,⟨false,true,2,33,[.agg [.nils,.nils]]⟩)),(7,some (g.2.1,⟨false,true,3,40,[.agg [.int .i64 x_x4.Params,.sl (x_x4.Slots.map OV),.sl (x_x4.Code.map OU)]]⟩)),(9,some (g.2.2.1,⟨false,true,2,33,[.agg [.osl 29 g.2.2.2.1 0 s.2.2.1.length,.osl 32 g.2.2.2.2 0 s.2.2.2.length]]⟩)),(29,some (g.2.2.2.1,⟨false,false,1,3,s.2.2.1.map OK⟩)),(32,some (g.2.2.2.2,⟨false,false,1,4,s.2.2.2.map D.bool⟩)),(8192,some (0,⟨false,true,2,91,[.agg [.sl (s.1.map eU8),.int .i64 s.2.1]]⟩))]) (j:=fun s=>Rb x_x4 s.1 s.2.1 s.2.2.1 s.2.2.2) ?_ ?_
 ·refine A 3 ?_
  refine bD fun r10 hr10=>?_
  refine A 4 ?_
  refine cD r ?_ ?_
  ·refine A 7 ?_
   refine lP (E:=fun (s : (List Int) × Int) (g : Nat × Nat × Nat × Nat × Nat)=>[(0,.optr 8192 0 0 0),(6,.optr 6 g.1 0 0),(7,.optr 7 g.2.1 0 0),(9,.optr 9 g.2.2.1 0 0),(10,.int .i64 s.2)]) (O:=fun s g=>[(6,some (g.1,⟨false,true,2,33,[.agg [.nils,.nils]]⟩)),(7,some (g.2.1,⟨false,true,3,40,[.agg [.int .i64 x_x4.Params,.sl (x_x4.Slots.map OV),.sl (x_x4.Code.map OU)]]⟩)),(9,some (g.2.2.1,⟨false,true,2,33,[.agg [.osl 29 g.2.2.2.1 0 s.1.length,.osl 32 g.2.2.2.2 0 ((([] : List Bool) ++ r5.Rename.Keep).length)]]⟩)),(29,some (g.2.2.2.1,⟨false,false,1,3,s.1.map OK⟩)),(32,some (g.2.2.2.2,⟨false,false,1,4,(([] : List Bool) ++ r5.Rename.Keep).map D.bool⟩)),(8192,some (0,⟨false,true,2,91,[.agg [.sl (r10.2.list.map eU8),.int .i64 r10.2.at_]]⟩))]) (body:=fun s=>TC x_x4 r10 r5 s.1 s.2) (s:=(([] : List Int) ++ r5.Rename.To,0)) (_,_,_,_,_) ((hE ⟨rfl,r,r,r,r,trivial⟩ ⟨rfl,r,r,r,r,r,trivial⟩))<|?_
   rintro ⟨x11,s12⟩ ⟨v6x1,v7x1,v9x1,v29x1,v32x1⟩ nn
   try dsimp only
   unfold TC
   refine A 10 ?_
   refine cD r ?_ ?_
   ·refine A 10 ?_
    refine bD fun x_o13 hx_o13=>?_
    refine A 9 ?_
    exact xL (s:=(x11.set s12.toNat s12,IntKind.i64.wrap (s12 + 1))) (_,_,_,_,_) ((hE ⟨rfl,r,r,r,r,trivial⟩ ⟨rfl,r,(Eq.trans (b:=some (_,⟨false,true,2,33,[.agg [.osl 29 _ 0 x11.length,.osl 32 _ 0 ((([] : List Bool) ++ r5.Rename.Keep).length)]]⟩)) r (by simp)),r,r,r,trivial⟩))
   ·refine A 11 ?_
    refine lP (E:=fun (s : (List Bool) × Int) (g : Nat × Nat × Nat × Nat × Nat)=>[(0,.optr 8192 0 0 0),(6,.optr 6 g.1 0 0),(7,.optr 7 g.2.1 0 0),(9,.optr 9 g.2.2.1 0 0),(11,.int .i64 s.2)]) (O:=fun s g=>[(6,some (g.1,⟨false,true,2,33,[.agg [.nils,.nils]]⟩)),(7,some (g.2.1,⟨false,true,3,40,[.agg [.int .i64 x_x4.Params,.sl (x_x4.Slots.map OV),.sl (x_x4.Code.map OU)]]⟩)),(9,some (g.2.2.1,⟨false,true,2,33,[.agg [.osl 29 g.2.2.2.1 0 x11.length,.osl 32 g.2.2.2.2 0 s.1.length]]⟩)),(29,some (g.2.2.2.1,⟨false,false,1,3,x11.map OK⟩)),(32,some (g.2.2.2.2,⟨false,false,1,4,s.1.map D.bool⟩)),(8192,some (0,⟨false,true,2,91,[.agg [.sl (r10.2.list.map eU8),.int .i64 r10.2.at_]]⟩))]) (body:=fun s=>TD x_x4 r10 x11 s.1 s.2) (s:=(([] : List Bool) ++ r5.Rename.Keep,0)) (_,_,_,_,_) ((hE ⟨rfl,r,r,r,r,trivial⟩ ⟨rfl,r,r,r,r,r,trivial⟩))<|?_
    rintro ⟨x14,k15⟩ ⟨v6x2,v7x2,v9x2,v29x2,v32x2⟩ nn
    try dsimp only
    unfold TD
    refine A 10 ?_
    refine cD r ?_ ?_
    ·refine A 9 ?_
     refine bD fun x_o16 hx_o16=>?_
     refine A 9 ?_
     exact xL (s:=(x14.set k15.toNat true,IntKind.i64.wrap (k15 + 1))) (_,_,_,_,_) ((hE ⟨rfl,r,r,r,r,trivial⟩ ⟨rfl,r,(Eq.trans (b:=some (_,⟨false,true,2,33,[.agg [.osl 29 _ 0 x11.length,.osl 32 _ 0 x14.length]]⟩)) r (by simp)),r,r,r,trivial⟩))
    ·exact B
  ·exact B
 ·rintro ⟨c6,c7,x8,x9⟩ ⟨v6x3,v7x3,v9x3,v29x3,v32x3⟩ nn
  try dsimp only
  unfold Rb
  refine A 4 ?_
  refine bD fun r17 hr17=>?_
  refine A 5 ?_
  refine lP (E:=fun (s : (List Int) × Int × (List Int) × (List Bool) × Int) (g : Nat × Nat × Nat × Nat × Nat)=>[(0,.optr 8192 0 0 0),(6,.optr 6 g.1 0 0),(7,.optr 7 g.2.1 0 0),(9,.optr 9 g.2.2.1 0 0),(12,.int .i64 s.2.2.2.2)]) (O:=fun s g=>[(6,some (g.1,⟨false,true,2,33,[.agg [.nils,.nils]]⟩)),(7,some (g.2.1,⟨false,true,3,40,[.agg [.int .i64 x_x4.Params,.sl (x_x4.Slots.map OV),.sl (x_x4.Code.map OU)]]⟩)),(9,some (g.2.2.1,⟨false,true,2,33,[.agg [.osl 29 g.2.2.2.1 0 s.2.2.1.length,.osl 32 g.2.2.2.2 0 s.2.2.2.1.length]]⟩)),(29,some (g.2.2.2.1,⟨false,false,1,3,s.2.2.1.map OK⟩)),(32,some (g.2.2.2.2,⟨false,false,1,4,s.2.2.2.1.map D.bool⟩)),(8192,some (0,⟨false,true,2,91,[.agg [.sl (s.1.map eU8),.int .i64 s.2.1]]⟩))]) (body:=fun s=>TE x_x4 s.1 s.2.1 s.2.2.1 s.2.2.2.1 s.2.2.2.2) (s:=(r17.2.list,r17.2.at_,x8,x9,r17.1)) (_,_,_,_,_) ((hE ⟨rfl,r,r,r,r,trivial⟩ ⟨rfl,r,r,r,r,r,trivial⟩))<|?_
  rintro ⟨c18,c19,x20,x21,n22⟩ ⟨v6x4,v7x4,v9x4,v29x4,v32x4⟩ nn
  try dsimp only
  unfold TE
  refine A 7 ?_
  refine cD r ?_ ?_
  ·refine A 2 ?_
   refine bC (E:=fun (_s : (List Int) × Int × (List Int) × (List Bool)) (g : Nat × Nat × Nat × Nat × Nat)=>[(0,.optr 8192 0 0 0),(6,.optr 6 g.1 0 0),(7,.optr 7 g.2.1 0 0),(9,.optr 9 g.2.2.1 0 0),(12,.int .i64 n22)]) (O:=fun s g=>[(6,some (g.1,⟨false,true,2,33,[.agg [.nils,.nils]]⟩)),(7,some (g.2.1,⟨false,true,3,40,[.agg [.int .i64 x_x4.Params,.sl (x_x4.Slots.map OV),.sl (x_x4.Code.map OU)]]⟩)),(9,some (g.2.2.1,⟨false,true,2,33,[.agg [.osl 29 g.2.2.2.1 0 s.2.2.1.length,.osl 32 g.2.2.2.2 0 s.2.2.2.length]]⟩)),(29,some (g.2.2.2.1,⟨false,false,1,3,s.2.2.1.map OK⟩)),(32,some (g.2.2.2.2,⟨false,false,1,4,s.2.2.2.map D.bool⟩)),(8192,some (0,⟨false,true,2,91,[.agg [.sl (s.1.map eU8),.int .i64 s.2.1]]⟩))]) (j:=fun s=>Py n22 s.1 s.2.1 s.2.2.1 s.2.2.2) ?_ ?_
   ·refine A 6 ?_
    refine bD fun r27 hr27=>?_
    refine A 7 ?_
    refine bD fun r28 hr28=>?_
    refine A 4 ?_
    refine sC (E:=fun (s : Bool) (g : Nat × Nat × Nat × Nat × Nat)=>[(0,.optr 8192 0 0 0),(6,.optr 6 g.1 0 0),(7,.optr 7 g.2.1 0 0),(9,.optr 9 g.2.2.1 0 0),(12,.int .i64 n22),(13,.int .i64 r27.1),(72,.int .i64 r28.1),(73,.bool s)]) (O:=fun _ g=>[(6,some (g.1,⟨false,true,2,33,[.agg [.nils,.nils]]⟩)),(7,some (g.2.1,⟨false,true,3,40,[.agg [.int .i64 x_x4.Params,.sl (x_x4.Slots.map OV),.sl (x_x4.Code.map OU)]]⟩)),(9,some (g.2.2.1,⟨false,true,2,33,[.agg [.osl 29 g.2.2.2.1 0 x20.length,.osl 32 g.2.2.2.2 0 x21.length]]⟩)),(29,some (g.2.2.2.1,⟨false,false,1,3,x20.map OK⟩)),(32,some (g.2.2.2.2,⟨false,false,1,4,x21.map D.bool⟩)),(8192,some (0,⟨false,true,2,91,[.agg [.sl (r28.2.list.map eU8),.int .i64 r28.2.at_]]⟩))]) (j:=fun s=>Rc x_x4 r27 x21 n22 x20 r28 s) ?_ ?_
    ·exact B
    ·rintro x29 ⟨v6x5,v7x5,v9x5,v29x5,v32x5⟩ nn
     try dsimp only
     unfold Rc
     refine cD r ?_ ?_
     ·refine A 5 ?_
      refine bD fun x_x30 hx_x30=>?_
      refine A 6 ?_
      refine sC (E:=fun (s : (List Int) × Int × Bool) (g : Nat × Nat × Nat × Nat × Nat)=>[(0,.optr 8192 0 0 0),(6,.optr 6 g.1 0 0),(7,.optr 7 g.2.1 0 0),(9,.optr 9 g.2.2.1 0 0),(12,.int .i64 n22),(13,.int .i64 r27.1),(92,.bool s.2.2)]) (O:=fun s g=>[(6,some (g.1,⟨false,true,2,33,[.agg [.nils,.nils]]⟩)),(7,some (g.2.1,⟨false,true,3,40,[.agg [.int .i64 x_x4.Params,.sl (x_x4.Slots.map OV),.sl (x_x4.Code.map OU)]]⟩)),(9,some (g.2.2.1,⟨false,true,2,33,[.agg [.osl 29 g.2.2.2.1 0 x20.length,.osl 32 g.2.2.2.2 0 x21.length]]⟩)),(29,some (g.2.2.2.1,⟨false,false,1,3,x20.map OK⟩)),(32,some (g.2.2.2.2,⟨false,false,1,4,x21.map D.bool⟩)),(8192,some (0,⟨false,true,2,91,[.agg [.sl (s.1.map eU8),.int .i64 s.2.1]]⟩))]) (j:=fun s=>Qp r27 x21 n22 x20 s.1 s.2.1 s.2.2) ?_ ?_
      ·exact B
      ·rintro ⟨c31,c32,x33⟩ ⟨v6x6,v7x6,v9x6,v29x6,v32x6⟩ nn
       try dsimp only
       unfold Qp
       refine cD r ?_ ?_
       ·refine A 8 ?_
        refine bD fun x_e35 hx_e35=>?_
        refine A 3 ?_
        refine bD fun x_o36 hx_o36=>?_
        refine A 3 ?_
        exact UO (s:=(c31,c32,x20,x21.set r27.1.toNat (!x_e35))) (_,_,_,_,_) ((hE ⟨rfl,r,r,r,r,trivial⟩ ⟨rfl,r,(Eq.trans (b:=some (_,⟨false,true,2,33,[.agg [.osl 29 _ 0 x20.length,.osl 32 _ 0 x21.length]]⟩)) r (by simp)),r,r,r,trivial⟩))
       ·exact B
     ·refine A 6 ?_
      refine cD r ?_ ?_
      ·refine A 8 ?_
       refine cD r ?_ ?_
       ·refine A 6 ?_
        refine bD fun r37 hr37=>?_
        refine A 11 ?_
        refine bD fun r38 hr38=>?_
        refine A 2 ?_
        refine bD fun x_e39 hx_e39=>?_
        refine A 10 ?_
        refine lP (E:=fun (s : (List Int) × Int) (g : Nat × Nat × Nat × Nat × Nat)=>[(0,.optr 8192 0 0 0),(6,.optr 6 g.1 0 0),(7,.optr 7 g.2.1 0 0),(9,.optr 9 g.2.2.1 0 0),(12,.int .i64 n22),(15,.int .i64 r37.1),(16,.int .i64 x_e39),(17,.int .i64 s.2)]) (O:=fun s g=>[(6,some (g.1,⟨false,true,2,33,[.agg [.nils,.nils]]⟩)),(7,some (g.2.1,⟨false,true,3,40,[.agg [.int .i64 x_x4.Params,.sl (x_x4.Slots.map OV),.sl (x_x4.Code.map OU)]]⟩)),(9,some (g.2.2.1,⟨false,true,2,33,[.agg [.osl 29 g.2.2.2.1 0 s.1.length,.osl 32 g.2.2.2.2 0 x21.length]]⟩)),(29,some (g.2.2.2.1,⟨false,false,1,3,s.1.map OK⟩)),(32,some (g.2.2.2.2,⟨false,false,1,4,x21.map D.bool⟩)),(8192,some (0,⟨false,true,2,91,[.agg [.sl (r38.2.list.map eU8),.int .i64 r38.2.at_]]⟩))]) (body:=fun s=>TF r37 x_e39 n22 r38 x21 s.1 s.2) (s:=(x20,0)) (_,_,_,_,_) ((hE ⟨rfl,r,r,r,r,r,r,r,trivial⟩ ⟨rfl,r,r,r,r,r,trivial⟩))<|?_
        rintro ⟨x40,u41⟩ ⟨v6x7,v7x7,v9x7,v29x7,v32x7⟩ nn
        try dsimp only
        unfold TF
        refine A 10 ?_
        refine cD r ?_ ?_
        ·refine A 10 ?_
         refine bD fun x_e42 hx_e42=>?_
         refine A 5 ?_
         refine cD r ?_ ?_
         ·refine A 6 ?_
          refine bD fun x_o43 hx_o43=>?_
          refine A 9 ?_
          exact xL (s:=(x40.set u41.toNat x_e39,IntKind.i64.wrap (u41 + 1))) (_,_,_,_,_) ((hE ⟨rfl,r,r,r,r,r,r,r,trivial⟩ ⟨rfl,r,(Eq.trans (b:=some (_,⟨false,true,2,33,[.agg [.osl 29 _ 0 x40.length,.osl 32 _ 0 x21.length]]⟩)) r (by simp)),r,r,r,trivial⟩))
         ·exact B
        ·exact B
       ·exact B
      ·refine A 6 ?_
       refine cD r ?_ ?_
       ·refine sC (E:=fun (s : (List Int) × Int × Bool) (g : Nat × Nat × Nat × Nat × Nat)=>[(0,.optr 8192 0 0 0),(6,.optr 6 g.1 0 0),(7,.optr 7 g.2.1 0 0),(9,.optr 9 g.2.2.1 0 0),(12,.int .i64 n22),(151,.bool s.2.2)]) (O:=fun s g=>[(6,some (g.1,⟨false,true,2,33,[.agg [.nils,.nils]]⟩)),(7,some (g.2.1,⟨false,true,3,40,[.agg [.int .i64 x_x4.Params,.sl (x_x4.Slots.map OV),.sl (x_x4.Code.map OU)]]⟩)),(9,some (g.2.2.1,⟨false,true,2,33,[.agg [.osl 29 g.2.2.2.1 0 x20.length,.osl 32 g.2.2.2.2 0 x21.length]]⟩)),(29,some (g.2.2.2.1,⟨false,false,1,3,x20.map OK⟩)),(32,some (g.2.2.2.2,⟨false,false,1,4,x21.map D.bool⟩)),(8192,some (0,⟨false,true,2,91,[.agg [.sl (s.1.map eU8),.int .i64 s.2.1]]⟩))]) (j:=fun s=>Re x_x4 x20 n22 x21 s.1 s.2.1 s.2.2) ?_ ?_
        ·exact B
        ·rintro ⟨c44,c45,x46⟩ ⟨v6x8,v7x8,v9x8,v29x8,v32x8⟩ nn
         try dsimp only
         unfold Re
         refine cD r ?_ ?_
         ·refine A 7 ?_
          refine bD fun r48 hr48=>?_
          refine A 2 ?_
          refine bD fun r49 hr49=>?_
          refine A 2 ?_
          refine bD fun x_o50 hx_o50=>?_
          refine A 3 ?_
          exact UO (s:=(r49.2.list,r49.2.at_,x20.set r48.1.toNat r49.1,x21)) (_,_,_,_,_) ((hE ⟨rfl,r,r,r,r,trivial⟩ ⟨rfl,r,(Eq.trans (b:=some (_,⟨false,true,2,33,[.agg [.osl 29 _ 0 x20.length,.osl 32 _ 0 x21.length]]⟩)) r (by simp)),r,r,r,trivial⟩))
         ·exact B
       ·exact B
   ·rintro ⟨c23,c24,x25,x26⟩ ⟨v6x9,v7x9,v9x9,v29x9,v32x9⟩ nn
    try dsimp only
    unfold Py
    exact B
  ·refine A 12 ?_
   refine Uq (b:=((OP.mk x20 x21),(Mk.mk c18 c19))) r ?_ r r ?_ (by first | rfl | (simp only [OH]; rfl) | (simp only [OI]; rfl) | (simp only [OH,OI]; rfl) | simp [Aap,RD])
   all_goals first|(simp;done)|(simp;omega)|rfl|(simp [Pv,PD];done)

def WH (a : (List Int)) : List D:=[.sl (a.map eU8)]
def WG (ds : List D) : (List Int):=(uL uI) (ds.getD 0 .top)
theorem AcW (a : (List Int)) : WG (WH a) = a:=by simp [WG,WH,PQ (u:=uI) (en:=eU8) (fun _=>rfl)]
instance : Pn WH WG:=⟨AcW⟩
def Aih (b : Pf × Int × OO × OP × Mk) : D:=.tup [Ss b.1,.int .i64 b.2.1,PX b.2.2.1,RD b.2.2.2.1,Pl b.2.2.2.2]
noncomputable def AdH : Dw.Spec:=OT [] (.tupPtr 4 2 91) WH WG (fun a=>YA a) Aih noE
theorem Ahm : OR Tryz.prog 7 AdH:=by
 refine fn2 1 (OX (l:=[(19,AgB),(20,ZJ),(21,Pz),(22,AaN),(23,Abk),(24,Aaq)]) (by simp [Akk,AcS,PC,Aeb,Aej,Adw])) Tryz.func7<|?_
 intro codes1
 unfold YA
 refine A 12 ?_
 refine bD fun r2 hr2=>?_
 refine A 7 ?_
 refine bD fun r3 hr3=>?_
 refine A 11 ?_
 refine bD fun r4 hr4=>?_
 refine A 10 ?_
 refine bD fun x_x5 hx_x5=>?_
 refine A 2 ?_
 refine bD fun r6 hr6=>?_
 refine A 5 ?_
 refine sC (E:=fun (_s : (List (List Int)) × (List Int) × Int) (g : Nat × Nat × Nat × Nat × Nat × Nat)=>[(2,.optr 2 g.1 0 0),(4,.optr 4 g.2.1 0 0),(5,.optr 5 g.2.2.1 0 0),(7,.optr 12 g.2.2.2.2.2 0 0),(8,.optr 8 g.2.2.2.1 0 0),(9,.int .i64 r4.1),(10,.optr 10 g.2.2.2.2.1 0 0)]) (O:=fun s g=>[(2,some (g.1,⟨false,true,1,26,[.agg [.nils]]⟩)),(4,some (g.2.1,⟨false,true,1,29,[.agg [.nils]]⟩)),(5,some (g.2.2.1,⟨false,true,2,33,[.agg [.nils,.nils]]⟩)),(8,some (g.2.2.2.1,⟨false,true,1,26,[.agg [.sl (r3.1.Funcs.map PO)]]⟩)),(10,some (g.2.2.2.2.1,⟨false,true,1,29,[.agg [.sl (s.1.map (eL OK))]]⟩)),(12,some (g.2.2.2.2.2,⟨false,true,2,91,[.agg [.sl (s.2.1.map eU8),.int .i64 s.2.2]]⟩))]) (j:=fun s=>TL r3 r4 s.1 s.2.1 s.2.2) ?_ ?_
 ·exact B
 ·rintro ⟨l7,x8,x9⟩ ⟨v2x1,v4x1,v5x1,v8x1,v10x1,v12x1⟩ nn
  try dsimp only
  unfold TL
  exact B

def UN (a : OJ × OO × OP × Int) : List D:=[PO a.1,PX a.2.1,RD a.2.2.1,.int .i64 a.2.2.2]
def UM (ds : List D) : OJ × OO × OP × Int:=(RV (ds.getD 0 .top),UP (ds.getD 1 .top),Yp (ds.getD 2 .top),uI (ds.getD 3 .top))
theorem Afv (a : OJ × OO × OP × Int) : UM (UN a) = a:=by simp [UM,UN,uI]
instance : Pn UN UM:=⟨Afv⟩
def Agp (b : Int × Bool) : D:=.tup [.int .i64 b.1,.bool b.2]
noncomputable def AbR : Dw.Spec:=OT [] .ground UN UM (fun a=>VC a.1 a.2.1 a.2.2.1 a.2.2.2) Agp noE
theorem Afw : OR Tryz.prog 32 AbR:=by
 refine fn2 4 (OX (l:=[(61,Tq),(62,UT)]) (by simp [TW,Vw])) Tryz.func32<|?_
 rintro ⟨f1,l2,r3,k4⟩
 unfold VC
 refine A 14 ?_
 refine bD fun x_x5 hx_x5=>?_
 refine A 9 ?_
 refine bD fun r6 hr6=>?_
 refine A 8 ?_
 refine sC (E:=fun (_s : Unit) (g : Nat × Nat)=>[(3,.int .i64 k4),(5,.optr 5 g.1 0 0),(6,.optr 6 g.2 0 0),(11,.int .i64 r6.1)]) (O:=fun _ g=>[(5,some (g.1,⟨false,true,1,29,[.agg [.sl (l2.Out.map (eL OK))]]⟩)),(6,some (g.2,⟨false,true,2,33,[.agg [.sl (r3.To.map OK),.sl (r3.Keep.map D.bool)]]⟩))]) (j:=fun _=>RY r3 k4 l2 r6) ?_ ?_
 ·exact B
 ·rintro ⟨⟩ ⟨v5x1,v6x1⟩ nn
  try dsimp only
  unfold RY
  refine A 6 ?_
  refine bD fun x_x9 hx_x9=>?_
  refine A 5 ?_
  refine cD r ?_ ?_
  ·exact B
  ·refine A 9 ?_
   refine lP (E:=fun (s : Int) (g : Nat × Nat)=>[(3,.int .i64 k4),(5,.optr 5 g.1 0 0),(6,.optr 6 g.2 0 0),(11,.int .i64 r6.1),(13,.int .i64 s)]) (O:=fun _ g=>[(5,some (g.1,⟨false,true,1,29,[.agg [.sl (l2.Out.map (eL OK))]]⟩)),(6,some (g.2,⟨false,true,2,33,[.agg [.sl (r3.To.map OK),.sl (r3.Keep.map D.bool)]]⟩))]) (body:=fun s=>Vp l2 k4 r6 r3 s) (s:=0) (_,_) ((hE ⟨rfl,r,r,r,r,trivial⟩ ⟨rfl,r,trivial⟩))<|?_
   rintro i12 ⟨v5x2,v6x2⟩ nn
   try dsimp only
   unfold Vp
   exact B

def Ago (b : Int × Int × Bool) : D:=.tup [.int .i64 b.1,.int .i64 b.2.1,.bool b.2.2]
noncomputable def Zl : Dw.Spec:=OT [] .ground Qj Qi (fun a=>TP a.1 a.2.1 a.2.2) Ago noE
theorem Abo : OR Tryz.prog 11 Zl:=by
 refine fn2 3 (OX (l:=[(30,YY),(31,Za),(32,AbR)]) (by simp [AaH,AaI,Afw])) Tryz.func11<|?_
 rintro ⟨f1,l2,r3⟩
 unfold TP
 refine A 10 ?_
 refine sC (E:=fun (_s : Unit) (g : Nat × Nat × Nat)=>[(3,.optr 3 g.1 0 0),(4,.optr 4 g.2.1 0 0),(5,.optr 5 g.2.2 0 0)]) (O:=fun _ g=>[(3,some (g.1,⟨false,true,3,40,[.agg [.int .i64 f1.Params,.sl (f1.Slots.map OV),.sl (f1.Code.map OU)]]⟩)),(4,some (g.2.1,⟨false,true,1,29,[.agg [.sl (l2.Out.map (eL OK))]]⟩)),(5,some (g.2.2,⟨false,true,2,33,[.agg [.sl (r3.To.map OK),.sl (r3.Keep.map D.bool)]]⟩))]) (j:=fun _=>Vo f1 l2 r3) ?_ ?_
 ·exact B
 ·rintro ⟨⟩ ⟨v3x1,v4x1,v5x1⟩ nn
  try dsimp only
  unfold Vo
  refine A 7 ?_
  refine lP (E:=fun (s : Int) (g : Nat × Nat × Nat)=>[(3,.optr 3 g.1 0 0),(4,.optr 4 g.2.1 0 0),(5,.optr 5 g.2.2 0 0),(9,.int .i64 s)]) (O:=fun _ g=>[(3,some (g.1,⟨false,true,3,40,[.agg [.int .i64 f1.Params,.sl (f1.Slots.map OV),.sl (f1.Code.map OU)]]⟩)),(4,some (g.2.1,⟨false,true,1,29,[.agg [.sl (l2.Out.map (eL OK))]]⟩)),(5,some (g.2.2,⟨false,true,2,33,[.agg [.sl (r3.To.map OK),.sl (r3.Keep.map D.bool)]]⟩))]) (body:=fun s=>Vn f1 l2 r3 s) (s:=0) (_,_,_) ((hE ⟨rfl,r,r,r,trivial⟩ ⟨rfl,r,r,trivial⟩))<|?_
  rintro k6 ⟨v3x2,v4x2,v5x2⟩ nn
  try dsimp only
  unfold Vn
  exact B

def AiO (b : Int) : D:=.int .i64 b
noncomputable def AdW : Dw.Spec:=OT [] .ground Qj Qi (fun a=>YK a.1 a.2.1 a.2.2) AiO noE
theorem AhK : OR Tryz.prog 12 AdW:=by
 refine fn2 3 (OX (l:=[(30,YY),(11,Zl),(31,Za)]) (by simp [AaH,Abo,AaI])) Tryz.func12<|?_
 intro a
 unfold YK
 exact B

def Sk (a : (List Int) × OO × OP) : List D:=[.sl (a.1.map eU8),PX a.2.1,RD a.2.2]
def Sj (ds : List D) : (List Int) × OO × OP:=((uL uI) (ds.getD 0 .top),UP (ds.getD 1 .top),Yp (ds.getD 2 .top))
theorem Yy (a : (List Int) × OO × OP) : Sj (Sk a) = a:=by simp [Sj,Sk,PQ (u:=uI) (en:=eU8) (fun _=>rfl)]
instance : Pn Sk Sj:=⟨Yy⟩
def AcU (b : Bool) : D:=.bool b
noncomputable def AcV : Dw.Spec:=OT [] .ground Sk Sj (fun a=>Sq a.1 a.2.1 a.2.2) AcU noE
theorem AcB : OR Tryz.prog 4 AcV:=by
 refine fn2 3 (OX (l:=[(6,AdG),(7,AdH),(10,WC),(11,Zl),(8,Zn),(12,AdW)]) (by simp [Ahl,Ahm,Aak,Abo,Abp,AhK])) Tryz.func4<|?_
 rintro ⟨codes1,live2,raw3⟩
 unfold Sq
 refine A 7 ?_
 refine sC (E:=fun (_s : Unit) (g : Nat × Nat)=>[(0,.sl (codes1.map eU8)),(4,.optr 4 g.1 0 0),(5,.optr 5 g.2 0 0)]) (O:=fun _ g=>[(4,some (g.1,⟨false,true,1,29,[.agg [.sl (live2.Out.map (eL OK))]]⟩)),(5,some (g.2,⟨false,true,2,33,[.agg [.sl (raw3.To.map OK),.sl (raw3.Keep.map D.bool)]]⟩))]) (j:=fun _=>SP codes1 live2 raw3) ?_ ?_
 ·refine sC (E:=fun (s : Bool) (g : Nat × Nat)=>[(0,.sl (codes1.map eU8)),(4,.optr 4 g.1 0 0),(5,.optr 5 g.2 0 0),(42,.bool s)]) (O:=fun _ g=>[(4,some (g.1,⟨false,true,1,29,[.agg [.sl (live2.Out.map (eL OK))]]⟩)),(5,some (g.2,⟨false,true,2,33,[.agg [.sl (raw3.To.map OK),.sl (raw3.Keep.map D.bool)]]⟩))]) (j:=fun s=>PS live2 raw3 codes1 s) ?_ ?_
  ·exact B
  ·rintro x4 ⟨v4x1,v5x1⟩ nn
   try dsimp only
   unfold PS
   exact B
 ·rintro ⟨⟩ ⟨v4x2,v5x2⟩ nn
  try dsimp only
  unfold SP
  refine A 3 ?_
  refine bD fun r6 hr6=>AgY (rs:=[Ss r6.1,.int .i64 r6.2.1,PX r6.2.2.1,RD r6.2.2.2.1,Pl r6.2.2.2.2]) (z:=Pl r6.2.2.2.2) codes1 r r r AcW r r (by simp) r hr6 r r<|?_
  refine A 21 ?_
  refine bD fun x_x7 hx_x7=>?_
  refine A 11 ?_
  refine bS ([r6.2.2.1,live2] : List OO) PX r r r (by simp) r r r<|?_
  refine A 5 ?_
  refine lP (E:=fun (s : Int) (g : Nat × Nat × Nat × Nat)=>[(5,.optr 5 g.1 0 0),(10,.optr 10 g.2.1 0 0),(12,.optr 12 g.2.2.1 0 0),(74,.osl 74 g.2.2.2 0 (([r6.2.2.1,live2] : List OO).length)),(75,.int .i64 (([r6.2.2.1,live2] : List OO).length : Int)),(76,.int .i64 s)]) (O:=fun _ g=>[(5,some (g.1,⟨false,true,2,33,[.agg [.sl (raw3.To.map OK),.sl (raw3.Keep.map D.bool)]]⟩)),(10,some (g.2.1,⟨false,true,2,33,[.agg [.sl (r6.2.2.2.1.To.map OK),.sl (r6.2.2.2.1.Keep.map D.bool)]]⟩)),(12,some (g.2.2.1,⟨false,true,3,40,[.agg [.int .i64 x_x7.Params,.sl (x_x7.Slots.map OV),.sl (x_x7.Code.map OU)]]⟩)),(74,some (g.2.2.2,⟨false,false,1,29,([r6.2.2.1,live2] : List OO).map PX⟩))]) (body:=fun s=>SN r6 live2 raw3 x_x7 s) (s:=0) (_,_,_,_) ((hE ⟨rfl,r,r,r,r,r,trivial⟩ ⟨rfl,r,r,r,trivial⟩))<|?_
  rintro x8 ⟨v5x3,v10x3,v12x3,v74x3⟩ nn
  try dsimp only
  unfold SN
  refine A 6 ?_
  refine cD r ?_ ?_
  ·refine A 7 ?_
   refine bD fun x_e9 hx_e9=>?_
   refine A 9 ?_
   refine bS ([r6.2.2.2.1,raw3] : List OP) RD r r r (by simp) r r r<|?_
   refine A 5 ?_
   refine lP (E:=fun (s : Int) (g : Nat × Nat × Nat × Nat × Nat × Nat)=>[(5,.optr 5 g.1 0 0),(10,.optr 10 g.2.1 0 0),(12,.optr 12 g.2.2.1 0 0),(14,.optr 14 g.2.2.2.1 0 0),(74,.osl 74 g.2.2.2.2.1 0 (([r6.2.2.1,live2] : List OO).length)),(75,.int .i64 (([r6.2.2.1,live2] : List OO).length : Int)),(76,.int .i64 x8),(82,.osl 82 g.2.2.2.2.2 0 (([r6.2.2.2.1,raw3] : List OP).length)),(83,.int .i64 (([r6.2.2.2.1,raw3] : List OP).length : Int)),(84,.int .i64 s)]) (O:=fun _ g=>[(5,some (g.1,⟨false,true,2,33,[.agg [.sl (raw3.To.map OK),.sl (raw3.Keep.map D.bool)]]⟩)),(10,some (g.2.1,⟨false,true,2,33,[.agg [.sl (r6.2.2.2.1.To.map OK),.sl (r6.2.2.2.1.Keep.map D.bool)]]⟩)),(12,some (g.2.2.1,⟨false,true,3,40,[.agg [.int .i64 x_x7.Params,.sl (x_x7.Slots.map OV),.sl (x_x7.Code.map OU)]]⟩)),(14,some (g.2.2.2.1,⟨false,true,1,29,[.agg [.sl (x_e9.Out.map (eL OK))]]⟩)),(74,some (g.2.2.2.2.1,⟨false,false,1,29,([r6.2.2.1,live2] : List OO).map PX⟩)),(82,some (g.2.2.2.2.2,⟨false,false,2,33,([r6.2.2.2.1,raw3] : List OP).map RD⟩))]) (body:=fun s=>SO r6 raw3 x_x7 x_e9 x8 s) (s:=0) (_,_,_,_,_,_) ((hE ⟨rfl,r,r,r,r,r,r,r,r,r,trivial⟩ ⟨rfl,r,r,r,r,r,trivial⟩))<|?_
   rintro x10 ⟨v5x4,v10x4,v12x4,v14x4,v74x4,v82x4⟩ nn
   try dsimp only
   unfold SO
   exact B
  ·exact B

end Go.Proofs.YtpagjjmondojpaaGreatDoor
