/-
  Programs on typed data, and the proofs that the code does what they say; written by a program (dx.py).
-/
import Derived.Test.YtpagjjmondojpaaGreatDoorProg
import Derived.Test.YtpagjjmondojpaaGreatDoorDc
import Derived.Test.YtpagjjmondojpaaGreatDoorDd
import Derived.KernelRfl
import Derived.Test.YtpagjjmondojpaaGreatDoorDxP
import Derived.Test.YtpagjjmondojpaaGreatDoorDxF2
namespace Go.Proofs.YtpagjjmondojpaaGreatDoor
open Go Go.Dw Go.Proofs
set_option maxRecDepth 100000
set_option maxHeartbeats 4000000
open Go.Dw renaming QE → bD,Py → cK,AcZ → bS,Abe → aP,UJ → sE,Aau → iO,Abf → cD,Ada → xL,Zf → hE,AcI → lP,ZT → sC,Yb → bC,rf → r
def Aja (b : Bool) : D:=.bool b
noncomputable def Aef : Dw.Spec:=OQ [] .ground QK QJ (fun a=>ZG a.1 a.2) Aja noE
theorem AhO : OP Tryz.prog 89 Aef:=by
 refine fn2 2 (Pm) Tryz.func89<|?_
 rintro ⟨a1,b2⟩
 unfold ZG
 refine A 15 ?_
 refine cD r ?_ ?_
 ·exact B
 ·refine A 9 ?_
  refine lP (E:=fun (s : Int) (_g : Unit)=>[(0,.sl (a1.map OM)),(1,.sl (b2.map OM)),(5,.int .i64 s)]) (O:=fun _ _=>[]) (body:=fun s=>Tf a1 b2 s) (s:=0) () ((hE ⟨rfl,r,r,trivial⟩ trivial))<|?_
  rintro i3 ⟨⟩ nn
  try dsimp only
  unfold Tf
  exact B

def UP (a : (List (List Int)) × (List (List Int))) : List D:=[.sl (a.1.map (eL OM)),.sl (a.2.map (eL OM))]
def UO (ds : List D) : (List (List Int)) × (List (List Int)):=((uL (uL uI)) (ds.getD 0 .top),(uL (uL uI)) (ds.getD 1 .top))
theorem Afw (a : (List (List Int)) × (List (List Int))) : UO (UP a) = a:=by simp [UO,UP,PN (u:=(uL uI)) (en:=(eL OM)) (PN (u:=uI) (en:=OM) (fun _=>rfl))]
instance : Pn UP UO:=⟨Afw⟩
def AfX (b : Bool) : D:=.bool b
noncomputable def AbO : Dw.Spec:=OQ [] .ground UP UO (fun a=>VP a.1 a.2) AfX noE
theorem Afx : OP Tryz.prog 54 AbO:=by
 refine fn2 2 (OW (l:=[(89,Aef)]) (by simp [AhO])) Tryz.func54<|?_
 rintro ⟨a1,b2⟩
 unfold VP
 refine A 15 ?_
 refine cD r ?_ ?_
 ·exact B
 ·refine A 9 ?_
  refine lP (E:=fun (s : Int) (_g : Unit)=>[(0,.sl (a1.map (eL OM))),(1,.sl (b2.map (eL OM))),(5,.int .i64 s)]) (O:=fun _ _=>[]) (body:=fun s=>Rp a1 b2 s) (s:=0) () ((hE ⟨rfl,r,r,trivial⟩ trivial))<|?_
  rintro i3 ⟨⟩ nn
  try dsimp only
  unfold Rp
  exact B

def Xv (a : OR × OR) : List D:=[Qo a.1,Qo a.2]
def Xu (ds : List D) : OR × OR:=(VK (ds.getD 0 .top),VK (ds.getD 1 .top))
theorem AhR (a : OR × OR) : Xu (Xv a) = a:=by simp [Xu,Xv]
instance : Pn Xv Xu:=⟨AhR⟩
def Aje (b : Bool) : D:=.bool b
noncomputable def Aeg : Dw.Spec:=OQ [] .ground Xv Xu (fun a=>ZI a.1 a.2) Aje noE
theorem AhS : OP Tryz.prog 28 Aeg:=by
 refine fn2 2 (OW (l:=[(54,AbO)]) (by simp [Afx])) Tryz.func28<|?_
 intro a
 unfold ZI
 exact B

def UC (a : OJ) : List D:=[PS a]
def UB (ds : List D) : OJ:=Se (ds.getD 0 .top)
theorem AgR (a : OJ) : UB (UC a) = a:=by simp [UB,UC]
instance : Pn UC UB:=⟨AgR⟩
def AhT (b : OR) : D:=Qo b
noncomputable def VR : Dw.Spec:=OQ [] .val UC UB (fun a=>SG a) AhT noE
theorem Xx : OP Tryz.prog 9 VR:=by
 refine fn2 1 (OW (l:=[(27,Aei),(28,Aeg)]) (by simp [AhU,AhS])) Tryz.func9<|?_
 intro f1
 unfold SG
 refine A 11 ?_
 refine cK fun hq=>Aci (α:=Int) r r r hq r<|?_
 refine A 4 ?_
 refine Tz (E:=[(1,.optr 1 _ 0 0),(2,.optr 2 _ 0 0),(3,.optr 3 _ 0 0)]) (O:=[(1,some (_,⟨false,true,3,40,[.agg [.int .i64 f1.Params,.sl (f1.Slots.map OV),.sl (f1.Code.map OT)]]⟩)),(2,some (_,⟨false,true,1,29,[.agg [.nils]]⟩)),(3,some (_,⟨false,true,1,29,[.agg [.osl 8 _ 0 ((List.replicate (f1.Code.length : Int).toNat ([] : (List Int))).length)]]⟩)),(8,some (_,⟨false,false,1,30,(List.replicate (f1.Code.length : Int).toNat ([] : (List Int))).map (eL OM)⟩))]) ((AdX (g:=8) r (Afs (l:=List.replicate (f1.Code.length : Int).toNat ([] : (List Int))) OM (fun _ h=>List.eq_of_mem_replicate h)) (hE ⟨rfl,r,r,trivial⟩ ⟨rfl,r,r,r,trivial⟩))) fun nn=>?_
 refine A 1 ?_
 refine lP (E:=fun (_s : (List (List Int))) (g : Nat × Nat × Nat)=>[(1,.optr 1 g.1 0 0),(2,.optr 2 g.2.1 0 0),(3,.optr 3 g.2.2 0 0)]) (O:=fun s g=>[(1,some (g.1,⟨false,true,3,40,[.agg [.int .i64 f1.Params,.sl (f1.Slots.map OV),.sl (f1.Code.map OT)]]⟩)),(2,some (g.2.1,⟨false,true,1,29,[.agg [.nils]]⟩)),(3,some (g.2.2,⟨false,true,1,29,[.agg [.sl (s.map (eL OM))]]⟩))]) (body:=fun s=>Xw f1 s) (s:=List.replicate (f1.Code.length : Int).toNat ([] : (List Int))) (_,_,_) ((Aaf [(8,some (_,⟨true,false,1,30,(List.replicate (f1.Code.length : Int).toNat ([] : (List Int))).map (eL OM)⟩))] ⟨⟨_,_,r,r,r⟩,trivial⟩ ⟨(Pp r),(Pp r),(Pp r),trivial⟩ ⟨(.inl r),(.inl r),(.inr ⟨_,_,_,_,r,r,r,r,YS r ⟨(WN (l:=List.replicate (f1.Code.length : Int).toNat ([] : (List Int))) (en:=(eL OM)) r r r (by simp)),trivial⟩⟩),trivial⟩))<|?_
 rintro l2 ⟨v1x1,v2x1,v3x1⟩ nn
 try dsimp only
 unfold Xw
 exact B

def RO (a : Mk × OJ) : List D:=[Pl a.1,PS a.2]
def RN (ds : List D) : Mk × OJ:=(RL (ds.getD 0 .top),Se (ds.getD 1 .top))
theorem AdB (a : Mk × OJ) : RN (RO a) = a:=by simp [RN,RO]
instance : Pn RO RN:=⟨AdB⟩
def WO (b : OR × Mk) : D:=Qo b.1
def AdM (b : OR × Mk) : List D:=[Pl b.2]
noncomputable def Aav : Dw.Spec:=OQ [(0,(2,91))] .val RO RN (fun a=>TJ a.1 a.2) WO AdM
theorem AdC : OP Tryz.prog 22 Aav:=by
 refine fn2 2 (OW (l:=[(9,VR),(21,Px),(42,VZ)]) (by simp [Xx,Pz,WV])) Tryz.func22<|?_
 rintro ⟨c1,f2⟩
 unfold TJ
 refine A 9 ?_
 refine bD fun r3 hr3=>?_
 refine A 9 ?_
 refine cK fun hq=>aP (([] : List (List Int))) (r3.Out) (eL OM) r r r r r r r (by simp) r r r (by simp) r (fun _=>r) r hq<|?_
 refine A 9 ?_
 refine bD fun r4 hr4=>?_
 refine A 5 ?_
 refine lP (E:=fun (s : (List Int) × Int × (List (List Int)) × Int) (g : Nat × Nat × Nat × Nat)=>[(0,.optr 8192 0 0 0),(3,.optr 3 g.1 0 0),(4,.optr 4 g.2.1 0 0),(6,.optr 6 g.2.2.1 0 0),(7,.int .i64 s.2.2.2)]) (O:=fun s g=>[(3,some (g.1,⟨false,true,3,40,[.agg [.int .i64 f2.Params,.sl (f2.Slots.map OV),.sl (f2.Code.map OT)]]⟩)),(4,some (g.2.1,⟨false,true,1,29,[.agg [.nils]]⟩)),(6,some (g.2.2.1,⟨false,true,1,29,[.agg [.osl 14 g.2.2.2 0 s.2.2.1.length]]⟩)),(14,some (g.2.2.2,⟨false,false,1,30,s.2.2.1.map (eL OM)⟩)),(8192,some (0,⟨false,true,2,91,[.agg [.sl (s.1.map eU8),.int .i64 s.2.1]]⟩))]) (body:=fun s=>TM f2 s.1 s.2.1 s.2.2.1 s.2.2.2) (s:=(r4.2.list,r4.2.at_,([] : List (List Int)) ++ r3.Out,r4.1)) (_,_,_,_) ((hE ⟨rfl,r,r,r,r,trivial⟩ ⟨rfl,r,r,r,r,trivial⟩))<|?_
 rintro ⟨c5,c6,x7,n8⟩ ⟨v3x1,v4x1,v6x1,v14x1⟩ nn
 try dsimp only
 unfold TM
 refine sC (E:=fun (_s : Unit) (g : Nat × Nat × Nat × Nat)=>[(0,.optr 8192 0 0 0),(3,.optr 3 g.1 0 0),(4,.optr 4 g.2.1 0 0),(6,.optr 6 g.2.2.1 0 0),(7,.int .i64 n8),(21,.optr 3 g.1 0 1),(22,.sl (f2.Slots.map OV)),(23,.int .i64 (f2.Slots.length : Int)),(24,.bool (decide ((f2.Slots.length : Int) > 0)))]) (O:=fun _ g=>[(3,some (g.1,⟨false,true,3,40,[.agg [.int .i64 f2.Params,.sl (f2.Slots.map OV),.sl (f2.Code.map OT)]]⟩)),(4,some (g.2.1,⟨false,true,1,29,[.agg [.nils]]⟩)),(6,some (g.2.2.1,⟨false,true,1,29,[.agg [.osl 14 g.2.2.2 0 x7.length]]⟩)),(14,some (g.2.2.2,⟨false,false,1,30,x7.map (eL OM)⟩)),(8192,some (0,⟨false,true,2,91,[.agg [.sl (c5.map eU8),.int .i64 c6]]⟩))]) (j:=fun _=>TO c5 c6 f2 n8 x7) ?_ ?_
 ·refine A 5 ?_
  refine Abc r ?_ ?_
  ·refine A 7 ?_
   refine cD r ?_ ?_
   ·exact B
   ·refine A 12 ?_
    refine Ug (b:=((OR.mk x7),(Mk.mk c5 c6))) r ?_ r r ?_ (by first | rfl | (simp only [OH]; rfl) | (simp only [OI]; rfl) | (simp only [OH,OI]; rfl) | simp [WO,Qo])
    all_goals first|(simp;done)|(simp;omega)|rfl|(simp [Pu,PA];done)
  ·refine A 20 ?_
   refine Ug (b:=((OR.mk x7),(Mk.mk c5 c6))) r ?_ r r ?_ (by first | rfl | (simp only [OH]; rfl) | (simp only [OI]; rfl) | (simp only [OH,OI]; rfl) | simp [WO,Qo])
   all_goals first|(simp;done)|(simp;omega)|rfl|(simp [Pu,PA];done)
 ·rintro ⟨⟩ ⟨v3x2,v4x2,v6x2,v14x2⟩ nn
  try dsimp only
  unfold TO
  refine bC (E:=fun (_s : (List Int) × Int × (List (List Int))) (g : Nat × Nat × Nat × Nat)=>[(0,.optr 8192 0 0 0),(3,.optr 3 g.1 0 0),(4,.optr 4 g.2.1 0 0),(6,.optr 6 g.2.2.1 0 0),(7,.int .i64 n8),(21,.optr 3 g.1 0 1),(22,.sl (f2.Slots.map OV)),(23,.int .i64 (f2.Slots.length : Int)),(24,.bool (decide ((f2.Slots.length : Int) > 0)))]) (O:=fun s g=>[(3,some (g.1,⟨false,true,3,40,[.agg [.int .i64 f2.Params,.sl (f2.Slots.map OV),.sl (f2.Code.map OT)]]⟩)),(4,some (g.2.1,⟨false,true,1,29,[.agg [.nils]]⟩)),(6,some (g.2.2.1,⟨false,true,1,29,[.agg [.osl 14 g.2.2.2 0 s.2.2.length]]⟩)),(14,some (g.2.2.2,⟨false,false,1,30,s.2.2.map (eL OM)⟩)),(8192,some (0,⟨false,true,2,91,[.agg [.sl (s.1.map eU8),.int .i64 s.2.1]]⟩))]) (j:=fun s=>TP n8 s.1 s.2.1 s.2.2) ?_ ?_
  ·refine A 6 ?_
   refine bD fun r12 hr12=>?_
   refine A 10 ?_
   refine lP (E:=fun (s : (List (List Int)) × Int) (g : Nat × Nat × Nat × Nat)=>[(0,.optr 8192 0 0 0),(3,.optr 3 g.1 0 0),(4,.optr 4 g.2.1 0 0),(6,.optr 6 g.2.2.1 0 0),(7,.int .i64 n8),(8,.int .i64 r12.1),(9,.int .i64 s.2),(21,.optr 3 g.1 0 1),(22,.sl (f2.Slots.map OV)),(23,.int .i64 (f2.Slots.length : Int)),(24,.bool (decide ((f2.Slots.length : Int) > 0)))]) (O:=fun s g=>[(3,some (g.1,⟨false,true,3,40,[.agg [.int .i64 f2.Params,.sl (f2.Slots.map OV),.sl (f2.Code.map OT)]]⟩)),(4,some (g.2.1,⟨false,true,1,29,[.agg [.nils]]⟩)),(6,some (g.2.2.1,⟨false,true,1,29,[.agg [.osl 14 g.2.2.2 0 s.1.length]]⟩)),(14,some (g.2.2.2,⟨false,false,1,30,s.1.map (eL OM)⟩)),(8192,some (0,⟨false,true,2,91,[.agg [.sl (r12.2.list.map eU8),.int .i64 r12.2.at_]]⟩))]) (body:=fun s=>TN r12 n8 s.1 s.2) (s:=(x7,0)) (_,_,_,_) ((hE ⟨rfl,r,r,r,r,r,r,r,r,r,r,trivial⟩ ⟨rfl,r,r,r,r,trivial⟩))<|?_
   rintro ⟨x13,k14⟩ ⟨v3x3,v4x3,v6x3,v14x3⟩ nn
   try dsimp only
   unfold TN
   refine A 10 ?_
   refine cD r ?_ ?_
   ·refine A 12 ?_
    refine bD fun x_e15 hx_e15=>?_
    refine A 2 ?_
    refine bD fun r16 hr16=>?_
    refine A 2 ?_
    refine bD fun x_o17 hx_o17=>sE (l:=x13) (en:=(eL OM)) (q':=r16) r r r r r r r (by simp) hx_o17 r r r (by simp [Ps,cells,setAt,eL]) r<|?_
    refine A 8 ?_
    exact xL (s:=(x13.set k14.toNat r16,IntKind.i64.wrap (k14 + 1))) (_,_,_,_) ((hE ⟨rfl,r,r,r,r,r,r,r,r,r,r,trivial⟩ ⟨rfl,r,(Eq.trans (b:=some (_,⟨false,true,1,29,[.agg [.osl 14 _ 0 x13.length]]⟩)) r (by simp)),r,r,trivial⟩))
   ·exact B
  ·rintro ⟨c9,c10,x11⟩ ⟨v3x4,v4x4,v6x4,v14x4⟩ nn
   try dsimp only
   unfold TP
   exact B

def Afo (b : Int × Mk) : D:=.int .i64 b.1
def Afn (b : Int × Mk) : List D:=[Pl b.2]
noncomputable def YT : Dw.Spec:=OQ [(0,(2,91))] .val QC QB (fun a=>Si a) Afo Afn
theorem AaP : OP Tryz.prog 44 YT:=by
 refine fn2 1 (OW (l:=[(21,Px)]) (by simp [Pz])) Tryz.func44<|?_
 intro c1
 unfold Si
 refine A 8 ?_
 refine bD fun r2 hr2=>?_
 refine A 11 ?_
 refine cD r ?_ ?_
 ·refine A 2 ?_
  refine bS ([9223372036854775807,(-9223372036854775808),2147483648,2147483647,(-1),16777216,33554432,1048577,512,80] : List Int) OM r r r (by simp) r r r<|?_
  exact B
 ·exact B

def UL (b : OR × Mk) : D:=Qo b.1
def AeB (b : OR × Mk) : List D:=[Pl b.2]
noncomputable def AaR : Dw.Spec:=OQ [(0,(2,91))] .val RO RN (fun a=>Um a.1 a.2) UL AeB
theorem AdL : OP Tryz.prog 23 AaR:=by
 refine fn2 2 (OW (l:=[(9,VR),(21,Px),(42,VZ),(43,Aao),(44,YT)]) (by simp [Xx,Pz,WV,AbN,AaP])) Tryz.func23<|?_
 rintro ⟨c1,f2⟩
 unfold Um
 refine A 9 ?_
 refine bD fun r3 hr3=>?_
 refine A 9 ?_
 refine bD fun r4 hr4=>?_
 refine A 4 ?_
 refine cD r ?_ ?_
 ·exact B
 ·refine A 6 ?_
  refine cK fun hq=>aP (([] : List (List Int))) (r3.Out) (eL OM) r r r r r r r (by simp) r r r (by simp) r (fun _=>r) r hq<|?_
  refine A 5 ?_
  refine sC (E:=fun (_s : (List Int) × Int × (List (List Int))) (g : Nat × Nat × Nat)=>[(0,.optr 8192 0 0 0),(4,.optr 4 g.1 0 0),(6,.optr 6 g.2.1 0 0)]) (O:=fun s g=>[(4,some (g.1,⟨false,true,1,29,[.agg [.nils]]⟩)),(6,some (g.2.1,⟨false,true,1,29,[.agg [.osl 19 g.2.2 0 s.2.2.length]]⟩)),(19,some (g.2.2,⟨false,false,1,30,s.2.2.map (eL OM)⟩)),(8192,some (0,⟨false,true,2,91,[.agg [.sl (s.1.map eU8),.int .i64 s.2.1]]⟩))]) (j:=fun s=>Rt s.1 s.2.1 s.2.2) ?_ ?_
  ·refine A 3 ?_
   refine bD fun r8 hr8=>?_
   refine A 5 ?_
   refine lP (E:=fun (s : (List Int) × Int × (List (List Int)) × Int) (g : Nat × Nat × Nat × Nat)=>[(0,.optr 8192 0 0 0),(3,.optr 3 g.1 0 0),(4,.optr 4 g.2.1 0 0),(6,.optr 6 g.2.2.1 0 0),(7,.int .i64 s.2.2.2)]) (O:=fun s g=>[(3,some (g.1,⟨false,true,3,40,[.agg [.int .i64 f2.Params,.sl (f2.Slots.map OV),.sl (f2.Code.map OT)]]⟩)),(4,some (g.2.1,⟨false,true,1,29,[.agg [.nils]]⟩)),(6,some (g.2.2.1,⟨false,true,1,29,[.agg [.osl 19 g.2.2.2 0 s.2.2.1.length]]⟩)),(19,some (g.2.2.2,⟨false,false,1,30,s.2.2.1.map (eL OM)⟩)),(8192,some (0,⟨false,true,2,91,[.agg [.sl (s.1.map eU8),.int .i64 s.2.1]]⟩))]) (body:=fun s=>Un f2 s.1 s.2.1 s.2.2.1 s.2.2.2) (s:=(r8.2.list,r8.2.at_,([] : List (List Int)) ++ r3.Out,r8.1)) (_,_,_,_) ((hE ⟨rfl,r,r,r,r,trivial⟩ ⟨rfl,r,r,r,r,trivial⟩))<|?_
   rintro ⟨c9,c10,x11,n12⟩ ⟨v3x1,v4x1,v6x1,v19x1⟩ nn
   try dsimp only
   unfold Un
   refine sC (E:=fun (_s : Unit) (g : Nat × Nat × Nat × Nat)=>[(0,.optr 8192 0 0 0),(3,.optr 3 g.1 0 0),(4,.optr 4 g.2.1 0 0),(6,.optr 6 g.2.2.1 0 0),(7,.int .i64 n12),(26,.optr 3 g.1 0 1),(27,.sl (f2.Slots.map OV)),(28,.int .i64 (f2.Slots.length : Int)),(29,.bool (decide ((f2.Slots.length : Int) > 0)))]) (O:=fun _ g=>[(3,some (g.1,⟨false,true,3,40,[.agg [.int .i64 f2.Params,.sl (f2.Slots.map OV),.sl (f2.Code.map OT)]]⟩)),(4,some (g.2.1,⟨false,true,1,29,[.agg [.nils]]⟩)),(6,some (g.2.2.1,⟨false,true,1,29,[.agg [.osl 19 g.2.2.2 0 x11.length]]⟩)),(19,some (g.2.2.2,⟨false,false,1,30,x11.map (eL OM)⟩)),(8192,some (0,⟨false,true,2,91,[.agg [.sl (c9.map eU8),.int .i64 c10]]⟩))]) (j:=fun _=>Up c9 c10 f2 n12 x11) ?_ ?_
   ·exact B
   ·rintro ⟨⟩ ⟨v3x2,v4x2,v6x2,v19x2⟩ nn
    try dsimp only
    unfold Up
    refine bC (E:=fun (_s : (List Int) × Int × (List (List Int))) (g : Nat × Nat × Nat × Nat)=>[(0,.optr 8192 0 0 0),(3,.optr 3 g.1 0 0),(4,.optr 4 g.2.1 0 0),(6,.optr 6 g.2.2.1 0 0),(7,.int .i64 n12),(26,.optr 3 g.1 0 1),(27,.sl (f2.Slots.map OV)),(28,.int .i64 (f2.Slots.length : Int)),(29,.bool (decide ((f2.Slots.length : Int) > 0)))]) (O:=fun s g=>[(3,some (g.1,⟨false,true,3,40,[.agg [.int .i64 f2.Params,.sl (f2.Slots.map OV),.sl (f2.Code.map OT)]]⟩)),(4,some (g.2.1,⟨false,true,1,29,[.agg [.nils]]⟩)),(6,some (g.2.2.1,⟨false,true,1,29,[.agg [.osl 19 g.2.2.2 0 s.2.2.length]]⟩)),(19,some (g.2.2.2,⟨false,false,1,30,s.2.2.map (eL OM)⟩)),(8192,some (0,⟨false,true,2,91,[.agg [.sl (s.1.map eU8),.int .i64 s.2.1]]⟩))]) (j:=fun s=>QL n12 s.1 s.2.1 s.2.2) ?_ ?_
    ·refine A 6 ?_
     refine bD fun r16 hr16=>?_
     refine A 8 ?_
     refine bD fun r17 hr17=>?_
     refine A 4 ?_
     refine cD r ?_ ?_
     ·refine A 7 ?_
      refine lP (E:=fun (s : (List (List Int)) × Int) (g : Nat × Nat × Nat × Nat)=>[(0,.optr 8192 0 0 0),(3,.optr 3 g.1 0 0),(4,.optr 4 g.2.1 0 0),(6,.optr 6 g.2.2.1 0 0),(7,.int .i64 n12),(8,.int .i64 r16.1),(9,.int .i64 s.2),(26,.optr 3 g.1 0 1),(27,.sl (f2.Slots.map OV)),(28,.int .i64 (f2.Slots.length : Int)),(29,.bool (decide ((f2.Slots.length : Int) > 0)))]) (O:=fun s g=>[(3,some (g.1,⟨false,true,3,40,[.agg [.int .i64 f2.Params,.sl (f2.Slots.map OV),.sl (f2.Code.map OT)]]⟩)),(4,some (g.2.1,⟨false,true,1,29,[.agg [.nils]]⟩)),(6,some (g.2.2.1,⟨false,true,1,29,[.agg [.osl 19 g.2.2.2 0 s.1.length]]⟩)),(19,some (g.2.2.2,⟨false,false,1,30,s.1.map (eL OM)⟩)),(8192,some (0,⟨false,true,2,91,[.agg [.sl (r17.2.list.map eU8),.int .i64 r17.2.at_]]⟩))]) (body:=fun s=>Uo r16 n12 r17 s.1 s.2) (s:=(x11,0)) (_,_,_,_) ((hE ⟨rfl,r,r,r,r,r,r,r,r,r,r,trivial⟩ ⟨rfl,r,r,r,r,trivial⟩))<|?_
      rintro ⟨x18,k19⟩ ⟨v3x3,v4x3,v6x3,v19x3⟩ nn
      try dsimp only
      unfold Uo
      refine A 10 ?_
      refine cD r ?_ ?_
      ·refine A 12 ?_
       refine bD fun x_e20 hx_e20=>?_
       refine A 2 ?_
       refine bD fun r21 hr21=>?_
       refine A 2 ?_
       refine bD fun x_o22 hx_o22=>sE (l:=x18) (en:=(eL OM)) (q':=r21) r r r r r r r (by simp) hx_o22 r r r (by simp [Ps,cells,setAt,eL]) r<|?_
       refine A 8 ?_
       exact xL (s:=(x18.set k19.toNat r21,IntKind.i64.wrap (k19 + 1))) (_,_,_,_) ((hE ⟨rfl,r,r,r,r,r,r,r,r,r,r,trivial⟩ ⟨rfl,r,(Eq.trans (b:=some (_,⟨false,true,1,29,[.agg [.osl 19 _ 0 x18.length]]⟩)) r (by simp)),r,r,trivial⟩))
      ·exact B
     ·refine A 8 ?_
      refine bD fun r23 hr23=>?_
      refine A 7 ?_
      refine bD fun r24 hr24=>?_
      refine A 4 ?_
      refine cD r ?_ ?_
      ·refine A 8 ?_
       refine bD fun x_e25 hx_e25=>?_
       refine A 2 ?_
       refine bD fun r26 hr26=>?_
       refine A 2 ?_
       refine bD fun x_o27 hx_o27=>sE (l:=x11) (en:=(eL OM)) (q':=r26) r r r r r r r (by simp) hx_o27 r r r (by simp [Ps,cells,setAt,eL]) r<|?_
       refine A 1 ?_
       exact UD (s:=(r24.2.list,r24.2.at_,x11.set r23.1.toNat r26)) (_,_,_,_) ((hE ⟨rfl,r,r,r,r,r,r,r,r,trivial⟩ ⟨rfl,r,(Eq.trans (b:=some (_,⟨false,true,1,29,[.agg [.osl 19 _ 0 x11.length]]⟩)) r (by simp)),r,r,trivial⟩))
      ·refine A 8 ?_
       refine bD fun x_e28 hx_e28=>?_
       refine A 2 ?_
       refine bD fun r29 hr29=>?_
       refine A 2 ?_
       refine bD fun x_o30 hx_o30=>sE (l:=x11) (en:=(eL OM)) (q':=r29) r r r r r r r (by simp) hx_o30 r r r (by simp [Ps,cells,setAt,eL]) r<|?_
       refine A 1 ?_
       exact UD (s:=(r24.2.list,r24.2.at_,x11.set r23.1.toNat r29)) (_,_,_,_) ((hE ⟨rfl,r,r,r,r,r,r,r,r,trivial⟩ ⟨rfl,r,(Eq.trans (b:=some (_,⟨false,true,1,29,[.agg [.osl 19 _ 0 x11.length]]⟩)) r (by simp)),r,r,trivial⟩))
    ·rintro ⟨c13,c14,x15⟩ ⟨v3x4,v4x4,v6x4,v19x4⟩ nn
     try dsimp only
     unfold QL
     exact B
  ·rintro ⟨c5,c6,x7⟩ ⟨v4x5,v6x5,v19x5⟩ nn
   try dsimp only
   unfold Rt
   refine A 4 ?_
   refine bD fun r31 hr31=>?_
   refine A 10 ?_
   refine cD r ?_ ?_
   ·refine A 3 ?_
    refine cK fun hq=>Ya (l:=x7) r r r r r r hq<|?_
    refine A 12 ?_
    refine Ug (b:=((OR.mk (x7.drop ((1 : Int).toNat))),r31.2)) r ?_ r r ?_ (by first | rfl | (simp only [OH]; rfl) | (simp only [OI]; rfl) | (simp only [OH,OI]; rfl) | simp [UL,Qo])
    all_goals first|(simp;done)|(simp;omega)|rfl|(simp [Pu,PA];done)
   ·refine A 6 ?_
    refine cD r ?_ ?_
    ·refine A 4 ?_
     refine bD fun r32 hr32=>?_
     refine A 2 ?_
     refine bD fun r33 hr33=>?_
     refine A 1 ?_
     refine bS ([r32.1,r33.1] : List Int) OM r r r (by simp) r r r<|cK fun hq=>iO (l:=x7) (en:=(eL OM)) r r r r r hq<|bD fun x_o34 hx_o34=>sE (l:=x7) (en:=(eL OM)) (q':=([r32.1,r33.1] : List Int)) r r r r r r r (by simp) hx_o34 r r r (by simp [Ps,cells,setAt,eL]) r<|?_
     refine A 10 ?_
     refine Ug (b:=((OR.mk (x7.set ((0 : Int).toNat) ([r32.1,r33.1] : List Int))),r33.2)) r ?_ r r ?_ (by first | rfl | (simp only [OH]; rfl) | (simp only [OI]; rfl) | (simp only [OH,OI]; rfl) | simp [UL,Qo])
     all_goals first|(simp;done)|(simp;omega)|rfl|(simp [Pu,PA];done)
    ·refine A 10 ?_
     refine Ug (b:=((OR.mk x7),r31.2)) r ?_ r r ?_ (by first | rfl | (simp only [OH]; rfl) | (simp only [OI]; rfl) | (simp only [OH,OI]; rfl) | simp [UL,Qo])
     all_goals first|(simp;done)|(simp;omega)|rfl|(simp [Pu,PA];done)

def AhM (b : Bool) : D:=.bool b
noncomputable def AaM : Dw.Spec:=OQ [] .ground Ro Rn (fun a=>Wa a) AhM noE
theorem AcA : OP Tryz.prog 91 AaM:=by
 refine fn2 1 (OW (l:=[(71,Abs)]) (by simp [Adk])) Tryz.func91<|?_
 intro s1
 unfold Wa
 refine A 12 ?_
 refine lP (E:=fun (s : Int) (_g : Unit)=>[(0,.sl (s1.map OM)),(3,.int .i64 s)]) (O:=fun _ _=>[]) (body:=fun s=>RB s1 s) (s:=0) () ((hE ⟨rfl,r,trivial⟩ trivial))<|?_
 rintro i2 ⟨⟩ nn
 try dsimp only
 unfold RB
 exact B

def AhX (b : Bool) : D:=.bool b
noncomputable def AaN : Dw.Spec:=OQ [] .ground Pr Pq (fun a=>Wc a.1 a.2) AhX noE
theorem AcB : OP Tryz.prog 58 AaN:=by
 refine fn2 2 (OW (l:=[(91,AaM)]) (by simp [AcA])) Tryz.func58<|?_
 rintro ⟨f1,l2⟩
 unfold Wc
 refine A 19 ?_
 refine cD r ?_ ?_
 ·exact B
 ·refine A 9 ?_
  refine lP (E:=fun (s : Int) (g : Nat × Nat)=>[(2,.optr 2 g.1 0 0),(3,.optr 3 g.2 0 0),(5,.int .i64 s)]) (O:=fun _ g=>[(2,some (g.1,⟨false,true,3,40,[.agg [.int .i64 f1.Params,.sl (f1.Slots.map OV),.sl (f1.Code.map OT)]]⟩)),(3,some (g.2,⟨false,true,1,29,[.agg [.sl (l2.Out.map (eL OM))]]⟩))]) (body:=fun s=>Xz l2 f1 s) (s:=0) (_,_) ((hE ⟨rfl,r,r,trivial⟩ ⟨rfl,r,trivial⟩))<|?_
  rintro k3 ⟨v2x1,v3x1⟩ nn
  try dsimp only
  unfold Xz
  exact B

def AjM (b : Bool) : D:=.bool b
noncomputable def Wb : Dw.Spec:=OQ [] .ground Qz Qy (fun a=>Ty a.1 a.2) AjM noE
theorem WX : OP Tryz.prog 62 Wb:=by
 refine fn2 2 (Pm) Tryz.func62<|?_
 rintro ⟨s1,n2⟩
 unfold Ty
 refine A 12 ?_
 refine lP (E:=fun (s : Int) (_g : Unit)=>[(0,.sl (s1.map OM)),(1,.int .i64 n2),(5,.int .i64 s)]) (O:=fun _ _=>[]) (body:=fun s=>Vc s1 n2 s) (s:=0) () ((hE ⟨rfl,r,r,trivial⟩ trivial))<|?_
 rintro i3 ⟨⟩ nn
 try dsimp only
 unfold Vc
 exact B

def AhN (b : (List Int)) : D:=.sl (b.map OM)
noncomputable def Adj : Dw.Spec:=OQ [] (.row 1 3) QK QJ (fun a=>Yp a.1 a.2) AhN noE
theorem AgN : OP Tryz.prog 119 Adj:=by
 refine fn2 2 (OW (l:=[(62,Wb)]) (by simp [WX])) Tryz.func119<|?_
 rintro ⟨a1,b2⟩
 unfold Yp
 refine A 17 ?_
 refine lP (E:=fun (s : (List Int) × Int) (g : Nat)=>[(0,.sl (a1.map OM)),(1,.sl (b2.map OM)),(5,.osl 5 g 0 s.1.length),(6,.int .i64 s.2)]) (O:=fun s g=>[(5,some (g,⟨false,false,1,3,s.1.map OM⟩))]) (body:=fun s=>So a1 b2 s.1 s.2) (s:=(([] : List Int),0)) _ ((hE ⟨rfl,r,r,r,trivial⟩ ⟨rfl,trivial⟩))<|?_
 rintro ⟨out3,i4⟩ v5x1 nn
 try dsimp only
 unfold So
 exact B

def Tj (a : OJ × OR × Int) : List D:=[PS a.1,Qo a.2.1,.int .i64 a.2.2]
def Ti (ds : List D) : OJ × OR × Int:=(Se (ds.getD 0 .top),VK (ds.getD 1 .top),uI (ds.getD 2 .top))
theorem AfA (a : OJ × OR × Int) : Ti (Tj a) = a:=by simp [Ti,Tj,uI]
instance : Pn Tj Ti:=⟨AfA⟩
def Agb (b : (List Int)) : D:=.sl (b.map OM)
noncomputable def AbQ : Dw.Spec:=OQ [] (.row 1 3) Tj Ti (fun a=>VS a.1 a.2.1 a.2.2) Agb noE
theorem AfB : OP Tryz.prog 90 AbQ:=by
 refine fn2 3 (OW (l:=[(51,Abt),(53,AcY),(119,Adj),(52,VQ)]) (by simp [Adm,Afc,AgN,Xr])) Tryz.func90<|?_
 rintro ⟨f1,l2,k3⟩
 unfold VS
 refine A 16 ?_
 refine bD fun r4 hr4=>?_
 refine A 11 ?_
 refine lP (E:=fun (s : (List Int) × Int) (g : Nat × Nat × Nat × Nat)=>[(2,.int .i64 k3),(3,.optr 3 g.1 0 0),(4,.optr 4 g.2.1 0 0),(7,.osl 7 g.2.2.1 0 s.1.length),(8,.osl 8 g.2.2.2 0 r4.length),(9,.int .i64 s.2)]) (O:=fun s g=>[(3,some (g.1,⟨false,true,3,40,[.agg [.int .i64 f1.Params,.sl (f1.Slots.map OV),.sl (f1.Code.map OT)]]⟩)),(4,some (g.2.1,⟨false,true,1,29,[.agg [.sl (l2.Out.map (eL OM))]]⟩)),(7,some (g.2.2.1,⟨false,false,1,3,s.1.map OM⟩)),(8,some (g.2.2.2,⟨false,false,1,3,r4.map OM⟩))]) (body:=fun s=>Sp r4 f1 l2 k3 s.1 s.2) (s:=(([] : List Int),0)) (_,_,_,_) ((hE ⟨rfl,r,r,r,r,r,trivial⟩ ⟨rfl,r,r,r,trivial⟩))<|?_
 rintro ⟨out5,i6⟩ ⟨v3x1,v4x1,v7x1,v8x1⟩ nn
 try dsimp only
 unfold Sp
 exact B

def AhW (b : Int × Int × Bool) : D:=.tup [.int .i64 b.1,.int .i64 b.2.1,.bool b.2.2]
noncomputable def Adp : Dw.Spec:=OQ [] .ground Pr Pq (fun a=>Ys a.1 a.2) AhW noE
theorem AgT : OP Tryz.prog 57 Adp:=by
 refine fn2 2 (OW (l:=[(58,AaN),(90,AbQ)]) (by simp [AcB,AfB])) Tryz.func57<|?_
 rintro ⟨f1,l2⟩
 unfold Ys
 refine A 14 ?_
 refine bD fun r3 hr3=>?_
 refine A 4 ?_
 refine cD r ?_ ?_
 ·exact B
 ·refine A 9 ?_
  refine lP (E:=fun (s : Int) (g : Nat × Nat)=>[(2,.optr 2 g.1 0 0),(3,.optr 3 g.2 0 0),(7,.int .i64 s)]) (O:=fun _ g=>[(2,some (g.1,⟨false,true,3,40,[.agg [.int .i64 f1.Params,.sl (f1.Slots.map OV),.sl (f1.Code.map OT)]]⟩)),(3,some (g.2,⟨false,true,1,29,[.agg [.sl (l2.Out.map (eL OM))]]⟩))]) (body:=fun s=>Xy f1 l2 s) (s:=0) (_,_) ((hE ⟨rfl,r,r,trivial⟩ ⟨rfl,r,trivial⟩))<|?_
  rintro k4 ⟨v2x1,v3x1⟩ nn
  try dsimp only
  unfold Xy
  exact B

def AhV (b : Int) : D:=.int .i64 b
noncomputable def Ado : Dw.Spec:=OQ [] .ground Pr Pq (fun a=>Yr a.1 a.2) AhV noE
theorem AgS : OP Tryz.prog 30 Ado:=by
 refine fn2 2 (OW (l:=[(57,Adp),(58,AaN)]) (by simp [AgT,AcB])) Tryz.func30<|?_
 intro a
 unfold Yr
 exact B

def Wx (a : OJ × OR × Bool) : List D:=[PS a.1,Qo a.2.1,.bool a.2.2]
def Ww (ds : List D) : OJ × OR × Bool:=(Se (ds.getD 0 .top),VK (ds.getD 1 .top),uBo (ds.getD 2 .top))
theorem AgZ (a : OJ × OR × Bool) : Ww (Wx a) = a:=by simp [Ww,Wx,uBo]
instance : Pn Wx Ww:=⟨AgZ⟩
def Aib (b : (List (List Int)) × Int) : D:=.tup [.sl (b.1.map (eL OM)),.int .i64 b.2]
noncomputable def AaO : Dw.Spec:=OQ [] .val Wx Ww (fun a=>Wd a.1 a.2.1 a.2.2) Aib noE
theorem AcD : OP Tryz.prog 96 AaO:=by
 refine fn2 3 (OW (l:=[(30,Ado),(61,UA),(42,VZ)]) (by simp [AgS,Vq,WV])) Tryz.func96<|?_
 rintro ⟨f1,l2,strict3⟩
 unfold Wd
 refine A 13 ?_
 refine bD fun r4 hr4=>?_
 refine A 10 ?_
 refine cD r ?_ ?_
 ·exact B
 ·refine A 7 ?_
  refine cK fun hq=>Aci (α:=Int) r r r hq r<|?_
  refine A 2 ?_
  refine Tz (E:=[(2,.bool strict3),(3,.optr 3 _ 0 0),(4,.optr 4 _ 0 0),(9,.osl 9 _ 0 ((List.replicate (f1.Slots.length : Int).toNat ([] : (List Int))).length))]) (O:=[(3,some (_,⟨false,true,3,40,[.agg [.int .i64 f1.Params,.sl (f1.Slots.map OV),.sl (f1.Code.map OT)]]⟩)),(4,some (_,⟨false,true,1,29,[.agg [.sl (l2.Out.map (eL OM))]]⟩)),(9,some (_,⟨false,false,1,30,(List.replicate (f1.Slots.length : Int).toNat ([] : (List Int))).map (eL OM)⟩))]) ((AdX (g:=9) r (Afs (l:=List.replicate (f1.Slots.length : Int).toNat ([] : (List Int))) OM (fun _ h=>List.eq_of_mem_replicate h)) (hE ⟨rfl,r,r,r,trivial⟩ ⟨rfl,r,r,trivial⟩))) fun nn=>?_
  refine A 7 ?_
  refine lP (E:=fun (s : (List (List Int)) × Int) (g : Nat × Nat × Nat)=>[(2,.bool strict3),(3,.optr 3 g.1 0 0),(4,.optr 4 g.2.1 0 0),(9,.osl 9 g.2.2 0 s.1.length),(10,.int .i64 s.2)]) (O:=fun s g=>[(3,some (g.1,⟨false,true,3,40,[.agg [.int .i64 f1.Params,.sl (f1.Slots.map OV),.sl (f1.Code.map OT)]]⟩)),(4,some (g.2.1,⟨false,true,1,29,[.agg [.sl (l2.Out.map (eL OM))]]⟩)),(9,some (g.2.2,⟨false,false,1,30,s.1.map (eL OM)⟩))]) (body:=fun s=>XG f1 l2 strict3 s.1 s.2) (s:=(List.replicate (f1.Slots.length : Int).toNat ([] : (List Int)),0)) (_,_,_) ((hE ⟨rfl,r,r,r,r,trivial⟩ ⟨rfl,r,r,trivial⟩))<|?_
  rintro ⟨out5,k6⟩ ⟨v3x1,v4x1,v9x1⟩ nn
  try dsimp only
  unfold XG
  refine A 10 ?_
  refine cD r ?_ ?_
  ·refine A 2 ?_
   refine bC (E:=fun (s : Int × Int × Int × Int × Int × (List (List Int))) (g : Nat × Nat × Nat)=>[(2,.bool strict3),(3,.optr 3 g.1 0 0),(4,.optr 4 g.2.1 0 0),(9,.osl 9 g.2.2 0 s.2.2.2.2.2.length),(10,.int .i64 k6)]) (O:=fun s g=>[(3,some (g.1,⟨false,true,3,40,[.agg [.int .i64 f1.Params,.sl (f1.Slots.map OV),.sl (f1.Code.map OT)]]⟩)),(4,some (g.2.1,⟨false,true,1,29,[.agg [.sl (l2.Out.map (eL OM))]]⟩)),(9,some (g.2.2,⟨false,false,1,30,s.2.2.2.2.2.map (eL OM)⟩))]) (j:=fun s=>Sq k6 s.1 s.2.1 s.2.2.1 s.2.2.2.1 s.2.2.2.2.1 s.2.2.2.2.2) ?_ ?_
   ·refine A 5 ?_
    refine bD fun x_x13 hx_x13=>?_
    refine A 9 ?_
    refine bD fun r14 hr14=>?_
    refine A 8 ?_
    refine sC (E:=fun (_s : Unit) (g : Nat × Nat × Nat × Nat)=>[(2,.bool strict3),(3,.optr 3 g.1 0 0),(4,.optr 4 g.2.1 0 0),(9,.osl 9 g.2.2.1 0 out5.length),(10,.int .i64 k6),(11,.optr 11 g.2.2.2 0 0),(12,.int .i64 r14.1),(13,.bool r14.2)]) (O:=fun _ g=>[(3,some (g.1,⟨false,true,3,40,[.agg [.int .i64 f1.Params,.sl (f1.Slots.map OV),.sl (f1.Code.map OT)]]⟩)),(4,some (g.2.1,⟨false,true,1,29,[.agg [.sl (l2.Out.map (eL OM))]]⟩)),(9,some (g.2.2.1,⟨false,false,1,30,out5.map (eL OM)⟩)),(11,some (g.2.2.2,⟨false,true,5,69,[.agg [.int .i64 x_x13.Op,.int .i64 x_x13.A,.int .i64 x_x13.B,.int .i64 x_x13.C,.int .u64 x_x13.Imm]]⟩))]) (j:=fun _=>TE l2 k6 r14 strict3 x_x13 out5) ?_ ?_
    ·exact B
    ·rintro ⟨⟩ ⟨v3x2,v4x2,v9x2,v11x2⟩ nn
     try dsimp only
     unfold TE
     refine A 6 ?_
     refine lP (E:=fun (s : (List (List Int)) × Int) (g : Nat × Nat × Nat × Nat)=>[(2,.bool strict3),(3,.optr 3 g.1 0 0),(4,.optr 4 g.2.1 0 0),(9,.osl 9 g.2.2.1 0 s.1.length),(10,.int .i64 k6),(11,.optr 11 g.2.2.2 0 0),(12,.int .i64 r14.1),(13,.bool r14.2),(14,.int .i64 s.2)]) (O:=fun s g=>[(3,some (g.1,⟨false,true,3,40,[.agg [.int .i64 f1.Params,.sl (f1.Slots.map OV),.sl (f1.Code.map OT)]]⟩)),(4,some (g.2.1,⟨false,true,1,29,[.agg [.sl (l2.Out.map (eL OM))]]⟩)),(9,some (g.2.2.1,⟨false,false,1,30,s.1.map (eL OM)⟩)),(11,some (g.2.2.2,⟨false,true,5,69,[.agg [.int .i64 x_x13.Op,.int .i64 x_x13.A,.int .i64 x_x13.B,.int .i64 x_x13.C,.int .u64 x_x13.Imm]]⟩))]) (body:=fun s=>Vf l2 k6 r14 strict3 x_x13 s.1 s.2) (s:=(out5,0)) (_,_,_,_) ((hE ⟨rfl,r,r,r,r,r,r,r,r,trivial⟩ ⟨rfl,r,r,r,trivial⟩))<|?_
     rintro ⟨out15,i16⟩ ⟨v3x3,v4x3,v9x3,v11x3⟩ nn
     try dsimp only
     unfold Vf
     refine sC (E:=fun (_s : Unit) (g : Nat × Nat × Nat × Nat)=>[(2,.bool strict3),(3,.optr 3 g.1 0 0),(4,.optr 4 g.2.1 0 0),(9,.osl 9 g.2.2.1 0 out15.length),(10,.int .i64 k6),(11,.optr 11 g.2.2.2 0 0),(12,.int .i64 r14.1),(13,.bool r14.2),(14,.int .i64 i16),(62,.bool r14.2)]) (O:=fun _ g=>[(3,some (g.1,⟨false,true,3,40,[.agg [.int .i64 f1.Params,.sl (f1.Slots.map OV),.sl (f1.Code.map OT)]]⟩)),(4,some (g.2.1,⟨false,true,1,29,[.agg [.sl (l2.Out.map (eL OM))]]⟩)),(9,some (g.2.2.1,⟨false,false,1,30,out15.map (eL OM)⟩)),(11,some (g.2.2.2,⟨false,true,5,69,[.agg [.int .i64 x_x13.Op,.int .i64 x_x13.A,.int .i64 x_x13.B,.int .i64 x_x13.C,.int .u64 x_x13.Imm]]⟩))]) (j:=fun _=>XH l2 k6 i16 r14 out15 strict3 x_x13) ?_ ?_
     ·exact B
     ·rintro ⟨⟩ ⟨v3x4,v4x4,v9x4,v11x4⟩ nn
      try dsimp only
      unfold XH
      refine A 7 ?_
      refine bD fun x_x18 hx_x18=>?_
      refine A 3 ?_
      refine bD fun x_x19 hx_x19=>?_
      refine A 5 ?_
      refine sC (E:=fun (s : Bool × Bool × Bool × Bool) (g : Nat × Nat × Nat × Nat)=>[(2,.bool strict3),(3,.optr 3 g.1 0 0),(4,.optr 4 g.2.1 0 0),(9,.osl 9 g.2.2.1 0 out15.length),(10,.int .i64 k6),(11,.optr 11 g.2.2.2 0 0),(12,.int .i64 r14.1),(13,.bool r14.2),(14,.int .i64 i16),(15,.int .i64 x_x19),(62,.bool r14.2),(78,.bool strict3),(79,.bool (!strict3)),(80,.bool s.1),(84,.bool s.2.1),(85,.bool s.2.2.1),(90,.bool s.2.2.2)]) (O:=fun _ g=>[(3,some (g.1,⟨false,true,3,40,[.agg [.int .i64 f1.Params,.sl (f1.Slots.map OV),.sl (f1.Code.map OT)]]⟩)),(4,some (g.2.1,⟨false,true,1,29,[.agg [.sl (l2.Out.map (eL OM))]]⟩)),(9,some (g.2.2.1,⟨false,false,1,30,out15.map (eL OM)⟩)),(11,some (g.2.2.2,⟨false,true,5,69,[.agg [.int .i64 x_x13.Op,.int .i64 x_x13.A,.int .i64 x_x13.B,.int .i64 x_x13.C,.int .u64 x_x13.Imm]]⟩))]) (j:=fun s=>RC r14 out15 x_x19 i16 s.1 s.2.1 s.2.2.1 s.2.2.2) ?_ ?_
      ·exact B
      ·rintro ⟨x20,x21,x22,x23⟩ ⟨v3x5,v4x5,v9x5,v11x5⟩ nn
       try dsimp only
       unfold RC
       refine A 8 ?_
       refine bD fun out_e24 hout_e24=>?_
       refine A 2 ?_
       refine bD fun r25 hr25=>?_
       refine A 4 ?_
       refine bD fun out_e26 hout_e26=>?_
       refine A 2 ?_
       refine bD fun r27 hr27=>?_
       refine A 2 ?_
       refine bD fun out_o28 hout_o28=>sE (l:=out15) (en:=(eL OM)) (q':=r25) r r r r r r r (by simp) hout_o28 r r r (by simp [Ps,cells,setAt,eL]) r<|?_
       refine A 1 ?_
       refine bD fun out_o29 hout_o29=>sE (l:=out15.set r14.1.toNat r25) (en:=(eL OM)) (q':=r27) r r r r r r r (by simp) hout_o29 r r r (by simp [Ps,cells,setAt,eL]) r<|?_
       exact B
   ·rintro ⟨x7,x8,x9,x10,x11,out12⟩ ⟨v3x6,v4x6,v9x6⟩ nn
    try dsimp only
    unfold Sq
    exact B
  ·exact B

def AhZ (b : (List (List Int)) × Int) : D:=.tup [.sl (b.1.map (eL OM)),.int .i64 b.2]
noncomputable def Adr : Dw.Spec:=OQ [] .val Pr Pq (fun a=>Yu a.1 a.2) AhZ noE
theorem AgW : OP Tryz.prog 72 Adr:=by
 refine fn2 2 (OW (l:=[(96,AaO)]) (by simp [AcD])) Tryz.func72<|?_
 intro a
 unfold Yu
 exact B

def Aia (b : (List PC)) : D:=.sl (b.map SY)
noncomputable def Ads : Dw.Spec:=OQ [] (.row 2 149) UC UB (fun a=>Yv a) Aia noE
theorem AgX : OP Tryz.prog 97 Ads:=by
 refine fn2 1 (Pm) Tryz.func97<|?_
 intro f1
 unfold Yv
 refine A 18 ?_
 refine lP (E:=fun (s : (List PC) × Int) (g : Nat × Nat)=>[(1,.optr 1 g.1 0 0),(3,.osl 3 g.2 0 s.1.length),(4,.int .i64 s.2)]) (O:=fun s g=>[(1,some (g.1,⟨false,true,3,40,[.agg [.int .i64 f1.Params,.sl (f1.Slots.map OV),.sl (f1.Code.map OT)]]⟩)),(3,some (g.2,⟨false,false,2,149,s.1.map SY⟩))]) (body:=fun s=>XE f1 s.1 s.2) (s:=(([] : List PC),0)) (_,_) ((hE ⟨rfl,r,r,trivial⟩ ⟨rfl,r,trivial⟩))<|?_
 rintro ⟨out2,k3⟩ ⟨v1x1,v3x1⟩ nn
 try dsimp only
 unfold XE
 refine A 10 ?_
 refine cD r ?_ ?_
 ·refine A 2 ?_
  refine bC (E:=fun (s : (List PC)) (g : Nat × Nat)=>[(1,.optr 1 g.1 0 0),(3,.osl 3 g.2 0 s.length),(4,.int .i64 k3)]) (O:=fun s g=>[(1,some (g.1,⟨false,true,3,40,[.agg [.int .i64 f1.Params,.sl (f1.Slots.map OV),.sl (f1.Code.map OT)]]⟩)),(3,some (g.2,⟨false,false,2,149,s.map SY⟩))]) (j:=fun s=>Ve k3 s) ?_ ?_
  ·refine A 5 ?_
   refine bD fun x_x5 hx_x5=>?_
   refine A 17 ?_
   refine sC (E:=fun (s : Bool) (g : Nat × Nat × Nat)=>[(1,.optr 1 g.1 0 0),(3,.osl 3 g.2.1 0 out2.length),(4,.int .i64 k3),(6,.optr 6 g.2.2 0 0),(7,.bool s)]) (O:=fun _ g=>[(1,some (g.1,⟨false,true,3,40,[.agg [.int .i64 f1.Params,.sl (f1.Slots.map OV),.sl (f1.Code.map OT)]]⟩)),(3,some (g.2.1,⟨false,false,2,149,out2.map SY⟩)),(6,some (g.2.2,⟨false,true,2,149,[.agg [.int .i64 x_x5.A,.int .i64 x_x5.B]]⟩))]) (j:=fun s=>TD out2 x_x5 k3 s) ?_ ?_
   ·exact B
   ·rintro old6 ⟨v1x2,v3x2,v6x2⟩ nn
    try dsimp only
    unfold TD
    refine A 7 ?_
    refine lP (E:=fun (s : Bool × Int) (g : Nat × Nat × Nat)=>[(1,.optr 1 g.1 0 0),(3,.osl 3 g.2.1 0 out2.length),(4,.int .i64 k3),(6,.optr 6 g.2.2 0 0),(7,.bool s.1),(8,.int .i64 s.2)]) (O:=fun _ g=>[(1,some (g.1,⟨false,true,3,40,[.agg [.int .i64 f1.Params,.sl (f1.Slots.map OV),.sl (f1.Code.map OT)]]⟩)),(3,some (g.2.1,⟨false,false,2,149,out2.map SY⟩)),(6,some (g.2.2,⟨false,true,2,149,[.agg [.int .i64 x_x5.A,.int .i64 x_x5.B]]⟩))]) (body:=fun s=>XF out2 x_x5 k3 s.1 s.2) (s:=(old6,0)) (_,_,_) ((hE ⟨rfl,r,r,r,r,r,trivial⟩ ⟨rfl,r,r,trivial⟩))<|?_
    rintro ⟨old7,i8⟩ ⟨v1x3,v3x3,v6x3⟩ nn
    try dsimp only
    unfold XF
    refine A 9 ?_
    refine cD r ?_ ?_
    ·exact B
    ·refine A 11 ?_
     refine cD r ?_ ?_
     ·refine A 3 ?_
      refine bS ([(PC.mk x_x5.A x_x5.B)] : List PC) SY r r r (by simp) r r r<|?_
      exact B
     ·exact B
  ·rintro out4 ⟨v1x4,v3x4⟩ nn
   try dsimp only
   unfold Ve
   exact B
 ·exact B

def Age (b : (List Int)) : D:=.sl (b.map OM)
noncomputable def ZL : Dw.Spec:=OQ [] (.row 1 3) Qz Qy (fun a=>Tg a.1 a.2) Age noE
theorem Abw : OP Tryz.prog 34 ZL:=by
 refine fn2 2 (Pm) Tryz.func34<|?_
 rintro ⟨to1,s2⟩
 unfold Tg
 refine A 17 ?_
 refine lP (E:=fun (s : (List Int) × Int) (g : Nat)=>[(0,.sl (to1.map OM)),(1,.int .i64 s2),(5,.osl 5 g 0 s.1.length),(6,.int .i64 s.2)]) (O:=fun s g=>[(5,some (g,⟨false,false,1,3,s.1.map OM⟩))]) (body:=fun s=>Vv to1 s2 s.1 s.2) (s:=(([] : List Int),0)) _ ((hE ⟨rfl,r,r,r,trivial⟩ ⟨rfl,trivial⟩))<|?_
 rintro ⟨out3,t4⟩ v5x1 nn
 try dsimp only
 unfold Vv
 exact B

def Wz (a : (List (List Int)) × (List Int) × Int × Int) : List D:=[.sl (a.1.map (eL OM)),.sl (a.2.1.map OM),.int .i64 a.2.2.1,.int .i64 a.2.2.2]
def Wy (ds : List D) : (List (List Int)) × (List Int) × Int × Int:=((uL (uL uI)) (ds.getD 0 .top),(uL uI) (ds.getD 1 .top),uI (ds.getD 2 .top),uI (ds.getD 3 .top))
theorem Ahb (a : (List (List Int)) × (List Int) × Int × Int) : Wy (Wz a) = a:=by simp [Wy,Wz,uI,PN (u:=(uL uI)) (en:=(eL OM)) (PN (u:=uI) (en:=OM) (fun _=>rfl)),PN (u:=uI) (en:=OM) (fun _=>rfl)]
instance : Pn Wz Wy:=⟨Ahb⟩
def Aid (b : Bool) : D:=.bool b
noncomputable def Adu : Dw.Spec:=OQ [] .ground Wz Wy (fun a=>Yx a.1 a.2.1 a.2.2.1 a.2.2.2) Aid noE
theorem Ahc : OP Tryz.prog 98 Adu:=by
 refine fn2 4 (OW (l:=[(34,ZL),(62,Wb)]) (by simp [Abw,WX])) Tryz.func98<|?_
 rintro ⟨g1,to2,a3,b4⟩
 unfold Yx
 refine A 9 ?_
 refine bD fun r5 hr5=>?_
 refine A 3 ?_
 refine bD fun r6 hr6=>?_
 refine A 12 ?_
 refine lP (E:=fun (s : Int) (g : Nat × Nat)=>[(0,.sl (g1.map (eL OM))),(9,.osl 9 g.1 0 r5.length),(10,.osl 10 g.2 0 r6.length),(11,.int .i64 s)]) (O:=fun _ g=>[(9,some (g.1,⟨false,false,1,3,r5.map OM⟩)),(10,some (g.2,⟨false,false,1,3,r6.map OM⟩))]) (body:=fun s=>XK r5 r6 g1 s) (s:=0) (_,_) ((hE ⟨rfl,r,r,r,trivial⟩ ⟨rfl,r,trivial⟩))<|?_
 rintro i7 ⟨v9x1,v10x1⟩ nn
 try dsimp only
 unfold XK
 refine A 9 ?_
 refine cD r ?_ ?_
 ·refine A 2 ?_
  refine bC (E:=fun (_s : Unit) (g : Nat × Nat)=>[(0,.sl (g1.map (eL OM))),(9,.osl 9 g.1 0 r5.length),(10,.osl 10 g.2 0 r6.length),(11,.int .i64 i7)]) (O:=fun _ g=>[(9,some (g.1,⟨false,false,1,3,r5.map OM⟩)),(10,some (g.2,⟨false,false,1,3,r6.map OM⟩))]) (j:=fun _=>XM i7) ?_ ?_
  ·refine A 6 ?_
   refine lP (E:=fun (s : Int) (g : Nat × Nat)=>[(0,.sl (g1.map (eL OM))),(9,.osl 9 g.1 0 r5.length),(10,.osl 10 g.2 0 r6.length),(11,.int .i64 i7),(12,.int .i64 s)]) (O:=fun _ g=>[(9,some (g.1,⟨false,false,1,3,r5.map OM⟩)),(10,some (g.2,⟨false,false,1,3,r6.map OM⟩))]) (body:=fun s=>XL r6 i7 r5 g1 s) (s:=0) (_,_) ((hE ⟨rfl,r,r,r,r,trivial⟩ ⟨rfl,r,trivial⟩))<|?_
   rintro k8 ⟨v9x2,v10x2⟩ nn
   try dsimp only
   unfold XL
   exact B
  ·rintro ⟨⟩ ⟨v9x3,v10x3⟩ nn
   try dsimp only
   unfold XM
   exact B
 ·exact B

end Go.Proofs.YtpagjjmondojpaaGreatDoor
