/-
  Programs on typed data, and the proofs that the code does what they say; written by a program (dx.py).
-/
import Derived.Test.YtpagjjmondojpaaGreatDoorProg
import Derived.Test.YtpagjjmondojpaaGreatDoorDc
import Derived.Test.YtpagjjmondojpaaGreatDoorDd
import Derived.KernelRfl
import Derived.Test.YtpagjjmondojpaaGreatDoorDxP
import Derived.Test.YtpagjjmondojpaaGreatDoorDxF2
namespace Go.Proofs.YtpagjjmondojpaaGreatDoor
open Go Go.Dw Go.Proofs
set_option maxRecDepth 100000
set_option maxHeartbeats 4000000
open Go.Dw renaming QG → bD,PA → cK,AbX → bS,Aby → aP,UZ → sE,AaM → iO,Abz → cD,AdC → xL,Zw → hE,Adi → lP,Aaj → sC,Yo → bC,rf → r
def AjG (b : Bool) : D:=.bool b
noncomputable def AeF : Dw.Spec:=OT [] .ground QN QM (fun a=>ZW a.1 a.2) AjG noE
theorem Ait : OR Tryz.prog 89 AeF:=by
 refine fn2 2 (Pm) Tryz.func89<|?_
 rintro ⟨a1,b2⟩
 unfold ZW
 refine A 15 ?_
 refine cD r ?_ ?_
 ·exact B
 ·refine A 9 ?_
  refine lP (E:=fun (s : Int) (_g : Unit)=>[(0,.sl (a1.map OK)),(1,.sl (b2.map OK)),(5,.int .i64 s)]) (O:=fun _ _=>[]) (body:=fun s=>Tu a1 b2 s) (s:=0) () ((hE ⟨rfl,r,r,trivial⟩ trivial))<|?_
  rintro i3 ⟨⟩ nn
  try dsimp only
  unfold Tu
  exact B

def Vg (a : (List (List Int)) × (List (List Int))) : List D:=[.sl (a.1.map (eL OK)),.sl (a.2.map (eL OK))]
def Vf (ds : List D) : (List (List Int)) × (List (List Int)):=((uL (uL uI)) (ds.getD 0 .top),(uL (uL uI)) (ds.getD 1 .top))
theorem Agc (a : (List (List Int)) × (List (List Int))) : Vf (Vg a) = a:=by simp [Vf,Vg,PQ (u:=(uL uI)) (en:=(eL OK)) (PQ (u:=uI) (en:=OK) (fun _=>rfl))]
instance : Pn Vg Vf:=⟨Agc⟩
def AgF (b : Bool) : D:=.bool b
noncomputable def Ack : Dw.Spec:=OT [] .ground Vg Vf (fun a=>Wi a.1 a.2) AgF noE
theorem Agd : OR Tryz.prog 54 Ack:=by
 refine fn2 2 (OX (l:=[(89,AeF)]) (by simp [Ait])) Tryz.func54<|?_
 rintro ⟨a1,b2⟩
 unfold Wi
 refine A 15 ?_
 refine cD r ?_ ?_
 ·exact B
 ·refine A 9 ?_
  refine lP (E:=fun (s : Int) (_g : Unit)=>[(0,.sl (a1.map (eL OK))),(1,.sl (b2.map (eL OK))),(5,.int .i64 s)]) (O:=fun _ _=>[]) (body:=fun s=>Rt a1 b2 s) (s:=0) () ((hE ⟨rfl,r,r,trivial⟩ trivial))<|?_
  rintro i3 ⟨⟩ nn
  try dsimp only
  unfold Rt
  exact B

def XJ (a : OO × OO) : List D:=[PX a.1,PX a.2]
def XI (ds : List D) : OO × OO:=(UP (ds.getD 0 .top),UP (ds.getD 1 .top))
theorem Aiw (a : OO × OO) : XI (XJ a) = a:=by simp [XI,XJ]
instance : Pn XJ XI:=⟨Aiw⟩
def AjK (b : Bool) : D:=.bool b
noncomputable def AeG : Dw.Spec:=OT [] .ground XJ XI (fun a=>ZY a.1 a.2) AjK noE
theorem Aix : OR Tryz.prog 28 AeG:=by
 refine fn2 2 (OX (l:=[(54,Ack)]) (by simp [Agd])) Tryz.func28<|?_
 intro a
 unfold ZY
 exact B

def UL (a : OJ) : List D:=[PO a]
def UK (ds : List D) : OJ:=RV (ds.getD 0 .top)
theorem Ahx (a : OJ) : UK (UL a) = a:=by simp [UK,UL]
instance : Pn UL UK:=⟨Ahx⟩
def Aiy (b : OO) : D:=PX b
noncomputable def YW : Dw.Spec:=OT [] .val UL UK (fun a=>TI a) Aiy noE
theorem AaG : OR Tryz.prog 9 YW:=by
 refine fn2 1 (OX (l:=[(27,AeI),(28,AeG)]) (by simp [Aiz,Aix])) Tryz.func9<|?_
 intro f1
 unfold TI
 refine A 11 ?_
 refine cK fun hq=>AcG (α:=Int) r r r hq r<|?_
 refine A 4 ?_
 refine TJ (E:=[(1,.optr 1 _ 0 0),(2,.optr 2 _ 0 0),(3,.optr 3 _ 0 0)]) (O:=[(1,some (_,⟨false,true,3,40,[.agg [.int .i64 f1.Params,.sl (f1.Slots.map OV),.sl (f1.Code.map OU)]]⟩)),(2,some (_,⟨false,true,1,29,[.agg [.nils]]⟩)),(3,some (_,⟨false,true,1,29,[.agg [.osl 8 _ 0 ((List.replicate (f1.Code.length : Int).toNat ([] : (List Int))).length)]]⟩)),(8,some (_,⟨false,false,1,30,(List.replicate (f1.Code.length : Int).toNat ([] : (List Int))).map (eL OK)⟩))]) ((Aev (g:=8) r (AfY (l:=List.replicate (f1.Code.length : Int).toNat ([] : (List Int))) OK (fun _ h=>List.eq_of_mem_replicate h)) (hE ⟨rfl,r,r,trivial⟩ ⟨rfl,r,r,r,trivial⟩))) fun nn=>?_
 refine A 1 ?_
 refine lP (E:=fun (_s : (List (List Int))) (g : Nat × Nat × Nat)=>[(1,.optr 1 g.1 0 0),(2,.optr 2 g.2.1 0 0),(3,.optr 3 g.2.2 0 0)]) (O:=fun s g=>[(1,some (g.1,⟨false,true,3,40,[.agg [.int .i64 f1.Params,.sl (f1.Slots.map OV),.sl (f1.Code.map OU)]]⟩)),(2,some (g.2.1,⟨false,true,1,29,[.agg [.nils]]⟩)),(3,some (g.2.2,⟨false,true,1,29,[.agg [.sl (s.map (eL OK))]]⟩))]) (body:=fun s=>XK f1 s) (s:=List.replicate (f1.Code.length : Int).toNat ([] : (List Int))) (_,_,_) ((Aav [(8,some (_,⟨true,false,1,30,(List.replicate (f1.Code.length : Int).toNat ([] : (List Int))).map (eL OK)⟩))] ⟨⟨_,_,r,r,r⟩,trivial⟩ ⟨(Pq r),(Pq r),(Pq r),trivial⟩ ⟨(.inl r),(.inl r),(.inr ⟨_,_,_,_,r,r,r,r,Zi r ⟨(Xf (l:=List.replicate (f1.Code.length : Int).toNat ([] : (List Int))) (en:=(eL OK)) r r r (by simp)),trivial⟩⟩),trivial⟩))<|?_
 rintro l2 ⟨v1x1,v2x1,v3x1⟩ nn
 try dsimp only
 unfold XK
 exact B

def RR (a : Mk × OJ) : List D:=[Pl a.1,PO a.2]
def RQ (ds : List D) : Mk × OJ:=(RN (ds.getD 0 .top),RV (ds.getD 1 .top))
theorem Aea (a : Mk × OJ) : RQ (RR a) = a:=by simp [RQ,RR]
instance : Pn RR RQ:=⟨Aea⟩
def Xg (b : OO × Mk) : D:=PX b.1
def Aek (b : OO × Mk) : List D:=[Pl b.2]
noncomputable def AaN : Dw.Spec:=OT [(0,(2,91))] .val RR RQ (fun a=>TU a.1 a.2) Xg Aek
theorem Aeb : OR Tryz.prog 22 AaN:=by
 refine fn2 2 (OX (l:=[(9,YW),(21,Pz),(42,Wt)]) (by simp [AaG,PC,Xm])) Tryz.func22<|?_
 rintro ⟨c1,f2⟩
 unfold TU
 refine A 9 ?_
 refine bD fun r3 hr3=>?_
 refine A 9 ?_
 refine cK fun hq=>aP (([] : List (List Int))) (r3.Out) (eL OK) r r r r r r r (by simp) r r r (by simp) r (fun _=>r) r hq<|?_
 refine A 9 ?_
 refine bD fun r4 hr4=>?_
 refine A 5 ?_
 refine lP (E:=fun (s : (List Int) × Int × (List (List Int)) × Int) (g : Nat × Nat × Nat × Nat)=>[(0,.optr 8192 0 0 0),(3,.optr 3 g.1 0 0),(4,.optr 4 g.2.1 0 0),(6,.optr 6 g.2.2.1 0 0),(7,.int .i64 s.2.2.2)]) (O:=fun s g=>[(3,some (g.1,⟨false,true,3,40,[.agg [.int .i64 f2.Params,.sl (f2.Slots.map OV),.sl (f2.Code.map OU)]]⟩)),(4,some (g.2.1,⟨false,true,1,29,[.agg [.nils]]⟩)),(6,some (g.2.2.1,⟨false,true,1,29,[.agg [.osl 14 g.2.2.2 0 s.2.2.1.length]]⟩)),(14,some (g.2.2.2,⟨false,false,1,30,s.2.2.1.map (eL OK)⟩)),(8192,some (0,⟨false,true,2,91,[.agg [.sl (s.1.map eU8),.int .i64 s.2.1]]⟩))]) (body:=fun s=>TX f2 s.1 s.2.1 s.2.2.1 s.2.2.2) (s:=(r4.2.list,r4.2.at_,([] : List (List Int)) ++ r3.Out,r4.1)) (_,_,_,_) ((hE ⟨rfl,r,r,r,r,trivial⟩ ⟨rfl,r,r,r,r,trivial⟩))<|?_
 rintro ⟨c5,c6,x7,n8⟩ ⟨v3x1,v4x1,v6x1,v14x1⟩ nn
 try dsimp only
 unfold TX
 refine sC (E:=fun (_s : Unit) (g : Nat × Nat × Nat × Nat)=>[(0,.optr 8192 0 0 0),(3,.optr 3 g.1 0 0),(4,.optr 4 g.2.1 0 0),(6,.optr 6 g.2.2.1 0 0),(7,.int .i64 n8),(21,.optr 3 g.1 0 1),(22,.sl (f2.Slots.map OV)),(23,.int .i64 (f2.Slots.length : Int)),(24,.bool (decide ((f2.Slots.length : Int) > 0)))]) (O:=fun _ g=>[(3,some (g.1,⟨false,true,3,40,[.agg [.int .i64 f2.Params,.sl (f2.Slots.map OV),.sl (f2.Code.map OU)]]⟩)),(4,some (g.2.1,⟨false,true,1,29,[.agg [.nils]]⟩)),(6,some (g.2.2.1,⟨false,true,1,29,[.agg [.osl 14 g.2.2.2 0 x7.length]]⟩)),(14,some (g.2.2.2,⟨false,false,1,30,x7.map (eL OK)⟩)),(8192,some (0,⟨false,true,2,91,[.agg [.sl (c5.map eU8),.int .i64 c6]]⟩))]) (j:=fun _=>TZ c5 c6 f2 n8 x7) ?_ ?_
 ·refine A 5 ?_
  refine Abw r ?_ ?_
  ·refine A 7 ?_
   refine cD r ?_ ?_
   ·exact B
   ·refine A 12 ?_
    refine Uq (b:=((OO.mk x7),(Mk.mk c5 c6))) r ?_ r r ?_ (by first | rfl | (simp only [OH]; rfl) | (simp only [OI]; rfl) | (simp only [OH,OI]; rfl) | simp [Xg,PX])
    all_goals first|(simp;done)|(simp;omega)|rfl|(simp [Pv,PD];done)
  ·refine A 20 ?_
   refine Uq (b:=((OO.mk x7),(Mk.mk c5 c6))) r ?_ r r ?_ (by first | rfl | (simp only [OH]; rfl) | (simp only [OI]; rfl) | (simp only [OH,OI]; rfl) | simp [Xg,PX])
   all_goals first|(simp;done)|(simp;omega)|rfl|(simp [Pv,PD];done)
 ·rintro ⟨⟩ ⟨v3x2,v4x2,v6x2,v14x2⟩ nn
  try dsimp only
  unfold TZ
  refine bC (E:=fun (_s : (List Int) × Int × (List (List Int))) (g : Nat × Nat × Nat × Nat)=>[(0,.optr 8192 0 0 0),(3,.optr 3 g.1 0 0),(4,.optr 4 g.2.1 0 0),(6,.optr 6 g.2.2.1 0 0),(7,.int .i64 n8),(21,.optr 3 g.1 0 1),(22,.sl (f2.Slots.map OV)),(23,.int .i64 (f2.Slots.length : Int)),(24,.bool (decide ((f2.Slots.length : Int) > 0)))]) (O:=fun s g=>[(3,some (g.1,⟨false,true,3,40,[.agg [.int .i64 f2.Params,.sl (f2.Slots.map OV),.sl (f2.Code.map OU)]]⟩)),(4,some (g.2.1,⟨false,true,1,29,[.agg [.nils]]⟩)),(6,some (g.2.2.1,⟨false,true,1,29,[.agg [.osl 14 g.2.2.2 0 s.2.2.length]]⟩)),(14,some (g.2.2.2,⟨false,false,1,30,s.2.2.map (eL OK)⟩)),(8192,some (0,⟨false,true,2,91,[.agg [.sl (s.1.map eU8),.int .i64 s.2.1]]⟩))]) (j:=fun s=>Ua n8 s.1 s.2.1 s.2.2) ?_ ?_
  ·refine A 6 ?_
   refine bD fun r12 hr12=>?_
   refine A 10 ?_
   refine lP (E:=fun (s : (List (List Int)) × Int) (g : Nat × Nat × Nat × Nat)=>[(0,.optr 8192 0 0 0),(3,.optr 3 g.1 0 0),(4,.optr 4 g.2.1 0 0),(6,.optr 6 g.2.2.1 0 0),(7,.int .i64 n8),(8,.int .i64 r12.1),(9,.int .i64 s.2),(21,.optr 3 g.1 0 1),(22,.sl (f2.Slots.map OV)),(23,.int .i64 (f2.Slots.length : Int)),(24,.bool (decide ((f2.Slots.length : Int) > 0)))]) (O:=fun s g=>[(3,some (g.1,⟨false,true,3,40,[.agg [.int .i64 f2.Params,.sl (f2.Slots.map OV),.sl (f2.Code.map OU)]]⟩)),(4,some (g.2.1,⟨false,true,1,29,[.agg [.nils]]⟩)),(6,some (g.2.2.1,⟨false,true,1,29,[.agg [.osl 14 g.2.2.2 0 s.1.length]]⟩)),(14,some (g.2.2.2,⟨false,false,1,30,s.1.map (eL OK)⟩)),(8192,some (0,⟨false,true,2,91,[.agg [.sl (r12.2.list.map eU8),.int .i64 r12.2.at_]]⟩))]) (body:=fun s=>TY r12 n8 s.1 s.2) (s:=(x7,0)) (_,_,_,_) ((hE ⟨rfl,r,r,r,r,r,r,r,r,r,r,trivial⟩ ⟨rfl,r,r,r,r,trivial⟩))<|?_
   rintro ⟨x13,k14⟩ ⟨v3x3,v4x3,v6x3,v14x3⟩ nn
   try dsimp only
   unfold TY
   refine A 10 ?_
   refine cD r ?_ ?_
   ·refine A 12 ?_
    refine bD fun x_e15 hx_e15=>?_
    refine A 2 ?_
    refine bD fun r16 hr16=>?_
    refine A 2 ?_
    refine bD fun x_o17 hx_o17=>sE (l:=x13) (en:=(eL OK)) (q':=r16) r r r r r r r (by simp) hx_o17 r r r (by simp [Pt,cells,setAt,eL]) r<|?_
    refine A 8 ?_
    exact xL (s:=(x13.set k14.toNat r16,IntKind.i64.wrap (k14 + 1))) (_,_,_,_) ((hE ⟨rfl,r,r,r,r,r,r,r,r,r,r,trivial⟩ ⟨rfl,r,(Eq.trans (b:=some (_,⟨false,true,1,29,[.agg [.osl 14 _ 0 x13.length]]⟩)) r (by simp)),r,r,trivial⟩))
   ·exact B
  ·rintro ⟨c9,c10,x11⟩ ⟨v3x4,v4x4,v6x4,v14x4⟩ nn
   try dsimp only
   unfold Ua
   exact B

def AfU (b : Int × Mk) : D:=.int .i64 b.1
def AfT (b : Int × Mk) : List D:=[Pl b.2]
noncomputable def Zj : Dw.Spec:=OT [(0,(2,91))] .val QD QC (fun a=>Sr a) AfU AfT
theorem Abi : OR Tryz.prog 44 Zj:=by
 refine fn2 1 (OX (l:=[(21,Pz)]) (by simp [PC])) Tryz.func44<|?_
 intro c1
 unfold Sr
 refine A 8 ?_
 refine bD fun r2 hr2=>?_
 refine A 11 ?_
 refine cD r ?_ ?_
 ·refine A 2 ?_
  refine bS ([9223372036854775807,(-9223372036854775808),2147483648,2147483647,(-1),16777216,33554432,1048577,512,80] : List Int) OK r r r (by simp) r r r<|?_
  exact B
 ·exact B

def Vc (b : OO × Mk) : D:=PX b.1
def Afe (b : OO × Mk) : List D:=[Pl b.2]
noncomputable def Abk : Dw.Spec:=OT [(0,(2,91))] .val RR RQ (fun a=>Uw a.1 a.2) Vc Afe
theorem Aej : OR Tryz.prog 23 Abk:=by
 refine fn2 2 (OX (l:=[(9,YW),(21,Pz),(42,Wt),(43,AaE),(44,Zj)]) (by simp [AaG,PC,Xm,Acj,Abi])) Tryz.func23<|?_
 rintro ⟨c1,f2⟩
 unfold Uw
 refine A 9 ?_
 refine bD fun r3 hr3=>?_
 refine A 9 ?_
 refine bD fun r4 hr4=>?_
 refine A 4 ?_
 refine cD r ?_ ?_
 ·exact B
 ·refine A 6 ?_
  refine cK fun hq=>aP (([] : List (List Int))) (r3.Out) (eL OK) r r r r r r r (by simp) r r r (by simp) r (fun _=>r) r hq<|?_
  refine A 5 ?_
  refine sC (E:=fun (_s : (List Int) × Int × (List (List Int))) (g : Nat × Nat × Nat)=>[(0,.optr 8192 0 0 0),(4,.optr 4 g.1 0 0),(6,.optr 6 g.2.1 0 0)]) (O:=fun s g=>[(4,some (g.1,⟨false,true,1,29,[.agg [.nils]]⟩)),(6,some (g.2.1,⟨false,true,1,29,[.agg [.osl 19 g.2.2 0 s.2.2.length]]⟩)),(19,some (g.2.2,⟨false,false,1,30,s.2.2.map (eL OK)⟩)),(8192,some (0,⟨false,true,2,91,[.agg [.sl (s.1.map eU8),.int .i64 s.2.1]]⟩))]) (j:=fun s=>Rx s.1 s.2.1 s.2.2) ?_ ?_
  ·refine A 3 ?_
   refine bD fun r8 hr8=>?_
   refine A 5 ?_
   refine lP (E:=fun (s : (List Int) × Int × (List (List Int)) × Int) (g : Nat × Nat × Nat × Nat)=>[(0,.optr 8192 0 0 0),(3,.optr 3 g.1 0 0),(4,.optr 4 g.2.1 0 0),(6,.optr 6 g.2.2.1 0 0),(7,.int .i64 s.2.2.2)]) (O:=fun s g=>[(3,some (g.1,⟨false,true,3,40,[.agg [.int .i64 f2.Params,.sl (f2.Slots.map OV),.sl (f2.Code.map OU)]]⟩)),(4,some (g.2.1,⟨false,true,1,29,[.agg [.nils]]⟩)),(6,some (g.2.2.1,⟨false,true,1,29,[.agg [.osl 19 g.2.2.2 0 s.2.2.1.length]]⟩)),(19,some (g.2.2.2,⟨false,false,1,30,s.2.2.1.map (eL OK)⟩)),(8192,some (0,⟨false,true,2,91,[.agg [.sl (s.1.map eU8),.int .i64 s.2.1]]⟩))]) (body:=fun s=>Ux f2 s.1 s.2.1 s.2.2.1 s.2.2.2) (s:=(r8.2.list,r8.2.at_,([] : List (List Int)) ++ r3.Out,r8.1)) (_,_,_,_) ((hE ⟨rfl,r,r,r,r,trivial⟩ ⟨rfl,r,r,r,r,trivial⟩))<|?_
   rintro ⟨c9,c10,x11,n12⟩ ⟨v3x1,v4x1,v6x1,v19x1⟩ nn
   try dsimp only
   unfold Ux
   refine sC (E:=fun (_s : Unit) (g : Nat × Nat × Nat × Nat)=>[(0,.optr 8192 0 0 0),(3,.optr 3 g.1 0 0),(4,.optr 4 g.2.1 0 0),(6,.optr 6 g.2.2.1 0 0),(7,.int .i64 n12),(26,.optr 3 g.1 0 1),(27,.sl (f2.Slots.map OV)),(28,.int .i64 (f2.Slots.length : Int)),(29,.bool (decide ((f2.Slots.length : Int) > 0)))]) (O:=fun _ g=>[(3,some (g.1,⟨false,true,3,40,[.agg [.int .i64 f2.Params,.sl (f2.Slots.map OV),.sl (f2.Code.map OU)]]⟩)),(4,some (g.2.1,⟨false,true,1,29,[.agg [.nils]]⟩)),(6,some (g.2.2.1,⟨false,true,1,29,[.agg [.osl 19 g.2.2.2 0 x11.length]]⟩)),(19,some (g.2.2.2,⟨false,false,1,30,x11.map (eL OK)⟩)),(8192,some (0,⟨false,true,2,91,[.agg [.sl (c9.map eU8),.int .i64 c10]]⟩))]) (j:=fun _=>Uz c9 c10 f2 n12 x11) ?_ ?_
   ·exact B
   ·rintro ⟨⟩ ⟨v3x2,v4x2,v6x2,v19x2⟩ nn
    try dsimp only
    unfold Uz
    refine bC (E:=fun (_s : (List Int) × Int × (List (List Int))) (g : Nat × Nat × Nat × Nat)=>[(0,.optr 8192 0 0 0),(3,.optr 3 g.1 0 0),(4,.optr 4 g.2.1 0 0),(6,.optr 6 g.2.2.1 0 0),(7,.int .i64 n12),(26,.optr 3 g.1 0 1),(27,.sl (f2.Slots.map OV)),(28,.int .i64 (f2.Slots.length : Int)),(29,.bool (decide ((f2.Slots.length : Int) > 0)))]) (O:=fun s g=>[(3,some (g.1,⟨false,true,3,40,[.agg [.int .i64 f2.Params,.sl (f2.Slots.map OV),.sl (f2.Code.map OU)]]⟩)),(4,some (g.2.1,⟨false,true,1,29,[.agg [.nils]]⟩)),(6,some (g.2.2.1,⟨false,true,1,29,[.agg [.osl 19 g.2.2.2 0 s.2.2.length]]⟩)),(19,some (g.2.2.2,⟨false,false,1,30,s.2.2.map (eL OK)⟩)),(8192,some (0,⟨false,true,2,91,[.agg [.sl (s.1.map eU8),.int .i64 s.2.1]]⟩))]) (j:=fun s=>QO n12 s.1 s.2.1 s.2.2) ?_ ?_
    ·refine A 6 ?_
     refine bD fun r16 hr16=>?_
     refine A 8 ?_
     refine bD fun r17 hr17=>?_
     refine A 4 ?_
     refine cD r ?_ ?_
     ·refine A 7 ?_
      refine lP (E:=fun (s : (List (List Int)) × Int) (g : Nat × Nat × Nat × Nat)=>[(0,.optr 8192 0 0 0),(3,.optr 3 g.1 0 0),(4,.optr 4 g.2.1 0 0),(6,.optr 6 g.2.2.1 0 0),(7,.int .i64 n12),(8,.int .i64 r16.1),(9,.int .i64 s.2),(26,.optr 3 g.1 0 1),(27,.sl (f2.Slots.map OV)),(28,.int .i64 (f2.Slots.length : Int)),(29,.bool (decide ((f2.Slots.length : Int) > 0)))]) (O:=fun s g=>[(3,some (g.1,⟨false,true,3,40,[.agg [.int .i64 f2.Params,.sl (f2.Slots.map OV),.sl (f2.Code.map OU)]]⟩)),(4,some (g.2.1,⟨false,true,1,29,[.agg [.nils]]⟩)),(6,some (g.2.2.1,⟨false,true,1,29,[.agg [.osl 19 g.2.2.2 0 s.1.length]]⟩)),(19,some (g.2.2.2,⟨false,false,1,30,s.1.map (eL OK)⟩)),(8192,some (0,⟨false,true,2,91,[.agg [.sl (r17.2.list.map eU8),.int .i64 r17.2.at_]]⟩))]) (body:=fun s=>Uy r16 n12 r17 s.1 s.2) (s:=(x11,0)) (_,_,_,_) ((hE ⟨rfl,r,r,r,r,r,r,r,r,r,r,trivial⟩ ⟨rfl,r,r,r,r,trivial⟩))<|?_
      rintro ⟨x18,k19⟩ ⟨v3x3,v4x3,v6x3,v19x3⟩ nn
      try dsimp only
      unfold Uy
      refine A 10 ?_
      refine cD r ?_ ?_
      ·refine A 12 ?_
       refine bD fun x_e20 hx_e20=>?_
       refine A 2 ?_
       refine bD fun r21 hr21=>?_
       refine A 2 ?_
       refine bD fun x_o22 hx_o22=>sE (l:=x18) (en:=(eL OK)) (q':=r21) r r r r r r r (by simp) hx_o22 r r r (by simp [Pt,cells,setAt,eL]) r<|?_
       refine A 8 ?_
       exact xL (s:=(x18.set k19.toNat r21,IntKind.i64.wrap (k19 + 1))) (_,_,_,_) ((hE ⟨rfl,r,r,r,r,r,r,r,r,r,r,trivial⟩ ⟨rfl,r,(Eq.trans (b:=some (_,⟨false,true,1,29,[.agg [.osl 19 _ 0 x18.length]]⟩)) r (by simp)),r,r,trivial⟩))
      ·exact B
     ·refine A 8 ?_
      refine bD fun r23 hr23=>?_
      refine A 7 ?_
      refine bD fun r24 hr24=>?_
      refine A 4 ?_
      refine cD r ?_ ?_
      ·refine A 8 ?_
       refine bD fun x_e25 hx_e25=>?_
       refine A 2 ?_
       refine bD fun r26 hr26=>?_
       refine A 2 ?_
       refine bD fun x_o27 hx_o27=>sE (l:=x11) (en:=(eL OK)) (q':=r26) r r r r r r r (by simp) hx_o27 r r r (by simp [Pt,cells,setAt,eL]) r<|?_
       refine A 1 ?_
       exact UO (s:=(r24.2.list,r24.2.at_,x11.set r23.1.toNat r26)) (_,_,_,_) ((hE ⟨rfl,r,r,r,r,r,r,r,r,trivial⟩ ⟨rfl,r,(Eq.trans (b:=some (_,⟨false,true,1,29,[.agg [.osl 19 _ 0 x11.length]]⟩)) r (by simp)),r,r,trivial⟩))
      ·refine A 8 ?_
       refine bD fun x_e28 hx_e28=>?_
       refine A 2 ?_
       refine bD fun r29 hr29=>?_
       refine A 2 ?_
       refine bD fun x_o30 hx_o30=>sE (l:=x11) (en:=(eL OK)) (q':=r29) r r r r r r r (by simp) hx_o30 r r r (by simp [Pt,cells,setAt,eL]) r<|?_
       refine A 1 ?_
       exact UO (s:=(r24.2.list,r24.2.at_,x11.set r23.1.toNat r29)) (_,_,_,_) ((hE ⟨rfl,r,r,r,r,r,r,r,r,trivial⟩ ⟨rfl,r,(Eq.trans (b:=some (_,⟨false,true,1,29,[.agg [.osl 19 _ 0 x11.length]]⟩)) r (by simp)),r,r,trivial⟩))
    ·rintro ⟨c13,c14,x15⟩ ⟨v3x4,v4x4,v6x4,v19x4⟩ nn
     try dsimp only
     unfold QO
     exact B
  ·rintro ⟨c5,c6,x7⟩ ⟨v4x5,v6x5,v19x5⟩ nn
   try dsimp only
   unfold Rx
   refine A 4 ?_
   refine bD fun r31 hr31=>?_
   refine A 10 ?_
   refine cD r ?_ ?_
   ·refine A 3 ?_
    refine cK fun hq=>Yn (l:=x7) r r r r r r hq<|?_
    refine A 12 ?_
    refine Uq (b:=((OO.mk (x7.drop ((1 : Int).toNat))),r31.2)) r ?_ r r ?_ (by first | rfl | (simp only [OH]; rfl) | (simp only [OI]; rfl) | (simp only [OH,OI]; rfl) | simp [Vc,PX])
    all_goals first|(simp;done)|(simp;omega)|rfl|(simp [Pv,PD];done)
   ·refine A 6 ?_
    refine cD r ?_ ?_
    ·refine A 4 ?_
     refine bD fun r32 hr32=>?_
     refine A 2 ?_
     refine bD fun r33 hr33=>?_
     refine A 1 ?_
     refine bS ([r32.1,r33.1] : List Int) OK r r r (by simp) r r r<|cK fun hq=>iO (l:=x7) (en:=(eL OK)) r r r r r hq<|bD fun x_o34 hx_o34=>sE (l:=x7) (en:=(eL OK)) (q':=([r32.1,r33.1] : List Int)) r r r r r r r (by simp) hx_o34 r r r (by simp [Pt,cells,setAt,eL]) r<|?_
     refine A 10 ?_
     refine Uq (b:=((OO.mk (x7.set ((0 : Int).toNat) ([r32.1,r33.1] : List Int))),r33.2)) r ?_ r r ?_ (by first | rfl | (simp only [OH]; rfl) | (simp only [OI]; rfl) | (simp only [OH,OI]; rfl) | simp [Vc,PX])
     all_goals first|(simp;done)|(simp;omega)|rfl|(simp [Pv,PD];done)
    ·refine A 10 ?_
     refine Uq (b:=((OO.mk x7),r31.2)) r ?_ r r ?_ (by first | rfl | (simp only [OH]; rfl) | (simp only [OI]; rfl) | (simp only [OH,OI]; rfl) | simp [Vc,PX])
     all_goals first|(simp;done)|(simp;omega)|rfl|(simp [Pv,PD];done)

def Air (b : Bool) : D:=.bool b
noncomputable def Abf : Dw.Spec:=OT [] .ground Rs Rr (fun a=>Wu a) Air noE
theorem AcZ : OR Tryz.prog 91 Abf:=by
 refine fn2 1 (OX (l:=[(71,AbM)]) (by simp [AdK])) Tryz.func91<|?_
 intro s1
 unfold Wu
 refine A 12 ?_
 refine lP (E:=fun (s : Int) (_g : Unit)=>[(0,.sl (s1.map OK)),(3,.int .i64 s)]) (O:=fun _ _=>[]) (body:=fun s=>RG s1 s) (s:=0) () ((hE ⟨rfl,r,trivial⟩ trivial))<|?_
 rintro i2 ⟨⟩ nn
 try dsimp only
 unfold RG
 exact B

def AiC (b : Bool) : D:=.bool b
noncomputable def Abg : Dw.Spec:=OT [] .ground Ps Pr (fun a=>Wv a.1 a.2) AiC noE
theorem Ada : OR Tryz.prog 58 Abg:=by
 refine fn2 2 (OX (l:=[(91,Abf)]) (by simp [AcZ])) Tryz.func58<|?_
 rintro ⟨f1,l2⟩
 unfold Wv
 refine A 19 ?_
 refine cD r ?_ ?_
 ·exact B
 ·refine A 9 ?_
  refine lP (E:=fun (s : Int) (g : Nat × Nat)=>[(2,.optr 2 g.1 0 0),(3,.optr 3 g.2 0 0),(5,.int .i64 s)]) (O:=fun _ g=>[(2,some (g.1,⟨false,true,3,40,[.agg [.int .i64 f1.Params,.sl (f1.Slots.map OV),.sl (f1.Code.map OU)]]⟩)),(3,some (g.2,⟨false,true,1,29,[.agg [.sl (l2.Out.map (eL OK))]]⟩))]) (body:=fun s=>XM l2 f1 s) (s:=0) (_,_) ((hE ⟨rfl,r,r,trivial⟩ ⟨rfl,r,trivial⟩))<|?_
  rintro k3 ⟨v2x1,v3x1⟩ nn
  try dsimp only
  unfold XM
  exact B

def Akt (b : Bool) : D:=.bool b
noncomputable def UT : Dw.Spec:=OT [] .ground Qz Qy (fun a=>Td a.1 a.2) Akt noE
theorem Vw : OR Tryz.prog 62 UT:=by
 refine fn2 2 (Pm) Tryz.func62<|?_
 rintro ⟨s1,n2⟩
 unfold Td
 refine A 12 ?_
 refine lP (E:=fun (s : Int) (_g : Unit)=>[(0,.sl (s1.map OK)),(1,.int .i64 n2),(5,.int .i64 s)]) (O:=fun _ _=>[]) (body:=fun s=>Vv s1 n2 s) (s:=0) () ((hE ⟨rfl,r,r,trivial⟩ trivial))<|?_
 rintro i3 ⟨⟩ nn
 try dsimp only
 unfold Vv
 exact B

def Ais (b : (List Int)) : D:=.sl (b.map OK)
noncomputable def AdJ : Dw.Spec:=OT [] (.row 1 3) QN QM (fun a=>YC a.1 a.2) Ais noE
theorem Aht : OR Tryz.prog 119 AdJ:=by
 refine fn2 2 (OX (l:=[(62,UT)]) (by simp [Vw])) Tryz.func119<|?_
 rintro ⟨a1,b2⟩
 unfold YC
 refine A 17 ?_
 refine lP (E:=fun (s : (List Int) × Int) (g : Nat)=>[(0,.sl (a1.map OK)),(1,.sl (b2.map OK)),(5,.osl 5 g 0 s.1.length),(6,.int .i64 s.2)]) (O:=fun s g=>[(5,some (g,⟨false,false,1,3,s.1.map OK⟩))]) (body:=fun s=>Sx a1 b2 s.1 s.2) (s:=(([] : List Int),0)) _ ((hE ⟨rfl,r,r,r,trivial⟩ ⟨rfl,trivial⟩))<|?_
 rintro ⟨out3,i4⟩ v5x1 nn
 try dsimp only
 unfold Sx
 exact B

def Ty (a : OJ × OO × Int) : List D:=[PO a.1,PX a.2.1,.int .i64 a.2.2]
def Tx (ds : List D) : OJ × OO × Int:=(RV (ds.getD 0 .top),UP (ds.getD 1 .top),uI (ds.getD 2 .top))
theorem Agg (a : OJ × OO × Int) : Tx (Ty a) = a:=by simp [Tx,Ty,uI]
instance : Pn Ty Tx:=⟨Agg⟩
def AgJ (b : (List Int)) : D:=.sl (b.map OK)
noncomputable def Acm : Dw.Spec:=OT [] (.row 1 3) Ty Tx (fun a=>Wl a.1 a.2.1 a.2.2) AgJ noE
theorem Agh : OR Tryz.prog 90 Acm:=by
 refine fn2 3 (OX (l:=[(51,AbN),(53,Adz),(119,AdJ),(52,Wj)]) (by simp [AdM,AfH,Aht,XF])) Tryz.func90<|?_
 rintro ⟨f1,l2,k3⟩
 unfold Wl
 refine A 16 ?_
 refine bD fun r4 hr4=>?_
 refine A 11 ?_
 refine lP (E:=fun (s : (List Int) × Int) (g : Nat × Nat × Nat × Nat)=>[(2,.int .i64 k3),(3,.optr 3 g.1 0 0),(4,.optr 4 g.2.1 0 0),(7,.osl 7 g.2.2.1 0 s.1.length),(8,.osl 8 g.2.2.2 0 r4.length),(9,.int .i64 s.2)]) (O:=fun s g=>[(3,some (g.1,⟨false,true,3,40,[.agg [.int .i64 f1.Params,.sl (f1.Slots.map OV),.sl (f1.Code.map OU)]]⟩)),(4,some (g.2.1,⟨false,true,1,29,[.agg [.sl (l2.Out.map (eL OK))]]⟩)),(7,some (g.2.2.1,⟨false,false,1,3,s.1.map OK⟩)),(8,some (g.2.2.2,⟨false,false,1,3,r4.map OK⟩))]) (body:=fun s=>Sy r4 f1 l2 k3 s.1 s.2) (s:=(([] : List Int),0)) (_,_,_,_) ((hE ⟨rfl,r,r,r,r,r,trivial⟩ ⟨rfl,r,r,r,trivial⟩))<|?_
 rintro ⟨out5,i6⟩ ⟨v3x1,v4x1,v7x1,v8x1⟩ nn
 try dsimp only
 unfold Sy
 exact B

def AiB (b : Int × Int × Bool) : D:=.tup [.int .i64 b.1,.int .i64 b.2.1,.bool b.2.2]
noncomputable def AdO : Dw.Spec:=OT [] .ground Ps Pr (fun a=>YE a.1 a.2) AiB noE
theorem Ahy : OR Tryz.prog 57 AdO:=by
 refine fn2 2 (OX (l:=[(58,Abg),(90,Acm)]) (by simp [Ada,Agh])) Tryz.func57<|?_
 rintro ⟨f1,l2⟩
 unfold YE
 refine A 14 ?_
 refine bD fun r3 hr3=>?_
 refine A 4 ?_
 refine cD r ?_ ?_
 ·exact B
 ·refine A 9 ?_
  refine lP (E:=fun (s : Int) (g : Nat × Nat)=>[(2,.optr 2 g.1 0 0),(3,.optr 3 g.2 0 0),(7,.int .i64 s)]) (O:=fun _ g=>[(2,some (g.1,⟨false,true,3,40,[.agg [.int .i64 f1.Params,.sl (f1.Slots.map OV),.sl (f1.Code.map OU)]]⟩)),(3,some (g.2,⟨false,true,1,29,[.agg [.sl (l2.Out.map (eL OK))]]⟩))]) (body:=fun s=>XL f1 l2 s) (s:=0) (_,_) ((hE ⟨rfl,r,r,trivial⟩ ⟨rfl,r,trivial⟩))<|?_
  rintro k4 ⟨v2x1,v3x1⟩ nn
  try dsimp only
  unfold XL
  exact B

def AiA (b : Int) : D:=.int .i64 b
noncomputable def YY : Dw.Spec:=OT [] .ground Ps Pr (fun a=>UU a.1 a.2) AiA noE
theorem AaH : OR Tryz.prog 30 YY:=by
 refine fn2 2 (OX (l:=[(57,AdO),(58,Abg)]) (by simp [Ahy,Ada])) Tryz.func30<|?_
 intro a
 unfold UU
 exact B

def WQ (a : OJ × OO × Bool) : List D:=[PO a.1,PX a.2.1,.bool a.2.2]
def WO (ds : List D) : OJ × OO × Bool:=(RV (ds.getD 0 .top),UP (ds.getD 1 .top),uBo (ds.getD 2 .top))
theorem AhE (a : OJ × OO × Bool) : WO (WQ a) = a:=by simp [WO,WQ,uBo]
instance : Pn WQ WO:=⟨AhE⟩
def AiG (b : (List (List Int)) × Int) : D:=.tup [.sl (b.1.map (eL OK)),.int .i64 b.2]
noncomputable def Abh : Dw.Spec:=OT [] .val WQ WO (fun a=>Ww a.1 a.2.1 a.2.2) AiG noE
theorem Adc : OR Tryz.prog 96 Abh:=by
 refine fn2 3 (OX (l:=[(30,YY),(61,Tq),(42,Wt)]) (by simp [AaH,TW,Xm])) Tryz.func96<|?_
 rintro ⟨f1,l2,strict3⟩
 unfold Ww
 refine A 13 ?_
 refine bD fun r4 hr4=>?_
 refine A 10 ?_
 refine cD r ?_ ?_
 ·exact B
 ·refine A 7 ?_
  refine cK fun hq=>AcG (α:=Int) r r r hq r<|?_
  refine A 2 ?_
  refine TJ (E:=[(2,.bool strict3),(3,.optr 3 _ 0 0),(4,.optr 4 _ 0 0),(9,.osl 9 _ 0 ((List.replicate (f1.Slots.length : Int).toNat ([] : (List Int))).length))]) (O:=[(3,some (_,⟨false,true,3,40,[.agg [.int .i64 f1.Params,.sl (f1.Slots.map OV),.sl (f1.Code.map OU)]]⟩)),(4,some (_,⟨false,true,1,29,[.agg [.sl (l2.Out.map (eL OK))]]⟩)),(9,some (_,⟨false,false,1,30,(List.replicate (f1.Slots.length : Int).toNat ([] : (List Int))).map (eL OK)⟩))]) ((Aev (g:=9) r (AfY (l:=List.replicate (f1.Slots.length : Int).toNat ([] : (List Int))) OK (fun _ h=>List.eq_of_mem_replicate h)) (hE ⟨rfl,r,r,r,trivial⟩ ⟨rfl,r,r,trivial⟩))) fun nn=>?_
  refine A 7 ?_
  refine lP (E:=fun (s : (List (List Int)) × Int) (g : Nat × Nat × Nat)=>[(2,.bool strict3),(3,.optr 3 g.1 0 0),(4,.optr 4 g.2.1 0 0),(9,.osl 9 g.2.2 0 s.1.length),(10,.int .i64 s.2)]) (O:=fun s g=>[(3,some (g.1,⟨false,true,3,40,[.agg [.int .i64 f1.Params,.sl (f1.Slots.map OV),.sl (f1.Code.map OU)]]⟩)),(4,some (g.2.1,⟨false,true,1,29,[.agg [.sl (l2.Out.map (eL OK))]]⟩)),(9,some (g.2.2,⟨false,false,1,30,s.1.map (eL OK)⟩))]) (body:=fun s=>XT f1 l2 strict3 s.1 s.2) (s:=(List.replicate (f1.Slots.length : Int).toNat ([] : (List Int)),0)) (_,_,_) ((hE ⟨rfl,r,r,r,r,trivial⟩ ⟨rfl,r,r,trivial⟩))<|?_
  rintro ⟨out5,k6⟩ ⟨v3x1,v4x1,v9x1⟩ nn
  try dsimp only
  unfold XT
  refine A 10 ?_
  refine cD r ?_ ?_
  ·refine A 2 ?_
   refine bC (E:=fun (s : Int × Int × Int × Int × Int × (List (List Int))) (g : Nat × Nat × Nat)=>[(2,.bool strict3),(3,.optr 3 g.1 0 0),(4,.optr 4 g.2.1 0 0),(9,.osl 9 g.2.2 0 s.2.2.2.2.2.length),(10,.int .i64 k6)]) (O:=fun s g=>[(3,some (g.1,⟨false,true,3,40,[.agg [.int .i64 f1.Params,.sl (f1.Slots.map OV),.sl (f1.Code.map OU)]]⟩)),(4,some (g.2.1,⟨false,true,1,29,[.agg [.sl (l2.Out.map (eL OK))]]⟩)),(9,some (g.2.2,⟨false,false,1,30,s.2.2.2.2.2.map (eL OK)⟩))]) (j:=fun s=>Sz k6 s.1 s.2.1 s.2.2.1 s.2.2.2.1 s.2.2.2.2.1 s.2.2.2.2.2) ?_ ?_
   ·refine A 5 ?_
    refine bD fun x_x13 hx_x13=>?_
    refine A 9 ?_
    refine bD fun r14 hr14=>?_
    refine A 8 ?_
    refine sC (E:=fun (_s : Unit) (g : Nat × Nat × Nat × Nat)=>[(2,.bool strict3),(3,.optr 3 g.1 0 0),(4,.optr 4 g.2.1 0 0),(9,.osl 9 g.2.2.1 0 out5.length),(10,.int .i64 k6),(11,.optr 11 g.2.2.2 0 0),(12,.int .i64 r14.1),(13,.bool r14.2)]) (O:=fun _ g=>[(3,some (g.1,⟨false,true,3,40,[.agg [.int .i64 f1.Params,.sl (f1.Slots.map OV),.sl (f1.Code.map OU)]]⟩)),(4,some (g.2.1,⟨false,true,1,29,[.agg [.sl (l2.Out.map (eL OK))]]⟩)),(9,some (g.2.2.1,⟨false,false,1,30,out5.map (eL OK)⟩)),(11,some (g.2.2.2,⟨false,true,5,69,[.agg [.int .i64 x_x13.Op,.int .i64 x_x13.A,.int .i64 x_x13.B,.int .i64 x_x13.C,.int .u64 x_x13.Imm]]⟩))]) (j:=fun _=>TO l2 k6 r14 strict3 x_x13 out5) ?_ ?_
    ·exact B
    ·rintro ⟨⟩ ⟨v3x2,v4x2,v9x2,v11x2⟩ nn
     try dsimp only
     unfold TO
     refine A 6 ?_
     refine lP (E:=fun (s : (List (List Int)) × Int) (g : Nat × Nat × Nat × Nat)=>[(2,.bool strict3),(3,.optr 3 g.1 0 0),(4,.optr 4 g.2.1 0 0),(9,.osl 9 g.2.2.1 0 s.1.length),(10,.int .i64 k6),(11,.optr 11 g.2.2.2 0 0),(12,.int .i64 r14.1),(13,.bool r14.2),(14,.int .i64 s.2)]) (O:=fun s g=>[(3,some (g.1,⟨false,true,3,40,[.agg [.int .i64 f1.Params,.sl (f1.Slots.map OV),.sl (f1.Code.map OU)]]⟩)),(4,some (g.2.1,⟨false,true,1,29,[.agg [.sl (l2.Out.map (eL OK))]]⟩)),(9,some (g.2.2.1,⟨false,false,1,30,s.1.map (eL OK)⟩)),(11,some (g.2.2.2,⟨false,true,5,69,[.agg [.int .i64 x_x13.Op,.int .i64 x_x13.A,.int .i64 x_x13.B,.int .i64 x_x13.C,.int .u64 x_x13.Imm]]⟩))]) (body:=fun s=>Vz l2 k6 r14 strict3 x_x13 s.1 s.2) (s:=(out5,0)) (_,_,_,_) ((hE ⟨rfl,r,r,r,r,r,r,r,r,trivial⟩ ⟨rfl,r,r,r,trivial⟩))<|?_
     rintro ⟨out15,i16⟩ ⟨v3x3,v4x3,v9x3,v11x3⟩ nn
     try dsimp only
     unfold Vz
     refine sC (E:=fun (_s : Unit) (g : Nat × Nat × Nat × Nat)=>[(2,.bool strict3),(3,.optr 3 g.1 0 0),(4,.optr 4 g.2.1 0 0),(9,.osl 9 g.2.2.1 0 out15.length),(10,.int .i64 k6),(11,.optr 11 g.2.2.2 0 0),(12,.int .i64 r14.1),(13,.bool r14.2),(14,.int .i64 i16),(62,.bool r14.2)]) (O:=fun _ g=>[(3,some (g.1,⟨false,true,3,40,[.agg [.int .i64 f1.Params,.sl (f1.Slots.map OV),.sl (f1.Code.map OU)]]⟩)),(4,some (g.2.1,⟨false,true,1,29,[.agg [.sl (l2.Out.map (eL OK))]]⟩)),(9,some (g.2.2.1,⟨false,false,1,30,out15.map (eL OK)⟩)),(11,some (g.2.2.2,⟨false,true,5,69,[.agg [.int .i64 x_x13.Op,.int .i64 x_x13.A,.int .i64 x_x13.B,.int .i64 x_x13.C,.int .u64 x_x13.Imm]]⟩))]) (j:=fun _=>XU l2 k6 i16 r14 out15 strict3 x_x13) ?_ ?_
     ·exact B
     ·rintro ⟨⟩ ⟨v3x4,v4x4,v9x4,v11x4⟩ nn
      try dsimp only
      unfold XU
      refine A 7 ?_
      refine bD fun x_x18 hx_x18=>?_
      refine A 3 ?_
      refine bD fun x_x19 hx_x19=>?_
      refine A 5 ?_
      refine sC (E:=fun (s : Bool × Bool × Bool × Bool) (g : Nat × Nat × Nat × Nat)=>[(2,.bool strict3),(3,.optr 3 g.1 0 0),(4,.optr 4 g.2.1 0 0),(9,.osl 9 g.2.2.1 0 out15.length),(10,.int .i64 k6),(11,.optr 11 g.2.2.2 0 0),(12,.int .i64 r14.1),(13,.bool r14.2),(14,.int .i64 i16),(15,.int .i64 x_x19),(62,.bool r14.2),(78,.bool strict3),(79,.bool (!strict3)),(80,.bool s.1),(84,.bool s.2.1),(85,.bool s.2.2.1),(90,.bool s.2.2.2)]) (O:=fun _ g=>[(3,some (g.1,⟨false,true,3,40,[.agg [.int .i64 f1.Params,.sl (f1.Slots.map OV),.sl (f1.Code.map OU)]]⟩)),(4,some (g.2.1,⟨false,true,1,29,[.agg [.sl (l2.Out.map (eL OK))]]⟩)),(9,some (g.2.2.1,⟨false,false,1,30,out15.map (eL OK)⟩)),(11,some (g.2.2.2,⟨false,true,5,69,[.agg [.int .i64 x_x13.Op,.int .i64 x_x13.A,.int .i64 x_x13.B,.int .i64 x_x13.C,.int .u64 x_x13.Imm]]⟩))]) (j:=fun s=>RH r14 out15 x_x19 i16 s.1 s.2.1 s.2.2.1 s.2.2.2) ?_ ?_
      ·exact B
      ·rintro ⟨x20,x21,x22,x23⟩ ⟨v3x5,v4x5,v9x5,v11x5⟩ nn
       try dsimp only
       unfold RH
       refine A 8 ?_
       refine bD fun out_e24 hout_e24=>?_
       refine A 2 ?_
       refine bD fun r25 hr25=>?_
       refine A 4 ?_
       refine bD fun out_e26 hout_e26=>?_
       refine A 2 ?_
       refine bD fun r27 hr27=>?_
       refine A 2 ?_
       refine bD fun out_o28 hout_o28=>sE (l:=out15) (en:=(eL OK)) (q':=r25) r r r r r r r (by simp) hout_o28 r r r (by simp [Pt,cells,setAt,eL]) r<|?_
       refine A 1 ?_
       refine bD fun out_o29 hout_o29=>sE (l:=out15.set r14.1.toNat r25) (en:=(eL OK)) (q':=r27) r r r r r r r (by simp) hout_o29 r r r (by simp [Pt,cells,setAt,eL]) r<|?_
       exact B
   ·rintro ⟨x7,x8,x9,x10,x11,out12⟩ ⟨v3x6,v4x6,v9x6⟩ nn
    try dsimp only
    unfold Sz
    exact B
  ·exact B

def AiE (b : (List (List Int)) × Int) : D:=.tup [.sl (b.1.map (eL OK)),.int .i64 b.2]
noncomputable def AdQ : Dw.Spec:=OT [] .val Ps Pr (fun a=>YG a.1 a.2) AiE noE
theorem AhB : OR Tryz.prog 72 AdQ:=by
 refine fn2 2 (OX (l:=[(96,Abh)]) (by simp [Adc])) Tryz.func72<|?_
 intro a
 unfold YG
 exact B

def AiF (b : (List PG)) : D:=.sl (b.map Tl)
noncomputable def AdR : Dw.Spec:=OT [] (.row 2 149) UL UK (fun a=>YH a) AiF noE
theorem AhC : OR Tryz.prog 97 AdR:=by
 refine fn2 1 (Pm) Tryz.func97<|?_
 intro f1
 unfold YH
 refine A 18 ?_
 refine lP (E:=fun (s : (List PG) × Int) (g : Nat × Nat)=>[(1,.optr 1 g.1 0 0),(3,.osl 3 g.2 0 s.1.length),(4,.int .i64 s.2)]) (O:=fun s g=>[(1,some (g.1,⟨false,true,3,40,[.agg [.int .i64 f1.Params,.sl (f1.Slots.map OV),.sl (f1.Code.map OU)]]⟩)),(3,some (g.2,⟨false,false,2,149,s.1.map Tl⟩))]) (body:=fun s=>XR f1 s.1 s.2) (s:=(([] : List PG),0)) (_,_) ((hE ⟨rfl,r,r,trivial⟩ ⟨rfl,r,trivial⟩))<|?_
 rintro ⟨out2,k3⟩ ⟨v1x1,v3x1⟩ nn
 try dsimp only
 unfold XR
 refine A 10 ?_
 refine cD r ?_ ?_
 ·refine A 2 ?_
  refine bC (E:=fun (s : (List PG)) (g : Nat × Nat)=>[(1,.optr 1 g.1 0 0),(3,.osl 3 g.2 0 s.length),(4,.int .i64 k3)]) (O:=fun s g=>[(1,some (g.1,⟨false,true,3,40,[.agg [.int .i64 f1.Params,.sl (f1.Slots.map OV),.sl (f1.Code.map OU)]]⟩)),(3,some (g.2,⟨false,false,2,149,s.map Tl⟩))]) (j:=fun s=>Vy k3 s) ?_ ?_
  ·refine A 5 ?_
   refine bD fun x_x5 hx_x5=>?_
   refine A 17 ?_
   refine sC (E:=fun (s : Bool) (g : Nat × Nat × Nat)=>[(1,.optr 1 g.1 0 0),(3,.osl 3 g.2.1 0 out2.length),(4,.int .i64 k3),(6,.optr 6 g.2.2 0 0),(7,.bool s)]) (O:=fun _ g=>[(1,some (g.1,⟨false,true,3,40,[.agg [.int .i64 f1.Params,.sl (f1.Slots.map OV),.sl (f1.Code.map OU)]]⟩)),(3,some (g.2.1,⟨false,false,2,149,out2.map Tl⟩)),(6,some (g.2.2,⟨false,true,2,149,[.agg [.int .i64 x_x5.A,.int .i64 x_x5.B]]⟩))]) (j:=fun s=>TN out2 x_x5 k3 s) ?_ ?_
   ·exact B
   ·rintro old6 ⟨v1x2,v3x2,v6x2⟩ nn
    try dsimp only
    unfold TN
    refine A 7 ?_
    refine lP (E:=fun (s : Bool × Int) (g : Nat × Nat × Nat)=>[(1,.optr 1 g.1 0 0),(3,.osl 3 g.2.1 0 out2.length),(4,.int .i64 k3),(6,.optr 6 g.2.2 0 0),(7,.bool s.1),(8,.int .i64 s.2)]) (O:=fun _ g=>[(1,some (g.1,⟨false,true,3,40,[.agg [.int .i64 f1.Params,.sl (f1.Slots.map OV),.sl (f1.Code.map OU)]]⟩)),(3,some (g.2.1,⟨false,false,2,149,out2.map Tl⟩)),(6,some (g.2.2,⟨false,true,2,149,[.agg [.int .i64 x_x5.A,.int .i64 x_x5.B]]⟩))]) (body:=fun s=>XS out2 x_x5 k3 s.1 s.2) (s:=(old6,0)) (_,_,_) ((hE ⟨rfl,r,r,r,r,r,trivial⟩ ⟨rfl,r,r,trivial⟩))<|?_
    rintro ⟨old7,i8⟩ ⟨v1x3,v3x3,v6x3⟩ nn
    try dsimp only
    unfold XS
    refine A 9 ?_
    refine cD r ?_ ?_
    ·exact B
    ·refine A 11 ?_
     refine cD r ?_ ?_
     ·refine A 3 ?_
      refine bS ([(PG.mk x_x5.A x_x5.B)] : List PG) Tl r r r (by simp) r r r<|?_
      exact B
     ·exact B
  ·rintro out4 ⟨v1x4,v3x4⟩ nn
   try dsimp only
   unfold Vy
   exact B
 ·exact B

def AgM (b : (List Int)) : D:=.sl (b.map OK)
noncomputable def Aab : Dw.Spec:=OT [] (.row 1 3) Qz Qy (fun a=>Tv a.1 a.2) AgM noE
theorem AbQ : OR Tryz.prog 34 Aab:=by
 refine fn2 2 (Pm) Tryz.func34<|?_
 rintro ⟨to1,s2⟩
 unfold Tv
 refine A 17 ?_
 refine lP (E:=fun (s : (List Int) × Int) (g : Nat)=>[(0,.sl (to1.map OK)),(1,.int .i64 s2),(5,.osl 5 g 0 s.1.length),(6,.int .i64 s.2)]) (O:=fun s g=>[(5,some (g,⟨false,false,1,3,s.1.map OK⟩))]) (body:=fun s=>VP to1 s2 s.1 s.2) (s:=(([] : List Int),0)) _ ((hE ⟨rfl,r,r,r,trivial⟩ ⟨rfl,trivial⟩))<|?_
 rintro ⟨out3,t4⟩ v5x1 nn
 try dsimp only
 unfold VP
 exact B

def WS (a : (List (List Int)) × (List Int) × Int × Int) : List D:=[.sl (a.1.map (eL OK)),.sl (a.2.1.map OK),.int .i64 a.2.2.1,.int .i64 a.2.2.2]
def WR (ds : List D) : (List (List Int)) × (List Int) × Int × Int:=((uL (uL uI)) (ds.getD 0 .top),(uL uI) (ds.getD 1 .top),uI (ds.getD 2 .top),uI (ds.getD 3 .top))
theorem AhG (a : (List (List Int)) × (List Int) × Int × Int) : WR (WS a) = a:=by simp [WR,WS,uI,PQ (u:=(uL uI)) (en:=(eL OK)) (PQ (u:=uI) (en:=OK) (fun _=>rfl)),PQ (u:=uI) (en:=OK) (fun _=>rfl)]
instance : Pn WS WR:=⟨AhG⟩
def AiI (b : Bool) : D:=.bool b
noncomputable def AdT : Dw.Spec:=OT [] .ground WS WR (fun a=>YJ a.1 a.2.1 a.2.2.1 a.2.2.2) AiI noE
theorem AhH : OR Tryz.prog 98 AdT:=by
 refine fn2 4 (OX (l:=[(34,Aab),(62,UT)]) (by simp [AbQ,Vw])) Tryz.func98<|?_
 rintro ⟨g1,to2,a3,b4⟩
 unfold YJ
 refine A 9 ?_
 refine bD fun r5 hr5=>?_
 refine A 3 ?_
 refine bD fun r6 hr6=>?_
 refine A 12 ?_
 refine lP (E:=fun (s : Int) (g : Nat × Nat)=>[(0,.sl (g1.map (eL OK))),(9,.osl 9 g.1 0 r5.length),(10,.osl 10 g.2 0 r6.length),(11,.int .i64 s)]) (O:=fun _ g=>[(9,some (g.1,⟨false,false,1,3,r5.map OK⟩)),(10,some (g.2,⟨false,false,1,3,r6.map OK⟩))]) (body:=fun s=>XX r5 r6 g1 s) (s:=0) (_,_) ((hE ⟨rfl,r,r,r,trivial⟩ ⟨rfl,r,trivial⟩))<|?_
 rintro i7 ⟨v9x1,v10x1⟩ nn
 try dsimp only
 unfold XX
 refine A 9 ?_
 refine cD r ?_ ?_
 ·refine A 2 ?_
  refine bC (E:=fun (_s : Unit) (g : Nat × Nat)=>[(0,.sl (g1.map (eL OK))),(9,.osl 9 g.1 0 r5.length),(10,.osl 10 g.2 0 r6.length),(11,.int .i64 i7)]) (O:=fun _ g=>[(9,some (g.1,⟨false,false,1,3,r5.map OK⟩)),(10,some (g.2,⟨false,false,1,3,r6.map OK⟩))]) (j:=fun _=>XZ i7) ?_ ?_
  ·refine A 6 ?_
   refine lP (E:=fun (s : Int) (g : Nat × Nat)=>[(0,.sl (g1.map (eL OK))),(9,.osl 9 g.1 0 r5.length),(10,.osl 10 g.2 0 r6.length),(11,.int .i64 i7),(12,.int .i64 s)]) (O:=fun _ g=>[(9,some (g.1,⟨false,false,1,3,r5.map OK⟩)),(10,some (g.2,⟨false,false,1,3,r6.map OK⟩))]) (body:=fun s=>XY r6 i7 r5 g1 s) (s:=0) (_,_) ((hE ⟨rfl,r,r,r,r,trivial⟩ ⟨rfl,r,trivial⟩))<|?_
   rintro k8 ⟨v9x2,v10x2⟩ nn
   try dsimp only
   unfold XY
   exact B
  ·rintro ⟨⟩ ⟨v9x3,v10x3⟩ nn
   try dsimp only
   unfold XZ
   exact B
 ·exact B

end Go.Proofs.YtpagjjmondojpaaGreatDoor
