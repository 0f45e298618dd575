/-
  Programs on typed data, and the proofs that the code does what they say; written by a program (dx.py).
-/
import Derived.Test.YtpagjjmondojpaaGreatDoorProg
import Derived.Test.YtpagjjmondojpaaGreatDoorDd
import Derived.KernelRfl
import Derived.Test.YtpagjjmondojpaaGreatDoorDxP
import Derived.Test.YtpagjjmondojpaaGreatDoorDxF2
namespace Go.Proofs.YtpagjjmondojpaaGreatDoor
open Go Go.Dw Go.Proofs
set_option maxRecDepth 100000
set_option maxHeartbeats 4000000
open Go.Dw renaming QP → bD,PM → cK,Adg → bS,Abk → aP,UQ → sE,AaB → iO,Abl → cD,Adh → xL,Zm → hE,AcO → lP,Aaa → sC,Yh → bC,rf → r
def Ajf (b : Bool) : D:=.bool b
noncomputable def Ael : Dw.Spec:=Pe [] .ground QV QU (fun a=>ZN a.1 a.2) Ajf noE
theorem AhT : Pd Tryz.prog 89 Ael:=by
 refine fn2 2 (Pz) Tryz.func89<|?_
 rintro ⟨a1,b2⟩
 unfold ZN
 refine A 15 ?_
 refine cD r ?_ ?_
 ·exact B
 ·refine A 9 ?_
  refine lP (E:=fun (s : Int) (_g : Unit)=>[(0,.sl (a1.map Pa)),(1,.sl (b2.map Pa)),(5,.int .i64 s)]) (O:=fun _ _=>[]) (body:=fun s=>Tm a1 b2 s) (s:=0) () ((hE ⟨rfl,r,r,trivial⟩ trivial))<|?_
  rintro i3 ⟨⟩ nn
  try dsimp only
  unfold Tm
  exact B

def UX (a : (List (List Int)) × (List (List Int))) : List D:=[.sl (a.1.map (eL Pa)),.sl (a.2.map (eL Pa))]
def UW (ds : List D) : (List (List Int)) × (List (List Int)):=((uL (uL uI)) (ds.getD 0 .top),(uL (uL uI)) (ds.getD 1 .top))
theorem AfC (a : (List (List Int)) × (List (List Int))) : UW (UX a) = a:=by simp [UW,UX,Qa (u:=(uL uI)) (en:=(eL Pa)) (Qa (u:=uI) (en:=Pa) (fun _=>rfl))]
instance : PA UX UW:=⟨AfC⟩
def Agd (b : Bool) : D:=.bool b
noncomputable def AbU : Dw.Spec:=Pe [] .ground UX UW (fun a=>VW a.1 a.2) Agd noE
theorem AfD : Pd Tryz.prog 54 AbU:=by
 refine fn2 2 (Pk (l:=[(89,Ael)]) (by simp [AhT])) Tryz.func54<|?_
 rintro ⟨a1,b2⟩
 unfold VW
 refine A 15 ?_
 refine cD r ?_ ?_
 ·exact B
 ·refine A 9 ?_
  refine lP (E:=fun (s : Int) (_g : Unit)=>[(0,.sl (a1.map (eL Pa))),(1,.sl (b2.map (eL Pa))),(5,.int .i64 s)]) (O:=fun _ _=>[]) (body:=fun s=>Rz a1 b2 s) (s:=0) () ((hE ⟨rfl,r,r,trivial⟩ trivial))<|?_
  rintro i3 ⟨⟩ nn
  try dsimp only
  unfold Rz
  exact B

def XB (a : Pf × Pf) : List D:=[QA a.1,QA a.2]
def XA (ds : List D) : Pf × Pf:=(VR (ds.getD 0 .top),VR (ds.getD 1 .top))
theorem AhW (a : Pf × Pf) : XA (XB a) = a:=by simp [XA,XB]
instance : PA XB XA:=⟨AhW⟩
def Ajj (b : Bool) : D:=.bool b
noncomputable def Aem : Dw.Spec:=Pe [] .ground XB XA (fun a=>ZP a.1 a.2) Ajj noE
theorem AhX : Pd Tryz.prog 28 Aem:=by
 refine fn2 2 (Pk (l:=[(54,AbU)]) (by simp [AfD])) Tryz.func28<|?_
 intro a
 unfold ZP
 exact B

def UJ (a : OX) : List D:=[Qe a]
def UI (ds : List D) : OX:=Sn (ds.getD 0 .top)
theorem AgW (a : OX) : UI (UJ a) = a:=by simp [UI,UJ]
instance : PA UJ UI:=⟨AgW⟩
def AhY (b : Pf) : D:=QA b
noncomputable def VY : Dw.Spec:=Pe [] .val UJ UI (fun a=>SO a) AhY noE
theorem XD : Pd Tryz.prog 9 VY:=by
 refine fn2 1 (Pk (l:=[(27,Aeo),(28,Aem)]) (by simp [AhZ,AhX])) Tryz.func9<|?_
 intro f1
 unfold SO
 refine A 11 ?_
 refine cK fun hq=>Aco (α:=Int) r r r hq r<|?_
 refine A 4 ?_
 refine TG (E:=[(1,.optr 1 _ 0 0),(2,.optr 2 _ 0 0),(3,.optr 3 _ 0 0)]) (O:=[(1,some (_,⟨false,true,3,40,[.agg [.int .i64 f1.Params,.sl (f1.Slots.map Ph),.sl (f1.Code.map Pg)]]⟩)),(2,some (_,⟨false,true,1,29,[.agg [.nils]]⟩)),(3,some (_,⟨false,true,1,29,[.agg [.osl 8 _ 0 ((List.replicate (f1.Code.length : Int).toNat ([] : (List Int))).length)]]⟩)),(8,some (_,⟨false,false,1,30,(List.replicate (f1.Code.length : Int).toNat ([] : (List Int))).map (eL Pa)⟩))]) ((Aed (g:=8) r (Afy (l:=List.replicate (f1.Code.length : Int).toNat ([] : (List Int))) Pa (fun _ h=>List.eq_of_mem_replicate h)) (hE ⟨rfl,r,r,trivial⟩ ⟨rfl,r,r,r,trivial⟩))) fun nn=>?_
 refine A 1 ?_
 refine lP (E:=fun (_s : (List (List Int))) (g : Nat × Nat × Nat)=>[(1,.optr 1 g.1 0 0),(2,.optr 2 g.2.1 0 0),(3,.optr 3 g.2.2 0 0)]) (O:=fun s g=>[(1,some (g.1,⟨false,true,3,40,[.agg [.int .i64 f1.Params,.sl (f1.Slots.map Ph),.sl (f1.Code.map Pg)]]⟩)),(2,some (g.2.1,⟨false,true,1,29,[.agg [.nils]]⟩)),(3,some (g.2.2,⟨false,true,1,29,[.agg [.sl (s.map (eL Pa))]]⟩))]) (body:=fun s=>XC f1 s) (s:=List.replicate (f1.Code.length : Int).toNat ([] : (List Int))) (_,_,_) ((Aam [(8,some (_,⟨true,false,1,30,(List.replicate (f1.Code.length : Int).toNat ([] : (List Int))).map (eL Pa)⟩))] ⟨⟨_,_,r,r,r⟩,trivial⟩ ⟨(PD r),(PD r),(PD r),trivial⟩ ⟨(.inl r),(.inl r),(.inr ⟨_,_,_,_,r,r,r,r,YZ r ⟨(WU (l:=List.replicate (f1.Code.length : Int).toNat ([] : (List Int))) (en:=(eL Pa)) r r r (by simp)),trivial⟩⟩),trivial⟩))<|?_
 rintro l2 ⟨v1x1,v2x1,v3x1⟩ nn
 try dsimp only
 unfold XC
 exact B

def RX (a : Mk × OX) : List D:=[Py a.1,Qe a.2]
def RW (ds : List D) : Mk × OX:=(RU (ds.getD 0 .top),Sn (ds.getD 1 .top))
theorem AdH (a : Mk × OX) : RW (RX a) = a:=by simp [RW,RX]
instance : PA RX RW:=⟨AdH⟩
def WV (b : Pf × Mk) : D:=QA b.1
def AdS (b : Pf × Mk) : List D:=[Py b.2]
noncomputable def AaC : Dw.Spec:=Pe [(0,(2,91))] .val RX RW (fun a=>TQ a.1 a.2) WV AdS
theorem AdI : Pd Tryz.prog 22 AaC:=by
 refine fn2 2 (Pk (l:=[(9,VY),(21,PL),(42,Wg)]) (by simp [XD,PN,Xc])) Tryz.func22<|?_
 rintro ⟨c1,f2⟩
 unfold TQ
 refine A 9 ?_
 refine bD fun r3 hr3=>?_
 refine A 9 ?_
 refine cK fun hq=>aP (([] : List (List Int))) (r3.Out) (eL Pa) r r r r r r r (by simp) r r r (by simp) r (fun _=>r) r hq<|?_
 refine A 9 ?_
 refine bD fun r4 hr4=>?_
 refine A 5 ?_
 refine lP (E:=fun (s : (List Int) × Int × (List (List Int)) × Int) (g : Nat × Nat × Nat × Nat)=>[(0,.optr 8192 0 0 0),(3,.optr 3 g.1 0 0),(4,.optr 4 g.2.1 0 0),(6,.optr 6 g.2.2.1 0 0),(7,.int .i64 s.2.2.2)]) (O:=fun s g=>[(3,some (g.1,⟨false,true,3,40,[.agg [.int .i64 f2.Params,.sl (f2.Slots.map Ph),.sl (f2.Code.map Pg)]]⟩)),(4,some (g.2.1,⟨false,true,1,29,[.agg [.nils]]⟩)),(6,some (g.2.2.1,⟨false,true,1,29,[.agg [.osl 14 g.2.2.2 0 s.2.2.1.length]]⟩)),(14,some (g.2.2.2,⟨false,false,1,30,s.2.2.1.map (eL Pa)⟩)),(8192,some (0,⟨false,true,2,91,[.agg [.sl (s.1.map eU8),.int .i64 s.2.1]]⟩))]) (body:=fun s=>TT f2 s.1 s.2.1 s.2.2.1 s.2.2.2) (s:=(r4.2.list,r4.2.at_,([] : List (List Int)) ++ r3.Out,r4.1)) (_,_,_,_) ((hE ⟨rfl,r,r,r,r,trivial⟩ ⟨rfl,r,r,r,r,trivial⟩))<|?_
 rintro ⟨c5,c6,x7,n8⟩ ⟨v3x1,v4x1,v6x1,v14x1⟩ nn
 try dsimp only
 unfold TT
 refine sC (E:=fun (_s : Unit) (g : Nat × Nat × Nat × Nat)=>[(0,.optr 8192 0 0 0),(3,.optr 3 g.1 0 0),(4,.optr 4 g.2.1 0 0),(6,.optr 6 g.2.2.1 0 0),(7,.int .i64 n8),(21,.optr 3 g.1 0 1),(22,.sl (f2.Slots.map Ph)),(23,.int .i64 (f2.Slots.length : Int)),(24,.bool (decide ((f2.Slots.length : Int) > 0)))]) (O:=fun _ g=>[(3,some (g.1,⟨false,true,3,40,[.agg [.int .i64 f2.Params,.sl (f2.Slots.map Ph),.sl (f2.Code.map Pg)]]⟩)),(4,some (g.2.1,⟨false,true,1,29,[.agg [.nils]]⟩)),(6,some (g.2.2.1,⟨false,true,1,29,[.agg [.osl 14 g.2.2.2 0 x7.length]]⟩)),(14,some (g.2.2.2,⟨false,false,1,30,x7.map (eL Pa)⟩)),(8192,some (0,⟨false,true,2,91,[.agg [.sl (c5.map eU8),.int .i64 c6]]⟩))]) (j:=fun _=>TV c5 c6 f2 n8 x7) ?_ ?_
 ·refine A 5 ?_
  refine Abi r ?_ ?_
  ·refine A 7 ?_
   refine cD r ?_ ?_
   ·exact B
   ·refine A 12 ?_
    refine Un (b:=((Pf.mk x7),(Mk.mk c5 c6))) r ?_ r r ?_ (by first | rfl | (simp only [OV]; rfl) | (simp only [OW]; rfl) | (simp only [OV,OW]; rfl) | simp [WV,QA])
    all_goals first|(simp;done)|(simp;omega)|rfl|(simp [PI,PO];done)
  ·refine A 20 ?_
   refine Un (b:=((Pf.mk x7),(Mk.mk c5 c6))) r ?_ r r ?_ (by first | rfl | (simp only [OV]; rfl) | (simp only [OW]; rfl) | (simp only [OV,OW]; rfl) | simp [WV,QA])
   all_goals first|(simp;done)|(simp;omega)|rfl|(simp [PI,PO];done)
 ·rintro ⟨⟩ ⟨v3x2,v4x2,v6x2,v14x2⟩ nn
  try dsimp only
  unfold TV
  refine bC (E:=fun (_s : (List Int) × Int × (List (List Int))) (g : Nat × Nat × Nat × Nat)=>[(0,.optr 8192 0 0 0),(3,.optr 3 g.1 0 0),(4,.optr 4 g.2.1 0 0),(6,.optr 6 g.2.2.1 0 0),(7,.int .i64 n8),(21,.optr 3 g.1 0 1),(22,.sl (f2.Slots.map Ph)),(23,.int .i64 (f2.Slots.length : Int)),(24,.bool (decide ((f2.Slots.length : Int) > 0)))]) (O:=fun s g=>[(3,some (g.1,⟨false,true,3,40,[.agg [.int .i64 f2.Params,.sl (f2.Slots.map Ph),.sl (f2.Code.map Pg)]]⟩)),(4,some (g.2.1,⟨false,true,1,29,[.agg [.nils]]⟩)),(6,some (g.2.2.1,⟨false,true,1,29,[.agg [.osl 14 g.2.2.2 0 s.2.2.length]]⟩)),(14,some (g.2.2.2,⟨false,false,1,30,s.2.2.map (eL Pa)⟩)),(8192,some (0,⟨false,true,2,91,[.agg [.sl (s.1.map eU8),.int .i64 s.2.1]]⟩))]) (j:=fun s=>TW n8 s.1 s.2.1 s.2.2) ?_ ?_
  ·refine A 6 ?_
   refine bD fun r12 hr12=>?_
   refine A 10 ?_
   refine lP (E:=fun (s : (List (List Int)) × Int) (g : Nat × Nat × Nat × Nat)=>[(0,.optr 8192 0 0 0),(3,.optr 3 g.1 0 0),(4,.optr 4 g.2.1 0 0),(6,.optr 6 g.2.2.1 0 0),(7,.int .i64 n8),(8,.int .i64 r12.1),(9,.int .i64 s.2),(21,.optr 3 g.1 0 1),(22,.sl (f2.Slots.map Ph)),(23,.int .i64 (f2.Slots.length : Int)),(24,.bool (decide ((f2.Slots.length : Int) > 0)))]) (O:=fun s g=>[(3,some (g.1,⟨false,true,3,40,[.agg [.int .i64 f2.Params,.sl (f2.Slots.map Ph),.sl (f2.Code.map Pg)]]⟩)),(4,some (g.2.1,⟨false,true,1,29,[.agg [.nils]]⟩)),(6,some (g.2.2.1,⟨false,true,1,29,[.agg [.osl 14 g.2.2.2 0 s.1.length]]⟩)),(14,some (g.2.2.2,⟨false,false,1,30,s.1.map (eL Pa)⟩)),(8192,some (0,⟨false,true,2,91,[.agg [.sl (r12.2.list.map eU8),.int .i64 r12.2.at_]]⟩))]) (body:=fun s=>TU r12 n8 s.1 s.2) (s:=(x7,0)) (_,_,_,_) ((hE ⟨rfl,r,r,r,r,r,r,r,r,r,r,trivial⟩ ⟨rfl,r,r,r,r,trivial⟩))<|?_
   rintro ⟨x13,k14⟩ ⟨v3x3,v4x3,v6x3,v14x3⟩ nn
   try dsimp only
   unfold TU
   refine A 10 ?_
   refine cD r ?_ ?_
   ·refine A 12 ?_
    refine bD fun x_e15 hx_e15=>?_
    refine A 2 ?_
    refine bD fun r16 hr16=>?_
    refine A 2 ?_
    refine bD fun x_o17 hx_o17=>sE (l:=x13) (en:=(eL Pa)) (q':=r16) r r r r r r r (by simp) hx_o17 r r r (by simp [PG,cells,setAt,eL]) r<|?_
    refine A 8 ?_
    exact xL (s:=(x13.set k14.toNat r16,IntKind.i64.wrap (k14 + 1))) (_,_,_,_) ((hE ⟨rfl,r,r,r,r,r,r,r,r,r,r,trivial⟩ ⟨rfl,r,(Eq.trans (b:=some (_,⟨false,true,1,29,[.agg [.osl 14 _ 0 x13.length]]⟩)) r (by simp)),r,r,trivial⟩))
   ·exact B
  ·rintro ⟨c9,c10,x11⟩ ⟨v3x4,v4x4,v6x4,v14x4⟩ nn
   try dsimp only
   unfold TW
   exact B

def Afu (b : Int × Mk) : D:=.int .i64 b.1
def Aft (b : Int × Mk) : List D:=[Py b.2]
noncomputable def Za : Dw.Spec:=Pe [(0,(2,91))] .val QN QM (fun a=>Sr a) Afu Aft
theorem AaV : Pd Tryz.prog 44 Za:=by
 refine fn2 1 (Pk (l:=[(21,PL)]) (by simp [PN])) Tryz.func44<|?_
 intro c1
 unfold Sr
 refine A 8 ?_
 refine bD fun r2 hr2=>?_
 refine A 11 ?_
 refine cD r ?_ ?_
 ·refine A 2 ?_
  refine bS ([9223372036854775807,(-9223372036854775808),2147483648,2147483647,(-1),16777216,33554432,1048577,512,80] : List Int) Pa r r r (by simp) r r r<|?_
  exact B
 ·exact B

def US (b : Pf × Mk) : D:=QA b.1
def AeH (b : Pf × Mk) : List D:=[Py b.2]
noncomputable def AaX : Dw.Spec:=Pe [(0,(2,91))] .val RX RW (fun a=>Ut a.1 a.2) US AeH
theorem AdR : Pd Tryz.prog 23 AaX:=by
 refine fn2 2 (Pk (l:=[(9,VY),(21,PL),(42,Wg),(43,Aav),(44,Za)]) (by simp [XD,PN,Xc,AbT,AaV])) Tryz.func23<|?_
 rintro ⟨c1,f2⟩
 unfold Ut
 refine A 9 ?_
 refine bD fun r3 hr3=>?_
 refine A 9 ?_
 refine bD fun r4 hr4=>?_
 refine A 4 ?_
 refine cD r ?_ ?_
 ·exact B
 ·refine A 6 ?_
  refine cK fun hq=>aP (([] : List (List Int))) (r3.Out) (eL Pa) r r r r r r r (by simp) r r r (by simp) r (fun _=>r) r hq<|?_
  refine A 5 ?_
  refine sC (E:=fun (_s : (List Int) × Int × (List (List Int))) (g : Nat × Nat × Nat)=>[(0,.optr 8192 0 0 0),(4,.optr 4 g.1 0 0),(6,.optr 6 g.2.1 0 0)]) (O:=fun s g=>[(4,some (g.1,⟨false,true,1,29,[.agg [.nils]]⟩)),(6,some (g.2.1,⟨false,true,1,29,[.agg [.osl 19 g.2.2 0 s.2.2.length]]⟩)),(19,some (g.2.2,⟨false,false,1,30,s.2.2.map (eL Pa)⟩)),(8192,some (0,⟨false,true,2,91,[.agg [.sl (s.1.map eU8),.int .i64 s.2.1]]⟩))]) (j:=fun s=>RD s.1 s.2.1 s.2.2) ?_ ?_
  ·refine A 3 ?_
   refine bD fun r8 hr8=>?_
   refine A 5 ?_
   refine lP (E:=fun (s : (List Int) × Int × (List (List Int)) × Int) (g : Nat × Nat × Nat × Nat)=>[(0,.optr 8192 0 0 0),(3,.optr 3 g.1 0 0),(4,.optr 4 g.2.1 0 0),(6,.optr 6 g.2.2.1 0 0),(7,.int .i64 s.2.2.2)]) (O:=fun s g=>[(3,some (g.1,⟨false,true,3,40,[.agg [.int .i64 f2.Params,.sl (f2.Slots.map Ph),.sl (f2.Code.map Pg)]]⟩)),(4,some (g.2.1,⟨false,true,1,29,[.agg [.nils]]⟩)),(6,some (g.2.2.1,⟨false,true,1,29,[.agg [.osl 19 g.2.2.2 0 s.2.2.1.length]]⟩)),(19,some (g.2.2.2,⟨false,false,1,30,s.2.2.1.map (eL Pa)⟩)),(8192,some (0,⟨false,true,2,91,[.agg [.sl (s.1.map eU8),.int .i64 s.2.1]]⟩))]) (body:=fun s=>Uu f2 s.1 s.2.1 s.2.2.1 s.2.2.2) (s:=(r8.2.list,r8.2.at_,([] : List (List Int)) ++ r3.Out,r8.1)) (_,_,_,_) ((hE ⟨rfl,r,r,r,r,trivial⟩ ⟨rfl,r,r,r,r,trivial⟩))<|?_
   rintro ⟨c9,c10,x11,n12⟩ ⟨v3x1,v4x1,v6x1,v19x1⟩ nn
   try dsimp only
   unfold Uu
   refine sC (E:=fun (_s : Unit) (g : Nat × Nat × Nat × Nat)=>[(0,.optr 8192 0 0 0),(3,.optr 3 g.1 0 0),(4,.optr 4 g.2.1 0 0),(6,.optr 6 g.2.2.1 0 0),(7,.int .i64 n12),(26,.optr 3 g.1 0 1),(27,.sl (f2.Slots.map Ph)),(28,.int .i64 (f2.Slots.length : Int)),(29,.bool (decide ((f2.Slots.length : Int) > 0)))]) (O:=fun _ g=>[(3,some (g.1,⟨false,true,3,40,[.agg [.int .i64 f2.Params,.sl (f2.Slots.map Ph),.sl (f2.Code.map Pg)]]⟩)),(4,some (g.2.1,⟨false,true,1,29,[.agg [.nils]]⟩)),(6,some (g.2.2.1,⟨false,true,1,29,[.agg [.osl 19 g.2.2.2 0 x11.length]]⟩)),(19,some (g.2.2.2,⟨false,false,1,30,x11.map (eL Pa)⟩)),(8192,some (0,⟨false,true,2,91,[.agg [.sl (c9.map eU8),.int .i64 c10]]⟩))]) (j:=fun _=>Uw c9 c10 f2 n12 x11) ?_ ?_
   ·exact B
   ·rintro ⟨⟩ ⟨v3x2,v4x2,v6x2,v19x2⟩ nn
    try dsimp only
    unfold Uw
    refine bC (E:=fun (_s : (List Int) × Int × (List (List Int))) (g : Nat × Nat × Nat × Nat)=>[(0,.optr 8192 0 0 0),(3,.optr 3 g.1 0 0),(4,.optr 4 g.2.1 0 0),(6,.optr 6 g.2.2.1 0 0),(7,.int .i64 n12),(26,.optr 3 g.1 0 1),(27,.sl (f2.Slots.map Ph)),(28,.int .i64 (f2.Slots.length : Int)),(29,.bool (decide ((f2.Slots.length : Int) > 0)))]) (O:=fun s g=>[(3,some (g.1,⟨false,true,3,40,[.agg [.int .i64 f2.Params,.sl (f2.Slots.map Ph),.sl (f2.Code.map Pg)]]⟩)),(4,some (g.2.1,⟨false,true,1,29,[.agg [.nils]]⟩)),(6,some (g.2.2.1,⟨false,true,1,29,[.agg [.osl 19 g.2.2.2 0 s.2.2.length]]⟩)),(19,some (g.2.2.2,⟨false,false,1,30,s.2.2.map (eL Pa)⟩)),(8192,some (0,⟨false,true,2,91,[.agg [.sl (s.1.map eU8),.int .i64 s.2.1]]⟩))]) (j:=fun s=>QW n12 s.1 s.2.1 s.2.2) ?_ ?_
    ·refine A 6 ?_
     refine bD fun r16 hr16=>?_
     refine A 8 ?_
     refine bD fun r17 hr17=>?_
     refine A 4 ?_
     refine cD r ?_ ?_
     ·refine A 7 ?_
      refine lP (E:=fun (s : (List (List Int)) × Int) (g : Nat × Nat × Nat × Nat)=>[(0,.optr 8192 0 0 0),(3,.optr 3 g.1 0 0),(4,.optr 4 g.2.1 0 0),(6,.optr 6 g.2.2.1 0 0),(7,.int .i64 n12),(8,.int .i64 r16.1),(9,.int .i64 s.2),(26,.optr 3 g.1 0 1),(27,.sl (f2.Slots.map Ph)),(28,.int .i64 (f2.Slots.length : Int)),(29,.bool (decide ((f2.Slots.length : Int) > 0)))]) (O:=fun s g=>[(3,some (g.1,⟨false,true,3,40,[.agg [.int .i64 f2.Params,.sl (f2.Slots.map Ph),.sl (f2.Code.map Pg)]]⟩)),(4,some (g.2.1,⟨false,true,1,29,[.agg [.nils]]⟩)),(6,some (g.2.2.1,⟨false,true,1,29,[.agg [.osl 19 g.2.2.2 0 s.1.length]]⟩)),(19,some (g.2.2.2,⟨false,false,1,30,s.1.map (eL Pa)⟩)),(8192,some (0,⟨false,true,2,91,[.agg [.sl (r17.2.list.map eU8),.int .i64 r17.2.at_]]⟩))]) (body:=fun s=>Uv r16 n12 r17 s.1 s.2) (s:=(x11,0)) (_,_,_,_) ((hE ⟨rfl,r,r,r,r,r,r,r,r,r,r,trivial⟩ ⟨rfl,r,r,r,r,trivial⟩))<|?_
      rintro ⟨x18,k19⟩ ⟨v3x3,v4x3,v6x3,v19x3⟩ nn
      try dsimp only
      unfold Uv
      refine A 10 ?_
      refine cD r ?_ ?_
      ·refine A 12 ?_
       refine bD fun x_e20 hx_e20=>?_
       refine A 2 ?_
       refine bD fun r21 hr21=>?_
       refine A 2 ?_
       refine bD fun x_o22 hx_o22=>sE (l:=x18) (en:=(eL Pa)) (q':=r21) r r r r r r r (by simp) hx_o22 r r r (by simp [PG,cells,setAt,eL]) r<|?_
       refine A 8 ?_
       exact xL (s:=(x18.set k19.toNat r21,IntKind.i64.wrap (k19 + 1))) (_,_,_,_) ((hE ⟨rfl,r,r,r,r,r,r,r,r,r,r,trivial⟩ ⟨rfl,r,(Eq.trans (b:=some (_,⟨false,true,1,29,[.agg [.osl 19 _ 0 x18.length]]⟩)) r (by simp)),r,r,trivial⟩))
      ·exact B
     ·refine A 8 ?_
      refine bD fun r23 hr23=>?_
      refine A 7 ?_
      refine bD fun r24 hr24=>?_
      refine A 4 ?_
      refine cD r ?_ ?_
      ·refine A 8 ?_
       refine bD fun x_e25 hx_e25=>?_
       refine A 2 ?_
       refine bD fun r26 hr26=>?_
       refine A 2 ?_
       refine bD fun x_o27 hx_o27=>sE (l:=x11) (en:=(eL Pa)) (q':=r26) r r r r r r r (by simp) hx_o27 r r r (by simp [PG,cells,setAt,eL]) r<|?_
       refine A 1 ?_
       exact UK (s:=(r24.2.list,r24.2.at_,x11.set r23.1.toNat r26)) (_,_,_,_) ((hE ⟨rfl,r,r,r,r,r,r,r,r,trivial⟩ ⟨rfl,r,(Eq.trans (b:=some (_,⟨false,true,1,29,[.agg [.osl 19 _ 0 x11.length]]⟩)) r (by simp)),r,r,trivial⟩))
      ·refine A 8 ?_
       refine bD fun x_e28 hx_e28=>?_
       refine A 2 ?_
       refine bD fun r29 hr29=>?_
       refine A 2 ?_
       refine bD fun x_o30 hx_o30=>sE (l:=x11) (en:=(eL Pa)) (q':=r29) r r r r r r r (by simp) hx_o30 r r r (by simp [PG,cells,setAt,eL]) r<|?_
       refine A 1 ?_
       exact UK (s:=(r24.2.list,r24.2.at_,x11.set r23.1.toNat r29)) (_,_,_,_) ((hE ⟨rfl,r,r,r,r,r,r,r,r,trivial⟩ ⟨rfl,r,(Eq.trans (b:=some (_,⟨false,true,1,29,[.agg [.osl 19 _ 0 x11.length]]⟩)) r (by simp)),r,r,trivial⟩))
    ·rintro ⟨c13,c14,x15⟩ ⟨v3x4,v4x4,v6x4,v19x4⟩ nn
     try dsimp only
     unfold QW
     exact B
  ·rintro ⟨c5,c6,x7⟩ ⟨v4x5,v6x5,v19x5⟩ nn
   try dsimp only
   unfold RD
   refine A 4 ?_
   refine bD fun r31 hr31=>?_
   refine A 10 ?_
   refine cD r ?_ ?_
   ·refine A 3 ?_
    refine cK fun hq=>Yg (l:=x7) r r r r r r hq<|?_
    refine A 12 ?_
    refine Un (b:=((Pf.mk (x7.drop ((1 : Int).toNat))),r31.2)) r ?_ r r ?_ (by first | rfl | (simp only [OV]; rfl) | (simp only [OW]; rfl) | (simp only [OV,OW]; rfl) | simp [US,QA])
    all_goals first|(simp;done)|(simp;omega)|rfl|(simp [PI,PO];done)
   ·refine A 6 ?_
    refine cD r ?_ ?_
    ·refine A 4 ?_
     refine bD fun r32 hr32=>?_
     refine A 2 ?_
     refine bD fun r33 hr33=>?_
     refine A 1 ?_
     refine bS ([r32.1,r33.1] : List Int) Pa r r r (by simp) r r r<|cK fun hq=>iO (l:=x7) (en:=(eL Pa)) r r r r r hq<|bD fun x_o34 hx_o34=>sE (l:=x7) (en:=(eL Pa)) (q':=([r32.1,r33.1] : List Int)) r r r r r r r (by simp) hx_o34 r r r (by simp [PG,cells,setAt,eL]) r<|?_
     refine A 10 ?_
     refine Un (b:=((Pf.mk (x7.set ((0 : Int).toNat) ([r32.1,r33.1] : List Int))),r33.2)) r ?_ r r ?_ (by first | rfl | (simp only [OV]; rfl) | (simp only [OW]; rfl) | (simp only [OV,OW]; rfl) | simp [US,QA])
     all_goals first|(simp;done)|(simp;omega)|rfl|(simp [PI,PO];done)
    ·refine A 10 ?_
     refine Un (b:=((Pf.mk x7),r31.2)) r ?_ r r ?_ (by first | rfl | (simp only [OV]; rfl) | (simp only [OW]; rfl) | (simp only [OV,OW]; rfl) | simp [US,QA])
     all_goals first|(simp;done)|(simp;omega)|rfl|(simp [PI,PO];done)

def AhR (b : Bool) : D:=.bool b
noncomputable def AaS : Dw.Spec:=Pe [] .ground Ry Rx (fun a=>Wh a) AhR noE
theorem AcG : Pd Tryz.prog 91 AaS:=by
 refine fn2 1 (Pk (l:=[(71,Aby)]) (by simp [Adq])) Tryz.func91<|?_
 intro s1
 unfold Wh
 refine A 12 ?_
 refine lP (E:=fun (s : Int) (_g : Unit)=>[(0,.sl (s1.map Pa)),(3,.int .i64 s)]) (O:=fun _ _=>[]) (body:=fun s=>RK s1 s) (s:=0) () ((hE ⟨rfl,r,trivial⟩ trivial))<|?_
 rintro i2 ⟨⟩ nn
 try dsimp only
 unfold RK
 exact B

def Aic (b : Bool) : D:=.bool b
noncomputable def AaT : Dw.Spec:=Pe [] .ground PF PE (fun a=>Wj a.1 a.2) Aic noE
theorem AcH : Pd Tryz.prog 58 AaT:=by
 refine fn2 2 (Pk (l:=[(91,AaS)]) (by simp [AcG])) Tryz.func58<|?_
 rintro ⟨f1,l2⟩
 unfold Wj
 refine A 19 ?_
 refine cD r ?_ ?_
 ·exact B
 ·refine A 9 ?_
  refine lP (E:=fun (s : Int) (g : Nat × Nat)=>[(2,.optr 2 g.1 0 0),(3,.optr 3 g.2 0 0),(5,.int .i64 s)]) (O:=fun _ g=>[(2,some (g.1,⟨false,true,3,40,[.agg [.int .i64 f1.Params,.sl (f1.Slots.map Ph),.sl (f1.Code.map Pg)]]⟩)),(3,some (g.2,⟨false,true,1,29,[.agg [.sl (l2.Out.map (eL Pa))]]⟩))]) (body:=fun s=>XF l2 f1 s) (s:=0) (_,_) ((hE ⟨rfl,r,r,trivial⟩ ⟨rfl,r,trivial⟩))<|?_
  rintro k3 ⟨v2x1,v3x1⟩ nn
  try dsimp only
  unfold XF
  exact B

def AjR (b : Bool) : D:=.bool b
noncomputable def Wi : Dw.Spec:=Pe [] .ground QK QJ (fun a=>TF a.1 a.2) AjR noE
theorem Xd : Pd Tryz.prog 62 Wi:=by
 refine fn2 2 (Pz) Tryz.func62<|?_
 rintro ⟨s1,n2⟩
 unfold TF
 refine A 12 ?_
 refine lP (E:=fun (s : Int) (_g : Unit)=>[(0,.sl (s1.map Pa)),(1,.int .i64 n2),(5,.int .i64 s)]) (O:=fun _ _=>[]) (body:=fun s=>Vj s1 n2 s) (s:=0) () ((hE ⟨rfl,r,r,trivial⟩ trivial))<|?_
 rintro i3 ⟨⟩ nn
 try dsimp only
 unfold Vj
 exact B

def AhS (b : (List Int)) : D:=.sl (b.map Pa)
noncomputable def Adp : Dw.Spec:=Pe [] (.row 1 3) QV QU (fun a=>Yw a.1 a.2) AhS noE
theorem AgS : Pd Tryz.prog 119 Adp:=by
 refine fn2 2 (Pk (l:=[(62,Wi)]) (by simp [Xd])) Tryz.func119<|?_
 rintro ⟨a1,b2⟩
 unfold Yw
 refine A 17 ?_
 refine lP (E:=fun (s : (List Int) × Int) (g : Nat)=>[(0,.sl (a1.map Pa)),(1,.sl (b2.map Pa)),(5,.osl 5 g 0 s.1.length),(6,.int .i64 s.2)]) (O:=fun s g=>[(5,some (g,⟨false,false,1,3,s.1.map Pa⟩))]) (body:=fun s=>Sy a1 b2 s.1 s.2) (s:=(([] : List Int),0)) _ ((hE ⟨rfl,r,r,r,trivial⟩ ⟨rfl,trivial⟩))<|?_
 rintro ⟨out3,i4⟩ v5x1 nn
 try dsimp only
 unfold Sy
 exact B

def Ts (a : OX × Pf × Int) : List D:=[Qe a.1,QA a.2.1,.int .i64 a.2.2]
def Tq (ds : List D) : OX × Pf × Int:=(Sn (ds.getD 0 .top),VR (ds.getD 1 .top),uI (ds.getD 2 .top))
theorem AfG (a : OX × Pf × Int) : Tq (Ts a) = a:=by simp [Tq,Ts,uI]
instance : PA Ts Tq:=⟨AfG⟩
def Agh (b : (List Int)) : D:=.sl (b.map Pa)
noncomputable def AbW : Dw.Spec:=Pe [] (.row 1 3) Ts Tq (fun a=>VZ a.1 a.2.1 a.2.2) Agh noE
theorem AfH : Pd Tryz.prog 90 AbW:=by
 refine fn2 3 (Pk (l:=[(51,Abz),(53,Adf),(119,Adp),(52,VX)]) (by simp [Ads,Afi,AgS,Xx])) Tryz.func90<|?_
 rintro ⟨f1,l2,k3⟩
 unfold VZ
 refine A 16 ?_
 refine bD fun r4 hr4=>?_
 refine A 11 ?_
 refine lP (E:=fun (s : (List Int) × Int) (g : Nat × Nat × Nat × Nat)=>[(2,.int .i64 k3),(3,.optr 3 g.1 0 0),(4,.optr 4 g.2.1 0 0),(7,.osl 7 g.2.2.1 0 s.1.length),(8,.osl 8 g.2.2.2 0 r4.length),(9,.int .i64 s.2)]) (O:=fun s g=>[(3,some (g.1,⟨false,true,3,40,[.agg [.int .i64 f1.Params,.sl (f1.Slots.map Ph),.sl (f1.Code.map Pg)]]⟩)),(4,some (g.2.1,⟨false,true,1,29,[.agg [.sl (l2.Out.map (eL Pa))]]⟩)),(7,some (g.2.2.1,⟨false,false,1,3,s.1.map Pa⟩)),(8,some (g.2.2.2,⟨false,false,1,3,r4.map Pa⟩))]) (body:=fun s=>Sz r4 f1 l2 k3 s.1 s.2) (s:=(([] : List Int),0)) (_,_,_,_) ((hE ⟨rfl,r,r,r,r,r,trivial⟩ ⟨rfl,r,r,r,trivial⟩))<|?_
 rintro ⟨out5,i6⟩ ⟨v3x1,v4x1,v7x1,v8x1⟩ nn
 try dsimp only
 unfold Sz
 exact B

def Aib (b : Int × Int × Bool) : D:=.tup [.int .i64 b.1,.int .i64 b.2.1,.bool b.2.2]
noncomputable def Adv : Dw.Spec:=Pe [] .ground PF PE (fun a=>Yz a.1 a.2) Aib noE
theorem AgY : Pd Tryz.prog 57 Adv:=by
 refine fn2 2 (Pk (l:=[(58,AaT),(90,AbW)]) (by simp [AcH,AfH])) Tryz.func57<|?_
 rintro ⟨f1,l2⟩
 unfold Yz
 refine A 14 ?_
 refine bD fun r3 hr3=>?_
 refine A 4 ?_
 refine cD r ?_ ?_
 ·exact B
 ·refine A 9 ?_
  refine lP (E:=fun (s : Int) (g : Nat × Nat)=>[(2,.optr 2 g.1 0 0),(3,.optr 3 g.2 0 0),(7,.int .i64 s)]) (O:=fun _ g=>[(2,some (g.1,⟨false,true,3,40,[.agg [.int .i64 f1.Params,.sl (f1.Slots.map Ph),.sl (f1.Code.map Pg)]]⟩)),(3,some (g.2,⟨false,true,1,29,[.agg [.sl (l2.Out.map (eL Pa))]]⟩))]) (body:=fun s=>XE f1 l2 s) (s:=0) (_,_) ((hE ⟨rfl,r,r,trivial⟩ ⟨rfl,r,trivial⟩))<|?_
  rintro k4 ⟨v2x1,v3x1⟩ nn
  try dsimp only
  unfold XE
  exact B

def Aia (b : Int) : D:=.int .i64 b
noncomputable def Adu : Dw.Spec:=Pe [] .ground PF PE (fun a=>Yy a.1 a.2) Aia noE
theorem AgX : Pd Tryz.prog 30 Adu:=by
 refine fn2 2 (Pk (l:=[(57,Adv),(58,AaT)]) (by simp [AgY,AcH])) Tryz.func30<|?_
 intro a
 unfold Yy
 exact B

def WD (a : OX × Pf × Bool) : List D:=[Qe a.1,QA a.2.1,.bool a.2.2]
def WC (ds : List D) : OX × Pf × Bool:=(Sn (ds.getD 0 .top),VR (ds.getD 1 .top),uBo (ds.getD 2 .top))
theorem Ahe (a : OX × Pf × Bool) : WC (WD a) = a:=by simp [WC,WD,uBo]
instance : PA WD WC:=⟨Ahe⟩
def Aig (b : (List (List Int)) × Int) : D:=.tup [.sl (b.1.map (eL Pa)),.int .i64 b.2]
noncomputable def AaU : Dw.Spec:=Pe [] .val WD WC (fun a=>Wl a.1 a.2.1 a.2.2) Aig noE
theorem AcJ : Pd Tryz.prog 96 AaU:=by
 refine fn2 3 (Pk (l:=[(30,Adu),(61,UH),(42,Wg)]) (by simp [AgX,Vx,Xc])) Tryz.func96<|?_
 rintro ⟨f1,l2,strict3⟩
 unfold Wl
 refine A 13 ?_
 refine bD fun r4 hr4=>?_
 refine A 10 ?_
 refine cD r ?_ ?_
 ·exact B
 ·refine A 7 ?_
  refine cK fun hq=>Aco (α:=Int) r r r hq r<|?_
  refine A 2 ?_
  refine TG (E:=[(2,.bool strict3),(3,.optr 3 _ 0 0),(4,.optr 4 _ 0 0),(9,.osl 9 _ 0 ((List.replicate (f1.Slots.length : Int).toNat ([] : (List Int))).length))]) (O:=[(3,some (_,⟨false,true,3,40,[.agg [.int .i64 f1.Params,.sl (f1.Slots.map Ph),.sl (f1.Code.map Pg)]]⟩)),(4,some (_,⟨false,true,1,29,[.agg [.sl (l2.Out.map (eL Pa))]]⟩)),(9,some (_,⟨false,false,1,30,(List.replicate (f1.Slots.length : Int).toNat ([] : (List Int))).map (eL Pa)⟩))]) ((Aed (g:=9) r (Afy (l:=List.replicate (f1.Slots.length : Int).toNat ([] : (List Int))) Pa (fun _ h=>List.eq_of_mem_replicate h)) (hE ⟨rfl,r,r,r,trivial⟩ ⟨rfl,r,r,trivial⟩))) fun nn=>?_
  refine A 7 ?_
  refine lP (E:=fun (s : (List (List Int)) × Int) (g : Nat × Nat × Nat)=>[(2,.bool strict3),(3,.optr 3 g.1 0 0),(4,.optr 4 g.2.1 0 0),(9,.osl 9 g.2.2 0 s.1.length),(10,.int .i64 s.2)]) (O:=fun s g=>[(3,some (g.1,⟨false,true,3,40,[.agg [.int .i64 f1.Params,.sl (f1.Slots.map Ph),.sl (f1.Code.map Pg)]]⟩)),(4,some (g.2.1,⟨false,true,1,29,[.agg [.sl (l2.Out.map (eL Pa))]]⟩)),(9,some (g.2.2,⟨false,false,1,30,s.1.map (eL Pa)⟩))]) (body:=fun s=>XM f1 l2 strict3 s.1 s.2) (s:=(List.replicate (f1.Slots.length : Int).toNat ([] : (List Int)),0)) (_,_,_) ((hE ⟨rfl,r,r,r,r,trivial⟩ ⟨rfl,r,r,trivial⟩))<|?_
  rintro ⟨out5,k6⟩ ⟨v3x1,v4x1,v9x1⟩ nn
  try dsimp only
  unfold XM
  refine A 10 ?_
  refine cD r ?_ ?_
  ·refine A 2 ?_
   refine bC (E:=fun (s : Int × Int × Int × Int × Int × (List (List Int))) (g : Nat × Nat × Nat)=>[(2,.bool strict3),(3,.optr 3 g.1 0 0),(4,.optr 4 g.2.1 0 0),(9,.osl 9 g.2.2 0 s.2.2.2.2.2.length),(10,.int .i64 k6)]) (O:=fun s g=>[(3,some (g.1,⟨false,true,3,40,[.agg [.int .i64 f1.Params,.sl (f1.Slots.map Ph),.sl (f1.Code.map Pg)]]⟩)),(4,some (g.2.1,⟨false,true,1,29,[.agg [.sl (l2.Out.map (eL Pa))]]⟩)),(9,some (g.2.2,⟨false,false,1,30,s.2.2.2.2.2.map (eL Pa)⟩))]) (j:=fun s=>SA k6 s.1 s.2.1 s.2.2.1 s.2.2.2.1 s.2.2.2.2.1 s.2.2.2.2.2) ?_ ?_
   ·refine A 5 ?_
    refine bD fun x_x13 hx_x13=>?_
    refine A 9 ?_
    refine bD fun r14 hr14=>?_
    refine A 8 ?_
    refine sC (E:=fun (_s : Unit) (g : Nat × Nat × Nat × Nat)=>[(2,.bool strict3),(3,.optr 3 g.1 0 0),(4,.optr 4 g.2.1 0 0),(9,.osl 9 g.2.2.1 0 out5.length),(10,.int .i64 k6),(11,.optr 11 g.2.2.2 0 0),(12,.int .i64 r14.1),(13,.bool r14.2)]) (O:=fun _ g=>[(3,some (g.1,⟨false,true,3,40,[.agg [.int .i64 f1.Params,.sl (f1.Slots.map Ph),.sl (f1.Code.map Pg)]]⟩)),(4,some (g.2.1,⟨false,true,1,29,[.agg [.sl (l2.Out.map (eL Pa))]]⟩)),(9,some (g.2.2.1,⟨false,false,1,30,out5.map (eL Pa)⟩)),(11,some (g.2.2.2,⟨false,true,5,69,[.agg [.int .i64 x_x13.Op,.int .i64 x_x13.A,.int .i64 x_x13.B,.int .i64 x_x13.C,.int .u64 x_x13.Imm]]⟩))]) (j:=fun _=>TL l2 k6 r14 strict3 x_x13 out5) ?_ ?_
    ·exact B
    ·rintro ⟨⟩ ⟨v3x2,v4x2,v9x2,v11x2⟩ nn
     try dsimp only
     unfold TL
     refine A 6 ?_
     refine lP (E:=fun (s : (List (List Int)) × Int) (g : Nat × Nat × Nat × Nat)=>[(2,.bool strict3),(3,.optr 3 g.1 0 0),(4,.optr 4 g.2.1 0 0),(9,.osl 9 g.2.2.1 0 s.1.length),(10,.int .i64 k6),(11,.optr 11 g.2.2.2 0 0),(12,.int .i64 r14.1),(13,.bool r14.2),(14,.int .i64 s.2)]) (O:=fun s g=>[(3,some (g.1,⟨false,true,3,40,[.agg [.int .i64 f1.Params,.sl (f1.Slots.map Ph),.sl (f1.Code.map Pg)]]⟩)),(4,some (g.2.1,⟨false,true,1,29,[.agg [.sl (l2.Out.map (eL Pa))]]⟩)),(9,some (g.2.2.1,⟨false,false,1,30,s.1.map (eL Pa)⟩)),(11,some (g.2.2.2,⟨false,true,5,69,[.agg [.int .i64 x_x13.Op,.int .i64 x_x13.A,.int .i64 x_x13.B,.int .i64 x_x13.C,.int .u64 x_x13.Imm]]⟩))]) (body:=fun s=>Vm l2 k6 r14 strict3 x_x13 s.1 s.2) (s:=(out5,0)) (_,_,_,_) ((hE ⟨rfl,r,r,r,r,r,r,r,r,trivial⟩ ⟨rfl,r,r,r,trivial⟩))<|?_
     rintro ⟨out15,i16⟩ ⟨v3x3,v4x3,v9x3,v11x3⟩ nn
     try dsimp only
     unfold Vm
     refine sC (E:=fun (_s : Unit) (g : Nat × Nat × Nat × Nat)=>[(2,.bool strict3),(3,.optr 3 g.1 0 0),(4,.optr 4 g.2.1 0 0),(9,.osl 9 g.2.2.1 0 out15.length),(10,.int .i64 k6),(11,.optr 11 g.2.2.2 0 0),(12,.int .i64 r14.1),(13,.bool r14.2),(14,.int .i64 i16),(62,.bool r14.2)]) (O:=fun _ g=>[(3,some (g.1,⟨false,true,3,40,[.agg [.int .i64 f1.Params,.sl (f1.Slots.map Ph),.sl (f1.Code.map Pg)]]⟩)),(4,some (g.2.1,⟨false,true,1,29,[.agg [.sl (l2.Out.map (eL Pa))]]⟩)),(9,some (g.2.2.1,⟨false,false,1,30,out15.map (eL Pa)⟩)),(11,some (g.2.2.2,⟨false,true,5,69,[.agg [.int .i64 x_x13.Op,.int .i64 x_x13.A,.int .i64 x_x13.B,.int .i64 x_x13.C,.int .u64 x_x13.Imm]]⟩))]) (j:=fun _=>XN l2 k6 i16 r14 out15 strict3 x_x13) ?_ ?_
     ·exact B
     ·rintro ⟨⟩ ⟨v3x4,v4x4,v9x4,v11x4⟩ nn
      try dsimp only
      unfold XN
      refine A 7 ?_
      refine bD fun x_x18 hx_x18=>?_
      refine A 3 ?_
      refine bD fun x_x19 hx_x19=>?_
      refine A 5 ?_
      refine sC (E:=fun (s : Bool × Bool × Bool × Bool) (g : Nat × Nat × Nat × Nat)=>[(2,.bool strict3),(3,.optr 3 g.1 0 0),(4,.optr 4 g.2.1 0 0),(9,.osl 9 g.2.2.1 0 out15.length),(10,.int .i64 k6),(11,.optr 11 g.2.2.2 0 0),(12,.int .i64 r14.1),(13,.bool r14.2),(14,.int .i64 i16),(15,.int .i64 x_x19),(62,.bool r14.2),(78,.bool strict3),(79,.bool (!strict3)),(80,.bool s.1),(84,.bool s.2.1),(85,.bool s.2.2.1),(90,.bool s.2.2.2)]) (O:=fun _ g=>[(3,some (g.1,⟨false,true,3,40,[.agg [.int .i64 f1.Params,.sl (f1.Slots.map Ph),.sl (f1.Code.map Pg)]]⟩)),(4,some (g.2.1,⟨false,true,1,29,[.agg [.sl (l2.Out.map (eL Pa))]]⟩)),(9,some (g.2.2.1,⟨false,false,1,30,out15.map (eL Pa)⟩)),(11,some (g.2.2.2,⟨false,true,5,69,[.agg [.int .i64 x_x13.Op,.int .i64 x_x13.A,.int .i64 x_x13.B,.int .i64 x_x13.C,.int .u64 x_x13.Imm]]⟩))]) (j:=fun s=>RL r14 out15 x_x19 i16 s.1 s.2.1 s.2.2.1 s.2.2.2) ?_ ?_
      ·exact B
      ·rintro ⟨x20,x21,x22,x23⟩ ⟨v3x5,v4x5,v9x5,v11x5⟩ nn
       try dsimp only
       unfold RL
       refine A 8 ?_
       refine bD fun out_e24 hout_e24=>?_
       refine A 2 ?_
       refine bD fun r25 hr25=>?_
       refine A 4 ?_
       refine bD fun out_e26 hout_e26=>?_
       refine A 2 ?_
       refine bD fun r27 hr27=>?_
       refine A 2 ?_
       refine bD fun out_o28 hout_o28=>sE (l:=out15) (en:=(eL Pa)) (q':=r25) r r r r r r r (by simp) hout_o28 r r r (by simp [PG,cells,setAt,eL]) r<|?_
       refine A 1 ?_
       refine bD fun out_o29 hout_o29=>sE (l:=out15.set r14.1.toNat r25) (en:=(eL Pa)) (q':=r27) r r r r r r r (by simp) hout_o29 r r r (by simp [PG,cells,setAt,eL]) r<|?_
       exact B
   ·rintro ⟨x7,x8,x9,x10,x11,out12⟩ ⟨v3x6,v4x6,v9x6⟩ nn
    try dsimp only
    unfold SA
    exact B
  ·exact B

def Aie (b : (List (List Int)) × Int) : D:=.tup [.sl (b.1.map (eL Pa)),.int .i64 b.2]
noncomputable def Adx : Dw.Spec:=Pe [] .val PF PE (fun a=>YB a.1 a.2) Aie noE
theorem Ahb : Pd Tryz.prog 72 Adx:=by
 refine fn2 2 (Pk (l:=[(96,AaU)]) (by simp [AcJ])) Tryz.func72<|?_
 intro a
 unfold YB
 exact B

def Aif (b : (List PQ)) : D:=.sl (b.map Tf)
noncomputable def Ady : Dw.Spec:=Pe [] (.row 2 149) UJ UI (fun a=>YC a) Aif noE
theorem Ahc : Pd Tryz.prog 97 Ady:=by
 refine fn2 1 (Pz) Tryz.func97<|?_
 intro f1
 unfold YC
 refine A 18 ?_
 refine lP (E:=fun (s : (List PQ) × Int) (g : Nat × Nat)=>[(1,.optr 1 g.1 0 0),(3,.osl 3 g.2 0 s.1.length),(4,.int .i64 s.2)]) (O:=fun s g=>[(1,some (g.1,⟨false,true,3,40,[.agg [.int .i64 f1.Params,.sl (f1.Slots.map Ph),.sl (f1.Code.map Pg)]]⟩)),(3,some (g.2,⟨false,false,2,149,s.1.map Tf⟩))]) (body:=fun s=>XK f1 s.1 s.2) (s:=(([] : List PQ),0)) (_,_) ((hE ⟨rfl,r,r,trivial⟩ ⟨rfl,r,trivial⟩))<|?_
 rintro ⟨out2,k3⟩ ⟨v1x1,v3x1⟩ nn
 try dsimp only
 unfold XK
 refine A 10 ?_
 refine cD r ?_ ?_
 ·refine A 2 ?_
  refine bC (E:=fun (s : (List PQ)) (g : Nat × Nat)=>[(1,.optr 1 g.1 0 0),(3,.osl 3 g.2 0 s.length),(4,.int .i64 k3)]) (O:=fun s g=>[(1,some (g.1,⟨false,true,3,40,[.agg [.int .i64 f1.Params,.sl (f1.Slots.map Ph),.sl (f1.Code.map Pg)]]⟩)),(3,some (g.2,⟨false,false,2,149,s.map Tf⟩))]) (j:=fun s=>Vl k3 s) ?_ ?_
  ·refine A 5 ?_
   refine bD fun x_x5 hx_x5=>?_
   refine A 17 ?_
   refine sC (E:=fun (s : Bool) (g : Nat × Nat × Nat)=>[(1,.optr 1 g.1 0 0),(3,.osl 3 g.2.1 0 out2.length),(4,.int .i64 k3),(6,.optr 6 g.2.2 0 0),(7,.bool s)]) (O:=fun _ g=>[(1,some (g.1,⟨false,true,3,40,[.agg [.int .i64 f1.Params,.sl (f1.Slots.map Ph),.sl (f1.Code.map Pg)]]⟩)),(3,some (g.2.1,⟨false,false,2,149,out2.map Tf⟩)),(6,some (g.2.2,⟨false,true,2,149,[.agg [.int .i64 x_x5.A,.int .i64 x_x5.B]]⟩))]) (j:=fun s=>TK out2 x_x5 k3 s) ?_ ?_
   ·exact B
   ·rintro old6 ⟨v1x2,v3x2,v6x2⟩ nn
    try dsimp only
    unfold TK
    refine A 7 ?_
    refine lP (E:=fun (s : Bool × Int) (g : Nat × Nat × Nat)=>[(1,.optr 1 g.1 0 0),(3,.osl 3 g.2.1 0 out2.length),(4,.int .i64 k3),(6,.optr 6 g.2.2 0 0),(7,.bool s.1),(8,.int .i64 s.2)]) (O:=fun _ g=>[(1,some (g.1,⟨false,true,3,40,[.agg [.int .i64 f1.Params,.sl (f1.Slots.map Ph),.sl (f1.Code.map Pg)]]⟩)),(3,some (g.2.1,⟨false,false,2,149,out2.map Tf⟩)),(6,some (g.2.2,⟨false,true,2,149,[.agg [.int .i64 x_x5.A,.int .i64 x_x5.B]]⟩))]) (body:=fun s=>XL out2 x_x5 k3 s.1 s.2) (s:=(old6,0)) (_,_,_) ((hE ⟨rfl,r,r,r,r,r,trivial⟩ ⟨rfl,r,r,trivial⟩))<|?_
    rintro ⟨old7,i8⟩ ⟨v1x3,v3x3,v6x3⟩ nn
    try dsimp only
    unfold XL
    refine A 9 ?_
    refine cD r ?_ ?_
    ·exact B
    ·refine A 11 ?_
     refine cD r ?_ ?_
     ·refine A 3 ?_
      refine bS ([(PQ.mk x_x5.A x_x5.B)] : List PQ) Tf r r r (by simp) r r r<|?_
      exact B
     ·exact B
  ·rintro out4 ⟨v1x4,v3x4⟩ nn
   try dsimp only
   unfold Vl
   exact B
 ·exact B

def Agk (b : (List Int)) : D:=.sl (b.map Pa)
noncomputable def ZS : Dw.Spec:=Pe [] (.row 1 3) QK QJ (fun a=>Tn a.1 a.2) Agk noE
theorem AbC : Pd Tryz.prog 34 ZS:=by
 refine fn2 2 (Pz) Tryz.func34<|?_
 rintro ⟨to1,s2⟩
 unfold Tn
 refine A 17 ?_
 refine lP (E:=fun (s : (List Int) × Int) (g : Nat)=>[(0,.sl (to1.map Pa)),(1,.int .i64 s2),(5,.osl 5 g 0 s.1.length),(6,.int .i64 s.2)]) (O:=fun s g=>[(5,some (g,⟨false,false,1,3,s.1.map Pa⟩))]) (body:=fun s=>VC to1 s2 s.1 s.2) (s:=(([] : List Int),0)) _ ((hE ⟨rfl,r,r,r,trivial⟩ ⟨rfl,trivial⟩))<|?_
 rintro ⟨out3,t4⟩ v5x1 nn
 try dsimp only
 unfold VC
 exact B

def WG (a : (List (List Int)) × (List Int) × Int × Int) : List D:=[.sl (a.1.map (eL Pa)),.sl (a.2.1.map Pa),.int .i64 a.2.2.1,.int .i64 a.2.2.2]
def WE (ds : List D) : (List (List Int)) × (List Int) × Int × Int:=((uL (uL uI)) (ds.getD 0 .top),(uL uI) (ds.getD 1 .top),uI (ds.getD 2 .top),uI (ds.getD 3 .top))
theorem Ahg (a : (List (List Int)) × (List Int) × Int × Int) : WE (WG a) = a:=by simp [WE,WG,uI,Qa (u:=(uL uI)) (en:=(eL Pa)) (Qa (u:=uI) (en:=Pa) (fun _=>rfl)),Qa (u:=uI) (en:=Pa) (fun _=>rfl)]
instance : PA WG WE:=⟨Ahg⟩
def Aii (b : Bool) : D:=.bool b
noncomputable def AdA : Dw.Spec:=Pe [] .ground WG WE (fun a=>YE a.1 a.2.1 a.2.2.1 a.2.2.2) Aii noE
theorem Ahh : Pd Tryz.prog 98 AdA:=by
 refine fn2 4 (Pk (l:=[(34,ZS),(62,Wi)]) (by simp [AbC,Xd])) Tryz.func98<|?_
 rintro ⟨g1,to2,a3,b4⟩
 unfold YE
 refine A 9 ?_
 refine bD fun r5 hr5=>?_
 refine A 3 ?_
 refine bD fun r6 hr6=>?_
 refine A 12 ?_
 refine lP (E:=fun (s : Int) (g : Nat × Nat)=>[(0,.sl (g1.map (eL Pa))),(9,.osl 9 g.1 0 r5.length),(10,.osl 10 g.2 0 r6.length),(11,.int .i64 s)]) (O:=fun _ g=>[(9,some (g.1,⟨false,false,1,3,r5.map Pa⟩)),(10,some (g.2,⟨false,false,1,3,r6.map Pa⟩))]) (body:=fun s=>XQ r5 r6 g1 s) (s:=0) (_,_) ((hE ⟨rfl,r,r,r,trivial⟩ ⟨rfl,r,trivial⟩))<|?_
 rintro i7 ⟨v9x1,v10x1⟩ nn
 try dsimp only
 unfold XQ
 refine A 9 ?_
 refine cD r ?_ ?_
 ·refine A 2 ?_
  refine bC (E:=fun (_s : Unit) (g : Nat × Nat)=>[(0,.sl (g1.map (eL Pa))),(9,.osl 9 g.1 0 r5.length),(10,.osl 10 g.2 0 r6.length),(11,.int .i64 i7)]) (O:=fun _ g=>[(9,some (g.1,⟨false,false,1,3,r5.map Pa⟩)),(10,some (g.2,⟨false,false,1,3,r6.map Pa⟩))]) (j:=fun _=>XS i7) ?_ ?_
  ·refine A 6 ?_
   refine lP (E:=fun (s : Int) (g : Nat × Nat)=>[(0,.sl (g1.map (eL Pa))),(9,.osl 9 g.1 0 r5.length),(10,.osl 10 g.2 0 r6.length),(11,.int .i64 i7),(12,.int .i64 s)]) (O:=fun _ g=>[(9,some (g.1,⟨false,false,1,3,r5.map Pa⟩)),(10,some (g.2,⟨false,false,1,3,r6.map Pa⟩))]) (body:=fun s=>XR r6 i7 r5 g1 s) (s:=0) (_,_) ((hE ⟨rfl,r,r,r,r,trivial⟩ ⟨rfl,r,trivial⟩))<|?_
   rintro k8 ⟨v9x2,v10x2⟩ nn
   try dsimp only
   unfold XR
   exact B
  ·rintro ⟨⟩ ⟨v9x3,v10x3⟩ nn
   try dsimp only
   unfold XS
   exact B
 ·exact B

end Go.Proofs.YtpagjjmondojpaaGreatDoor
