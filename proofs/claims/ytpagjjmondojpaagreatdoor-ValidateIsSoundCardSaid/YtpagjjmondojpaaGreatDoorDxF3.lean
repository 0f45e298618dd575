/-
  Programs on typed data, and the proofs that the code does what they say; written by a program (dx.py).
-/
import Derived.Test.YtpagjjmondojpaaGreatDoorProg
import Derived.Test.YtpagjjmondojpaaGreatDoorDd
import Derived.KernelRfl
import Derived.Test.YtpagjjmondojpaaGreatDoorDxP
import Derived.Test.YtpagjjmondojpaaGreatDoorDxF1
import Derived.Test.YtpagjjmondojpaaGreatDoorDxF2
namespace Go.Proofs.YtpagjjmondojpaaGreatDoor
open Go Go.Dw Go.Proofs
open Go.IntKind (i64)
set_option maxRecDepth 100000
set_option maxHeartbeats 40000000
open Go.Dw renaming PI -> bD,OV -> cK,Acu -> bS,Acs -> aP,TH -> sE,Aae -> iO,AaT -> cD,Agb -> xL,Wq -> hE,Acw -> lP,Xc -> sC,Wp -> bC,rf -> r
noncomputable section
def AnU (b : Bool) : D:=.bool b
def AhC : Dw.Spec:=NJ [] .ground Qr Qq (λa=>Abv a.1 a.2) AnU noE
theorem Amt : NG Tryz.prog 89 AhC:=by
 refine fn2 2 (Od) Tryz.func89<|?_
 rintro ⟨a1,b2⟩
 unfold Abv
 refine A 15 ?_
 refine cD r ?_ ?_
 ·exact B
 ·refine A 9 ?_
  refine lP (E:=λ(s : Int) (_g : Unit)=>[(0,.sl (a1.map NH)),(1,.sl (b2.map NH)),(5,Nx s)]) (O:=λ_ _=>[]) (body:=λs=>Tm a1 b2 s) (s:=0) () ((hE ⟨rfl,r,r,trivial⟩ trivial))<|?_
  rintro i3 ⟨⟩ nn
  try dsimp only
  unfold Tm
  exact B

def VG (a : (List (List Int)) × (List (List Int))) : List D:=[.sl (a.1.map (eL NH)),.sl (a.2.map (eL NH))]
def VF (ds : List D) : (List (List Int)) × (List (List Int)):=((uL (uL uI)) (ds.getD 0 .top),(uL (uL uI)) (ds.getD 1 .top))
theorem Ajy (a : (List (List Int)) × (List (List Int))) : VF (VG a) = a:=by simp [VF,VG,OY (u:=(uL uI)) (en:=(eL NH)) (OY (u:=uI) (en:=NH) (λ_=>rfl))]
instance : Ol VG VF:=⟨Ajy⟩
def Akj (b : Bool) : D:=.bool b
def AeC : Dw.Spec:=NJ [] .ground VG VF (λa=>Xj a.1 a.2) Akj noE
theorem Ajz : NG Tryz.prog 54 AeC:=by
 refine fn2 2 (NO (l:=[(89,AhC)]) (by simp [Amt])) Tryz.func54<|?_
 rintro ⟨a1,b2⟩
 unfold Xj
 refine A 15 ?_
 refine cD r ?_ ?_
 ·exact B
 ·refine A 9 ?_
  refine lP (E:=λ(s : Int) (_g : Unit)=>[(0,.sl (a1.map (eL NH))),(1,.sl (b2.map (eL NH))),(5,Nx s)]) (O:=λ_ _=>[]) (body:=λs=>Rk a1 b2 s) (s:=0) () ((hE ⟨rfl,r,r,trivial⟩ trivial))<|?_
  rintro i3 ⟨⟩ nn
  try dsimp only
  unfold Rk
  exact B

def YZ (a : NQ × NQ) : List D:=[PO a.1,PO a.2]
def YY (ds : List D) : NQ × NQ:=(VQ (ds.getD 0 .top),VQ (ds.getD 1 .top))
theorem Amz (a : NQ × NQ) : YY (YZ a) = a:=by simp [YY,YZ]
instance : Ol YZ YY:=⟨Amz⟩
def Aoc (b : Bool) : D:=.bool b
def AhJ : Dw.Spec:=NJ [] .ground YZ YY (λa=>AbD a.1 a.2) Aoc noE
theorem AmA : NG Tryz.prog 28 AhJ:=by
 refine fn2 2 (NO (l:=[(54,AeC)]) (by simp [Ajz])) Tryz.func28<|?_
 intro a
 unfold AbD
 exact B

def Vn (a : Nz) : List D:=[NP a]
def Vm (ds : List D) : Nz:=QZ (ds.getD 0 .top)
theorem Aln (a : Nz) : Vm (Vn a) = a:=by simp [Vm,Vn]
instance : Ol Vn Vm:=⟨Aln⟩
def AmB (b : NQ) : D:=PO b
def Aaq : Dw.Spec:=NJ [] .val Vn Vm (λa=>TJ a) AmB noE
theorem Acp : NG Tryz.prog 9 Aaq:=by
 refine fn2 1 (NO (l:=[(27,AhL),(28,AhJ)]) (by simp [AmC,AmA])) Tryz.func9<|?_
 intro f1
 unfold TJ
 refine A 11 ?_
 refine cK λhq=>AeY (α:=Int) r r r hq r<|?_
 refine A 4 ?_
 refine QA (E:=[(1,.optr 1 _ 0 0),(2,.optr 2 _ 0 0),(3,.optr 3 _ 0 0)]) (O:=[(1,dV _ 3 40 (NP f1)),(2,dV _ 1 29 (.agg [.nils])),(3,dV _ 1 29 (.agg [.osl 8 _ 0 ((List.replicate (f1.Code.length : Int).toNat ([] : (List Int))).length)])),(8,dW _ 1 30 ((List.replicate (f1.Code.length : Int).toNat ([] : (List Int))).map (eL NH)))]) ((Aho (g:=8) r (Ajr (l:=List.replicate (f1.Code.length : Int).toNat ([] : (List Int))) NH (λ_ h=>List.eq_of_mem_replicate h)) (hE ⟨rfl,r,r,trivial⟩ ⟨rfl,r,r,r,trivial⟩))) λnn=>?_
 refine A 1 ?_
 refine lP (E:=λ(_s : (List (List Int))) (g : Nat × Nat × Nat)=>[(1,.optr 1 g.1 0 0),(2,.optr 2 g.2.1 0 0),(3,.optr 3 g.2.2 0 0)]) (O:=λs g=>[(1,dV g.1 3 40 (NP f1)),(2,dV g.2.1 1 29 (.agg [.nils])),(3,dV g.2.2 1 29 (.agg [.sl (s.map (eL NH))]))]) (body:=λs=>Za f1 s) (s:=List.replicate (f1.Code.length : Int).toNat ([] : (List Int))) (_,_,_) ((Acd [(8,some (_,⟨true,false,1,30,(List.replicate (f1.Code.length : Int).toNat ([] : (List Int))).map (eL NH)⟩))] ⟨⟨_,_,r,r,r⟩,trivial⟩ ⟨(OI r),(OI r),(OI r),trivial⟩ ⟨(.inl r),(.inl r),(.inr ⟨_,_,_,_,r,r,r,r,AaA r ⟨(Yh (l:=List.replicate (f1.Code.length : Int).toNat ([] : (List Int))) (en:=(eL NH)) r r r (by simp)),trivial⟩⟩),trivial⟩))<|?_
 rintro l2 ⟨v1x1,v2x1,v3x1⟩ nn
 try dsimp only
 unfold Za
 exact B

def RJ (a : Mk × Nz) : List D:=[Oy a.1,NP a.2]
def RI (ds : List D) : Mk × Nz:=(RH (ds.getD 0 .top),QZ (ds.getD 1 .top))
theorem AgM (a : Mk × Nz) : RI (RJ a) = a:=by simp [RI,RJ]
instance : Ol RJ RI:=⟨AgM⟩
def Yk (b : NQ × Mk) : D:=PO b.1
def Ahf (b : NQ × Mk) : List D:=[Oy b.2]
def AcE : Dw.Spec:=NJ [(0,(2,91))] .val RJ RI (λa=>TY a.1 a.2) Yk Ahf
theorem AgN : NG Tryz.prog 22 AcE:=by
 refine fn2 2 (NO (l:=[(9,Aaq),(21,OS),(42,Xw)]) (by simp [Acp,OT,Yx])) Tryz.func22<|?_
 rintro ⟨c1,f2⟩
 unfold TY
 refine A 9 ?_
 refine bD λr3 hr3=>?_
 refine A 9 ?_
 refine cK λhq=>aP (([] : List (List Int))) (r3.Out) (eL NH) r r r r r r r (by simp) r r r (by simp) r (λ_=>r) r hq<|?_
 refine A 9 ?_
 refine bD λr4 hr4=>?_
 refine A 5 ?_
 refine lP (E:=λ(s : (List Int) × Int × (List (List Int)) × Int) (g : Nat × Nat × Nat × Nat)=>[(0,.optr 8192 0 0 0),(3,.optr 3 g.1 0 0),(4,.optr 4 g.2.1 0 0),(6,.optr 6 g.2.2.1 0 0),(7,Nx s.2.2.2)]) (O:=λs g=>[(3,dV g.1 3 40 (NP f2)),(4,dV g.2.1 1 29 (.agg [.nils])),(6,dV g.2.2.1 1 29 (.agg [.osl 14 g.2.2.2 0 s.2.2.1.length])),(14,dW g.2.2.2 1 30 (s.2.2.1.map (eL NH))),(8192,dV 0 2 91 (.agg [.sl (s.1.map eU8),Nx s.2.1]))]) (body:=λs=>Ud f2 s.1 s.2.1 s.2.2.1 s.2.2.2) (s:=(r4.2.list,r4.2.at_,([] : List (List Int)) ++ r3.Out,r4.1)) (_,_,_,_) ((hE ⟨rfl,r,r,r,r,trivial⟩ ⟨rfl,r,r,r,r,trivial⟩))<|?_
 rintro ⟨c5,c6,x7,n8⟩ ⟨v3x1,v4x1,v6x1,v14x1⟩ nn
 try dsimp only
 unfold Ud
 refine sC (E:=λ(_s : Unit) (g : Nat × Nat × Nat × Nat)=>[(0,.optr 8192 0 0 0),(3,.optr 3 g.1 0 0),(4,.optr 4 g.2.1 0 0),(6,.optr 6 g.2.2.1 0 0),(7,Nx n8),(21,.optr 3 g.1 0 1),(22,.sl (f2.Slots.map OM)),(23,Nx (f2.Slots.length : Int)),(24,.bool (decide ((f2.Slots.length : Int) > 0)))]) (O:=λ_ g=>[(3,dV g.1 3 40 (NP f2)),(4,dV g.2.1 1 29 (.agg [.nils])),(6,dV g.2.2.1 1 29 (.agg [.osl 14 g.2.2.2 0 x7.length])),(14,dW g.2.2.2 1 30 (x7.map (eL NH))),(8192,dV 0 2 91 (.agg [.sl (c5.map eU8),Nx c6]))]) (j:=λ_=>Uf c5 c6 f2 n8 x7) ?_ ?_
 ·refine A 5 ?_
  refine AbY r ?_ ?_
  ·refine A 7 ?_
   refine cD r ?_ ?_
   ·exact B
   ·refine A 12 ?_
    refine Uz (b:=((NQ.mk x7),(Mk.mk c5 c6))) r ?_ r r ?_ (by first | rfl | (simp only [Nw]; rfl) | (simp only [NA]; rfl) | (simp only [Nw,NA]; rfl) | simp [Yk,PO])
    all_goals first|(simp;done)|(simp;omega)|rfl|(simp [OK,OP];done)
  ·refine A 20 ?_
   refine Uz (b:=((NQ.mk x7),(Mk.mk c5 c6))) r ?_ r r ?_ (by first | rfl | (simp only [Nw]; rfl) | (simp only [NA]; rfl) | (simp only [Nw,NA]; rfl) | simp [Yk,PO])
   all_goals first|(simp;done)|(simp;omega)|rfl|(simp [OK,OP];done)
 ·rintro ⟨⟩ ⟨v3x2,v4x2,v6x2,v14x2⟩ nn
  try dsimp only
  unfold Uf
  refine bC (E:=λ(_s : (List Int) × Int × (List (List Int))) (g : Nat × Nat × Nat × Nat)=>[(0,.optr 8192 0 0 0),(3,.optr 3 g.1 0 0),(4,.optr 4 g.2.1 0 0),(6,.optr 6 g.2.2.1 0 0),(7,Nx n8),(21,.optr 3 g.1 0 1),(22,.sl (f2.Slots.map OM)),(23,Nx (f2.Slots.length : Int)),(24,.bool (decide ((f2.Slots.length : Int) > 0)))]) (O:=λs g=>[(3,dV g.1 3 40 (NP f2)),(4,dV g.2.1 1 29 (.agg [.nils])),(6,dV g.2.2.1 1 29 (.agg [.osl 14 g.2.2.2 0 s.2.2.length])),(14,dW g.2.2.2 1 30 (s.2.2.map (eL NH))),(8192,dV 0 2 91 (.agg [.sl (s.1.map eU8),Nx s.2.1]))]) (j:=λs=>Ug n8 s.1 s.2.1 s.2.2) ?_ ?_
  ·refine A 6 ?_
   refine bD λr12 hr12=>?_
   refine A 10 ?_
   refine lP (E:=λ(s : (List (List Int)) × Int) (g : Nat × Nat × Nat × Nat)=>[(0,.optr 8192 0 0 0),(3,.optr 3 g.1 0 0),(4,.optr 4 g.2.1 0 0),(6,.optr 6 g.2.2.1 0 0),(7,Nx n8),(8,Nx r12.1),(9,Nx s.2),(21,.optr 3 g.1 0 1),(22,.sl (f2.Slots.map OM)),(23,Nx (f2.Slots.length : Int)),(24,.bool (decide ((f2.Slots.length : Int) > 0)))]) (O:=λs g=>[(3,dV g.1 3 40 (NP f2)),(4,dV g.2.1 1 29 (.agg [.nils])),(6,dV g.2.2.1 1 29 (.agg [.osl 14 g.2.2.2 0 s.1.length])),(14,dW g.2.2.2 1 30 (s.1.map (eL NH))),(8192,dV 0 2 91 (.agg [.sl (r12.2.list.map eU8),Nx r12.2.at_]))]) (body:=λs=>Ue r12 n8 s.1 s.2) (s:=(x7,0)) (_,_,_,_) ((hE ⟨rfl,r,r,r,r,r,r,r,r,r,r,trivial⟩ ⟨rfl,r,r,r,r,trivial⟩))<|?_
   rintro ⟨x13,k14⟩ ⟨v3x3,v4x3,v6x3,v14x3⟩ nn
   try dsimp only
   unfold Ue
   refine A 10 ?_
   refine cD r ?_ ?_
   ·refine A 12 ?_
    refine bD λx_e15 hx_e15=>?_
    refine A 2 ?_
    refine bD λr16 hr16=>?_
    refine A 2 ?_
    refine bD λx_o17 hx_o17=>sE (l:=x13) (en:=(eL NH)) (q':=r16) r r r r r r r (by simp) hx_o17 r r r (by simp [Pl,cells,eL]) r<|?_
    refine A 8 ?_
    exact xL (s:=(x13.set k14.toNat r16,i64.wrap (k14 + 1))) (_,_,_,_) ((hE ⟨rfl,r,r,r,r,r,r,r,r,r,r,trivial⟩ ⟨rfl,r,(Eq.trans (b:=dV _ 1 29 (.agg [.osl 14 _ 0 x13.length])) r (by simp)),r,r,trivial⟩))
   ·exact B
  ·rintro ⟨c9,c10,x11⟩ ⟨v3x4,v4x4,v6x4,v14x4⟩ nn
   try dsimp only
   unfold Ug
   exact B

def Ajp (b : Int × Mk) : D:=Nx b.1
def Ajo (b : Int × Mk) : List D:=[Oy b.2]
def AaE : Dw.Spec:=NJ [(0,(2,91))] .val PK PJ (λa=>Sk a) Ajp Ajo
theorem Adi : NG Tryz.prog 44 AaE:=by
 refine fn2 1 (NO (l:=[(21,OS)]) (by simp [OT])) Tryz.func44<|?_
 intro c1
 unfold Sk
 refine A 8 ?_
 refine bD λr2 hr2=>?_
 refine A 11 ?_
 refine cD r ?_ ?_
 ·refine A 2 ?_
  refine bS ([9223372036854775807,(-9223372036854775808),2147483648,2147483647,(-1),16777216,33554432,1048577,512,80] : List Int) NH r r r (by simp) r r r<|?_
  exact B
 ·exact B

def VB (b : NQ × Mk) : D:=PO b.1
def Aik (b : NQ × Mk) : List D:=[Oy b.2]
def Adk : Dw.Spec:=NJ [(0,(2,91))] .val RJ RI (λa=>UI a.1 a.2) VB Aik
theorem Ahe : NG Tryz.prog 23 Adk:=by
 refine fn2 2 (NO (l:=[(9,Aaq),(21,OS),(42,Xw),(43,Acn),(44,AaE)]) (by simp [Acp,OT,Yx,AeB,Adi])) Tryz.func23<|?_
 rintro ⟨c1,f2⟩
 unfold UI
 refine A 9 ?_
 refine bD λr3 hr3=>?_
 refine A 9 ?_
 refine bD λr4 hr4=>?_
 refine A 4 ?_
 refine cD r ?_ ?_
 ·exact B
 ·refine A 6 ?_
  refine cK λhq=>aP (([] : List (List Int))) (r3.Out) (eL NH) r r r r r r r (by simp) r r r (by simp) r (λ_=>r) r hq<|?_
  refine A 5 ?_
  refine sC (E:=λ(_s : (List Int) × Int × (List (List Int))) (g : Nat × Nat × Nat)=>[(0,.optr 8192 0 0 0),(4,.optr 4 g.1 0 0),(6,.optr 6 g.2.1 0 0)]) (O:=λs g=>[(4,dV g.1 1 29 (.agg [.nils])),(6,dV g.2.1 1 29 (.agg [.osl 19 g.2.2 0 s.2.2.length])),(19,dW g.2.2 1 30 (s.2.2.map (eL NH))),(8192,dV 0 2 91 (.agg [.sl (s.1.map eU8),Nx s.2.1]))]) (j:=λs=>Rn s.1 s.2.1 s.2.2) ?_ ?_
  ·refine A 3 ?_
   refine bD λr8 hr8=>?_
   refine A 5 ?_
   refine lP (E:=λ(s : (List Int) × Int × (List (List Int)) × Int) (g : Nat × Nat × Nat × Nat)=>[(0,.optr 8192 0 0 0),(3,.optr 3 g.1 0 0),(4,.optr 4 g.2.1 0 0),(6,.optr 6 g.2.2.1 0 0),(7,Nx s.2.2.2)]) (O:=λs g=>[(3,dV g.1 3 40 (NP f2)),(4,dV g.2.1 1 29 (.agg [.nils])),(6,dV g.2.2.1 1 29 (.agg [.osl 19 g.2.2.2 0 s.2.2.1.length])),(19,dW g.2.2.2 1 30 (s.2.2.1.map (eL NH))),(8192,dV 0 2 91 (.agg [.sl (s.1.map eU8),Nx s.2.1]))]) (body:=λs=>UJ f2 s.1 s.2.1 s.2.2.1 s.2.2.2) (s:=(r8.2.list,r8.2.at_,([] : List (List Int)) ++ r3.Out,r8.1)) (_,_,_,_) ((hE ⟨rfl,r,r,r,r,trivial⟩ ⟨rfl,r,r,r,r,trivial⟩))<|?_
   rintro ⟨c9,c10,x11,n12⟩ ⟨v3x1,v4x1,v6x1,v19x1⟩ nn
   try dsimp only
   unfold UJ
   refine sC (E:=λ(_s : Unit) (g : Nat × Nat × Nat × Nat)=>[(0,.optr 8192 0 0 0),(3,.optr 3 g.1 0 0),(4,.optr 4 g.2.1 0 0),(6,.optr 6 g.2.2.1 0 0),(7,Nx n12),(26,.optr 3 g.1 0 1),(27,.sl (f2.Slots.map OM)),(28,Nx (f2.Slots.length : Int)),(29,.bool (decide ((f2.Slots.length : Int) > 0)))]) (O:=λ_ g=>[(3,dV g.1 3 40 (NP f2)),(4,dV g.2.1 1 29 (.agg [.nils])),(6,dV g.2.2.1 1 29 (.agg [.osl 19 g.2.2.2 0 x11.length])),(19,dW g.2.2.2 1 30 (x11.map (eL NH))),(8192,dV 0 2 91 (.agg [.sl (c9.map eU8),Nx c10]))]) (j:=λ_=>UL c9 c10 f2 n12 x11) ?_ ?_
   ·exact B
   ·rintro ⟨⟩ ⟨v3x2,v4x2,v6x2,v19x2⟩ nn
    try dsimp only
    unfold UL
    refine bC (E:=λ(_s : (List Int) × Int × (List (List Int))) (g : Nat × Nat × Nat × Nat)=>[(0,.optr 8192 0 0 0),(3,.optr 3 g.1 0 0),(4,.optr 4 g.2.1 0 0),(6,.optr 6 g.2.2.1 0 0),(7,Nx n12),(26,.optr 3 g.1 0 1),(27,.sl (f2.Slots.map OM)),(28,Nx (f2.Slots.length : Int)),(29,.bool (decide ((f2.Slots.length : Int) > 0)))]) (O:=λs g=>[(3,dV g.1 3 40 (NP f2)),(4,dV g.2.1 1 29 (.agg [.nils])),(6,dV g.2.2.1 1 29 (.agg [.osl 19 g.2.2.2 0 s.2.2.length])),(19,dW g.2.2.2 1 30 (s.2.2.map (eL NH))),(8192,dV 0 2 91 (.agg [.sl (s.1.map eU8),Nx s.2.1]))]) (j:=λs=>Qs n12 s.1 s.2.1 s.2.2) ?_ ?_
    ·refine A 6 ?_
     refine bD λr16 hr16=>?_
     refine A 8 ?_
     refine bD λr17 hr17=>?_
     refine A 4 ?_
     refine cD r ?_ ?_
     ·refine A 7 ?_
      refine lP (E:=λ(s : (List (List Int)) × Int) (g : Nat × Nat × Nat × Nat)=>[(0,.optr 8192 0 0 0),(3,.optr 3 g.1 0 0),(4,.optr 4 g.2.1 0 0),(6,.optr 6 g.2.2.1 0 0),(7,Nx n12),(8,Nx r16.1),(9,Nx s.2),(26,.optr 3 g.1 0 1),(27,.sl (f2.Slots.map OM)),(28,Nx (f2.Slots.length : Int)),(29,.bool (decide ((f2.Slots.length : Int) > 0)))]) (O:=λs g=>[(3,dV g.1 3 40 (NP f2)),(4,dV g.2.1 1 29 (.agg [.nils])),(6,dV g.2.2.1 1 29 (.agg [.osl 19 g.2.2.2 0 s.1.length])),(19,dW g.2.2.2 1 30 (s.1.map (eL NH))),(8192,dV 0 2 91 (.agg [.sl (r17.2.list.map eU8),Nx r17.2.at_]))]) (body:=λs=>UK r16 n12 r17 s.1 s.2) (s:=(x11,0)) (_,_,_,_) ((hE ⟨rfl,r,r,r,r,r,r,r,r,r,r,trivial⟩ ⟨rfl,r,r,r,r,trivial⟩))<|?_
      rintro ⟨x18,k19⟩ ⟨v3x3,v4x3,v6x3,v19x3⟩ nn
      try dsimp only
      unfold UK
      refine A 10 ?_
      refine cD r ?_ ?_
      ·refine A 12 ?_
       refine bD λx_e20 hx_e20=>?_
       refine A 2 ?_
       refine bD λr21 hr21=>?_
       refine A 2 ?_
       refine bD λx_o22 hx_o22=>sE (l:=x18) (en:=(eL NH)) (q':=r21) r r r r r r r (by simp) hx_o22 r r r (by simp [Pl,cells,eL]) r<|?_
       refine A 8 ?_
       exact xL (s:=(x18.set k19.toNat r21,i64.wrap (k19 + 1))) (_,_,_,_) ((hE ⟨rfl,r,r,r,r,r,r,r,r,r,r,trivial⟩ ⟨rfl,r,(Eq.trans (b:=dV _ 1 29 (.agg [.osl 19 _ 0 x18.length])) r (by simp)),r,r,trivial⟩))
      ·exact B
     ·refine A 8 ?_
      refine bD λr23 hr23=>?_
      refine A 7 ?_
      refine bD λr24 hr24=>?_
      refine A 4 ?_
      refine cD r ?_ ?_
      ·refine A 8 ?_
       refine bD λx_e25 hx_e25=>?_
       refine A 2 ?_
       refine bD λr26 hr26=>?_
       refine A 2 ?_
       refine bD λx_o27 hx_o27=>sE (l:=x11) (en:=(eL NH)) (q':=r26) r r r r r r r (by simp) hx_o27 r r r (by simp [Pl,cells,eL]) r<|?_
       refine A 1 ?_
       exact Vp (s:=(r24.2.list,r24.2.at_,x11.set r23.1.toNat r26)) (_,_,_,_) ((hE ⟨rfl,r,r,r,r,r,r,r,r,trivial⟩ ⟨rfl,r,(Eq.trans (b:=dV _ 1 29 (.agg [.osl 19 _ 0 x11.length])) r (by simp)),r,r,trivial⟩))
      ·refine A 8 ?_
       refine bD λx_e28 hx_e28=>?_
       refine A 2 ?_
       refine bD λr29 hr29=>?_
       refine A 2 ?_
       refine bD λx_o30 hx_o30=>sE (l:=x11) (en:=(eL NH)) (q':=r29) r r r r r r r (by simp) hx_o30 r r r (by simp [Pl,cells,eL]) r<|?_
       refine A 1 ?_
       exact Vp (s:=(r24.2.list,r24.2.at_,x11.set r23.1.toNat r29)) (_,_,_,_) ((hE ⟨rfl,r,r,r,r,r,r,r,r,trivial⟩ ⟨rfl,r,(Eq.trans (b:=dV _ 1 29 (.agg [.osl 19 _ 0 x11.length])) r (by simp)),r,r,trivial⟩))
    ·rintro ⟨c13,c14,x15⟩ ⟨v3x4,v4x4,v6x4,v19x4⟩ nn
     try dsimp only
     unfold Qs
     exact B
  ·rintro ⟨c5,c6,x7⟩ ⟨v4x5,v6x5,v19x5⟩ nn
   try dsimp only
   unfold Rn
   refine A 4 ?_
   refine bD λr31 hr31=>?_
   refine A 10 ?_
   refine cD r ?_ ?_
   ·refine A 3 ?_
    refine cK λhq=>ZC (l:=x7) r r r r r r hq<|?_
    refine A 12 ?_
    refine Uz (b:=((NQ.mk (x7.drop ((1 : Int).toNat))),r31.2)) r ?_ r r ?_ (by first | rfl | (simp only; rfl) | (simp only [NA]; rfl) | (simp only [Nw,NA]; rfl) | simp [VB,PO])
    all_goals first|(simp;done)|(simp;omega)|rfl|(simp [OK,OP];done)
   ·refine A 6 ?_
    refine cD r ?_ ?_
    ·refine A 4 ?_
     refine bD λr32 hr32=>?_
     refine A 2 ?_
     refine bD λr33 hr33=>?_
     refine A 1 ?_
     refine bS ([r32.1,r33.1] : List Int) NH r r r (by simp) r r r<|cK λhq=>iO (l:=x7) (en:=(eL NH)) r r r r r hq<|bD λx_o34 hx_o34=>sE (l:=x7) (en:=(eL NH)) (q':=([r32.1,r33.1] : List Int)) r r r r r r r (by simp) hx_o34 r r r (by simp [Pl,cells,eL]) r<|?_
     refine A 10 ?_
     refine Uz (b:=((NQ.mk (x7.set ((0 : Int).toNat) ([r32.1,r33.1] : List Int))),r33.2)) r ?_ r r ?_ (by first | rfl | (simp only; rfl) | (simp only; rfl) | (simp only; rfl) | simp [VB,PO])
     all_goals first|(simp;done)|(simp;omega)|rfl|(simp [OK,OP];done)
    ·refine A 10 ?_
     refine Uz (b:=((NQ.mk x7),r31.2)) r ?_ r r ?_ (by first | rfl | (simp only [Nw]; rfl) | (simp only [NA]; rfl) | (simp only [Nw,NA]; rfl) | simp [VB,PO])
     all_goals first|(simp;done)|(simp;omega)|rfl|(simp [OK,OP];done)

def Amr (b : Bool) : D:=.bool b
def Adc : Dw.Spec:=NJ [] .ground Rj Ri (λa=>Xx a) Amr noE
theorem Afq : NG Tryz.prog 91 Adc:=by
 refine fn2 1 (NO (l:=[(71,AdV)]) (by simp [Agt])) Tryz.func91<|?_
 intro s1
 unfold Xx
 refine A 12 ?_
 refine lP (E:=λ(s : Int) (_g : Unit)=>[(0,.sl (s1.map NH)),(3,Nx s)]) (O:=λ_ _=>[]) (body:=λs=>Rv s1 s) (s:=0) () ((hE ⟨rfl,r,trivial⟩ trivial))<|?_
 rintro i2 ⟨⟩ nn
 try dsimp only
 unfold Rv
 exact B

def AmF (b : Bool) : D:=.bool b
def Ade : Dw.Spec:=NJ [] .ground OQ OO (λa=>Xz a.1 a.2) AmF noE
theorem Afx : NG Tryz.prog 58 Ade:=by
 refine fn2 2 (NO (l:=[(91,Adc)]) (by simp [Afq])) Tryz.func58<|?_
 rintro ⟨f1,l2⟩
 unfold Xz
 refine A 19 ?_
 refine cD r ?_ ?_
 ·exact B
 ·refine A 9 ?_
  refine lP (E:=λ(s : Int) (g : Nat × Nat)=>[(2,.optr 2 g.1 0 0),(3,.optr 3 g.2 0 0),(5,Nx s)]) (O:=λ_ g=>[(2,dV g.1 3 40 (NP f1)),(3,dV g.2 1 29 (.agg [.sl (l2.Out.map (eL NH))]))]) (body:=λs=>Zc l2 f1 s) (s:=0) (_,_) ((hE ⟨rfl,r,r,trivial⟩ ⟨rfl,r,trivial⟩))<|?_
  rintro k3 ⟨v2x1,v3x1⟩ nn
  try dsimp only
  unfold Zc
  exact B

def AoW (b : Bool) : D:=.bool b
def Vv : Dw.Spec:=NJ [] .ground Qg Qf (λa=>SZ a.1 a.2) AoW noE
theorem Wf : NG Tryz.prog 62 Vv:=by
 refine fn2 2 (Od) Tryz.func62<|?_
 rintro ⟨s1,n2⟩
 unfold SZ
 refine A 12 ?_
 refine lP (E:=λ(s : Int) (_g : Unit)=>[(0,.sl (s1.map NH)),(1,Nx n2),(5,Nx s)]) (O:=λ_ _=>[]) (body:=λs=>We s1 n2 s) (s:=0) () ((hE ⟨rfl,r,r,trivial⟩ trivial))<|?_
 rintro i3 ⟨⟩ nn
 try dsimp only
 unfold We
 exact B

def Ams (b : (List Int)) : D:=.sl (b.map NH)
def Ags : Dw.Spec:=NJ [] (.row 1 3) Qr Qq (λa=>ZS a.1 a.2) Ams noE
theorem Ale : NG Tryz.prog 119 Ags:=by
 refine fn2 2 (NO (l:=[(62,Vv)]) (by simp [Wf])) Tryz.func119<|?_
 rintro ⟨a1,b2⟩
 unfold ZS
 refine A 17 ?_
 refine lP (E:=λ(s : (List Int) × Int) (g : Nat)=>[(0,.sl (a1.map NH)),(1,.sl (b2.map NH)),(5,.osl 5 g 0 s.1.length),(6,Nx s.2)]) (O:=λs g=>[(5,dW g 1 3 (s.1.map NH))]) (body:=λs=>So a1 b2 s.1 s.2) (s:=(([] : List Int),0)) _ ((hE ⟨rfl,r,r,r,trivial⟩ ⟨rfl,trivial⟩))<|?_
 rintro ⟨out3,i4⟩ v5x1 nn
 try dsimp only
 unfold So
 exact B

def Ts (a : Nz × NQ × Int) : List D:=[NP a.1,PO a.2.1,Nx a.2.2]
def Tq (ds : List D) : Nz × NQ × Int:=(QZ (ds.getD 0 .top),VQ (ds.getD 1 .top),uI (ds.getD 2 .top))
theorem AjF (a : Nz × NQ × Int) : Tq (Ts a) = a:=by simp [Tq,Ts,uI]
instance : Ol Ts Tq:=⟨AjF⟩
def Akn (b : (List Int)) : D:=.sl (b.map NH)
def AeF : Dw.Spec:=NJ [] (.row 1 3) Ts Tq (λa=>Xn a.1 a.2.1 a.2.2) Akn noE
theorem AjG : NG Tryz.prog 90 AeF:=by
 refine fn2 3 (NO (l:=[(51,AdZ),(53,Agd),(119,Ags),(52,Xk)]) (by simp [Agy,Ajd,Ale,YR])) Tryz.func90<|?_
 rintro ⟨f1,l2,k3⟩
 unfold Xn
 refine A 16 ?_
 refine bD λr4 hr4=>?_
 refine A 11 ?_
 refine lP (E:=λ(s : (List Int) × Int) (g : Nat × Nat × Nat × Nat)=>[(2,Nx k3),(3,.optr 3 g.1 0 0),(4,.optr 4 g.2.1 0 0),(7,.osl 7 g.2.2.1 0 s.1.length),(8,.osl 8 g.2.2.2 0 r4.length),(9,Nx s.2)]) (O:=λs g=>[(3,dV g.1 3 40 (NP f1)),(4,dV g.2.1 1 29 (.agg [.sl (l2.Out.map (eL NH))])),(7,dW g.2.2.1 1 3 (s.1.map NH)),(8,dW g.2.2.2 1 3 (r4.map NH))]) (body:=λs=>Sp r4 f1 l2 k3 s.1 s.2) (s:=(([] : List Int),0)) (_,_,_,_) ((hE ⟨rfl,r,r,r,r,r,trivial⟩ ⟨rfl,r,r,r,trivial⟩))<|?_
 rintro ⟨out5,i6⟩ ⟨v3x1,v4x1,v7x1,v8x1⟩ nn
 try dsimp only
 unfold Sp
 exact B

def AmE (b : Int × Int × Bool) : D:=.tup [Nx b.1,Nx b.2.1,.bool b.2.2]
def AgA : Dw.Spec:=NJ [] .ground OQ OO (λa=>ZX a.1 a.2) AmE noE
theorem Alo : NG Tryz.prog 57 AgA:=by
 refine fn2 2 (NO (l:=[(58,Ade),(90,AeF)]) (by simp [Afx,AjG])) Tryz.func57<|?_
 rintro ⟨f1,l2⟩
 unfold ZX
 refine A 14 ?_
 refine bD λr3 hr3=>?_
 refine A 4 ?_
 refine cD r ?_ ?_
 ·exact B
 ·refine A 9 ?_
  refine lP (E:=λ(s : Int) (g : Nat × Nat)=>[(2,.optr 2 g.1 0 0),(3,.optr 3 g.2 0 0),(7,Nx s)]) (O:=λ_ g=>[(2,dV g.1 3 40 (NP f1)),(3,dV g.2 1 29 (.agg [.sl (l2.Out.map (eL NH))]))]) (body:=λs=>Zb f1 l2 s) (s:=0) (_,_) ((hE ⟨rfl,r,r,trivial⟩ ⟨rfl,r,trivial⟩))<|?_
  rintro k4 ⟨v2x1,v3x1⟩ nn
  try dsimp only
  unfold Zb
  exact B

def AmD (b : Int) : D:=Nx b
def Aas : Dw.Spec:=NJ [] .ground OQ OO (λa=>Vw a.1 a.2) AmD noE
theorem Acr : NG Tryz.prog 30 Aas:=by
 refine fn2 2 (NO (l:=[(57,AgA),(58,Ade)]) (by simp [Alo,Afx])) Tryz.func30<|?_
 intro a
 unfold Vw
 exact B

def XS (a : Nz × NQ × Bool) : List D:=[NP a.1,PO a.2.1,.bool a.2.2]
def XR (ds : List D) : Nz × NQ × Bool:=(QZ (ds.getD 0 .top),VQ (ds.getD 1 .top),uBo (ds.getD 2 .top))
theorem Alv (a : Nz × NQ × Bool) : XR (XS a) = a:=by simp [XR,XS,uBo]
instance : Ol XS XR:=⟨Alv⟩
def AmJ (b : (List (List Int)) × Int) : D:=.tup [.sl (b.1.map (eL NH)),Nx b.2]
def Adg : Dw.Spec:=NJ [] .val XS XR (λa=>XA a.1 a.2.1 a.2.2) AmJ noE
theorem Afz : NG Tryz.prog 96 Adg:=by
 refine fn2 3 (NO (l:=[(30,Aas),(61,Tk),(42,Xw)]) (by simp [Acr,Ub,Yx])) Tryz.func96<|?_
 rintro ⟨f1,l2,strict3⟩
 unfold XA
 refine A 13 ?_
 refine bD λr4 hr4=>?_
 refine A 10 ?_
 refine cD r ?_ ?_
 ·exact B
 ·refine A 7 ?_
  refine cK λhq=>AeY (α:=Int) r r r hq r<|?_
  refine A 2 ?_
  refine QA (E:=[(2,.bool strict3),(3,.optr 3 _ 0 0),(4,.optr 4 _ 0 0),(9,.osl 9 _ 0 ((List.replicate (f1.Slots.length : Int).toNat ([] : (List Int))).length))]) (O:=[(3,dV _ 3 40 (NP f1)),(4,dV _ 1 29 (.agg [.sl (l2.Out.map (eL NH))])),(9,dW _ 1 30 ((List.replicate (f1.Slots.length : Int).toNat ([] : (List Int))).map (eL NH)))]) ((Aho (g:=9) r (Ajr (l:=List.replicate (f1.Slots.length : Int).toNat ([] : (List Int))) NH (λ_ h=>List.eq_of_mem_replicate h)) (hE ⟨rfl,r,r,r,trivial⟩ ⟨rfl,r,r,trivial⟩))) λnn=>?_
  refine A 7 ?_
  refine lP (E:=λ(s : (List (List Int)) × Int) (g : Nat × Nat × Nat)=>[(2,.bool strict3),(3,.optr 3 g.1 0 0),(4,.optr 4 g.2.1 0 0),(9,.osl 9 g.2.2 0 s.1.length),(10,Nx s.2)]) (O:=λs g=>[(3,dV g.1 3 40 (NP f1)),(4,dV g.2.1 1 29 (.agg [.sl (l2.Out.map (eL NH))])),(9,dW g.2.2 1 30 (s.1.map (eL NH)))]) (body:=λs=>Zj f1 l2 strict3 s.1 s.2) (s:=(List.replicate (f1.Slots.length : Int).toNat ([] : (List Int)),0)) (_,_,_) ((hE ⟨rfl,r,r,r,r,trivial⟩ ⟨rfl,r,r,trivial⟩))<|?_
  rintro ⟨out5,k6⟩ ⟨v3x1,v4x1,v9x1⟩ nn
  try dsimp only
  unfold Zj
  refine A 10 ?_
  refine cD r ?_ ?_
  ·refine A 2 ?_
   refine bC (E:=λ(s : Int × Int × Int × Int × Int × (List (List Int))) (g : Nat × Nat × Nat)=>[(2,.bool strict3),(3,.optr 3 g.1 0 0),(4,.optr 4 g.2.1 0 0),(9,.osl 9 g.2.2 0 s.2.2.2.2.2.length),(10,Nx k6)]) (O:=λs g=>[(3,dV g.1 3 40 (NP f1)),(4,dV g.2.1 1 29 (.agg [.sl (l2.Out.map (eL NH))])),(9,dW g.2.2 1 30 (s.2.2.2.2.2.map (eL NH)))]) (j:=λs=>Sq k6 s.1 s.2.1 s.2.2.1 s.2.2.2.1 s.2.2.2.2.1 s.2.2.2.2.2) ?_ ?_
   ·refine A 5 ?_
    refine bD λx_x13 hx_x13=>?_
    refine A 9 ?_
    refine bD λr14 hr14=>?_
    refine A 8 ?_
    refine sC (E:=λ(_s : Unit) (g : Nat × Nat × Nat × Nat)=>[(2,.bool strict3),(3,.optr 3 g.1 0 0),(4,.optr 4 g.2.1 0 0),(9,.osl 9 g.2.2.1 0 out5.length),(10,Nx k6),(11,.optr 11 g.2.2.2 0 0),(12,Nx r14.1),(13,.bool r14.2)]) (O:=λ_ g=>[(3,dV g.1 3 40 (NP f1)),(4,dV g.2.1 1 29 (.agg [.sl (l2.Out.map (eL NH))])),(9,dW g.2.2.1 1 30 (out5.map (eL NH))),(11,dV g.2.2.2 5 69 (Oo x_x13))]) (j:=λ_=>TQ l2 k6 r14 strict3 x_x13 out5) ?_ ?_
    ·exact B
    ·rintro ⟨⟩ ⟨v3x2,v4x2,v9x2,v11x2⟩ nn
     try dsimp only
     unfold TQ
     refine A 6 ?_
     refine lP (E:=λ(s : (List (List Int)) × Int) (g : Nat × Nat × Nat × Nat)=>[(2,.bool strict3),(3,.optr 3 g.1 0 0),(4,.optr 4 g.2.1 0 0),(9,.osl 9 g.2.2.1 0 s.1.length),(10,Nx k6),(11,.optr 11 g.2.2.2 0 0),(12,Nx r14.1),(13,.bool r14.2),(14,Nx s.2)]) (O:=λs g=>[(3,dV g.1 3 40 (NP f1)),(4,dV g.2.1 1 29 (.agg [.sl (l2.Out.map (eL NH))])),(9,dW g.2.2.1 1 30 (s.1.map (eL NH))),(11,dV g.2.2.2 5 69 (Oo x_x13))]) (body:=λs=>Wl l2 k6 r14 strict3 x_x13 s.1 s.2) (s:=(out5,0)) (_,_,_,_) ((hE ⟨rfl,r,r,r,r,r,r,r,r,trivial⟩ ⟨rfl,r,r,r,trivial⟩))<|?_
     rintro ⟨out15,i16⟩ ⟨v3x3,v4x3,v9x3,v11x3⟩ nn
     try dsimp only
     unfold Wl
     refine sC (E:=λ(_s : Unit) (g : Nat × Nat × Nat × Nat)=>[(2,.bool strict3),(3,.optr 3 g.1 0 0),(4,.optr 4 g.2.1 0 0),(9,.osl 9 g.2.2.1 0 out15.length),(10,Nx k6),(11,.optr 11 g.2.2.2 0 0),(12,Nx r14.1),(13,.bool r14.2),(14,Nx i16),(62,.bool r14.2)]) (O:=λ_ g=>[(3,dV g.1 3 40 (NP f1)),(4,dV g.2.1 1 29 (.agg [.sl (l2.Out.map (eL NH))])),(9,dW g.2.2.1 1 30 (out15.map (eL NH))),(11,dV g.2.2.2 5 69 (Oo x_x13))]) (j:=λ_=>Zk l2 k6 i16 r14 out15 strict3 x_x13) ?_ ?_
     ·exact B
     ·rintro ⟨⟩ ⟨v3x4,v4x4,v9x4,v11x4⟩ nn
      try dsimp only
      unfold Zk
      refine A 7 ?_
      refine bD λx_x18 hx_x18=>?_
      refine A 3 ?_
      refine bD λx_x19 hx_x19=>?_
      refine A 5 ?_
      refine sC (E:=λ(s : Bool × Bool × Bool × Bool) (g : Nat × Nat × Nat × Nat)=>[(2,.bool strict3),(3,.optr 3 g.1 0 0),(4,.optr 4 g.2.1 0 0),(9,.osl 9 g.2.2.1 0 out15.length),(10,Nx k6),(11,.optr 11 g.2.2.2 0 0),(12,Nx r14.1),(13,.bool r14.2),(14,Nx i16),(15,Nx x_x19),(62,.bool r14.2),(78,.bool strict3),(79,.bool (!strict3)),(80,.bool s.1),(84,.bool s.2.1),(85,.bool s.2.2.1),(90,.bool s.2.2.2)]) (O:=λ_ g=>[(3,dV g.1 3 40 (NP f1)),(4,dV g.2.1 1 29 (.agg [.sl (l2.Out.map (eL NH))])),(9,dW g.2.2.1 1 30 (out15.map (eL NH))),(11,dV g.2.2.2 5 69 (Oo x_x13))]) (j:=λs=>Rx r14 out15 x_x19 i16 s.1 s.2.1 s.2.2.1 s.2.2.2) ?_ ?_
      ·exact B
      ·rintro ⟨x20,x21,x22,x23⟩ ⟨v3x5,v4x5,v9x5,v11x5⟩ nn
       try dsimp only
       unfold Rx
       refine A 8 ?_
       refine bD λout_e24 hout_e24=>?_
       refine A 2 ?_
       refine bD λr25 hr25=>?_
       refine A 4 ?_
       refine bD λout_e26 hout_e26=>?_
       refine A 2 ?_
       refine bD λr27 hr27=>?_
       refine A 2 ?_
       refine bD λout_o28 hout_o28=>sE (l:=out15) (en:=(eL NH)) (q':=r25) r r r r r r r (by simp) hout_o28 r r r (by simp [Pl,cells,eL]) r<|?_
       refine A 1 ?_
       refine bD λout_o29 hout_o29=>sE (l:=out15.set r14.1.toNat r25) (en:=(eL NH)) (q':=r27) r r r r r r r (by simp) hout_o29 r r r (by simp [Pl,cells,eL]) r<|?_
       exact B
   ·rintro ⟨x7,x8,x9,x10,x11,out12⟩ ⟨v3x6,v4x6,v9x6⟩ nn
    try dsimp only
    unfold Sq
    exact B
  ·exact B

def AmH (b : (List (List Int)) × Int) : D:=.tup [.sl (b.1.map (eL NH)),Nx b.2]
def AgC : Dw.Spec:=NJ [] .val OQ OO (λa=>ZZ a.1 a.2) AmH noE
theorem Alr : NG Tryz.prog 72 AgC:=by
 refine fn2 2 (NO (l:=[(96,Adg)]) (by simp [Afz])) Tryz.func72<|?_
 intro a
 unfold ZZ
 exact B

def AmI (b : (List Pe)) : D:=.sl (b.map Tg)
def AgD : Dw.Spec:=NJ [] (.row 2 149) Vn Vm (λa=>Aaa a) AmI noE
theorem Als : NG Tryz.prog 97 AgD:=by
 refine fn2 1 (Od) Tryz.func97<|?_
 intro f1
 unfold Aaa
 refine A 18 ?_
 refine lP (E:=λ(s : (List Pe) × Int) (g : Nat × Nat)=>[(1,.optr 1 g.1 0 0),(3,.osl 3 g.2 0 s.1.length),(4,Nx s.2)]) (O:=λs g=>[(1,dV g.1 3 40 (NP f1)),(3,dW g.2 2 149 (s.1.map Tg))]) (body:=λs=>Zh f1 s.1 s.2) (s:=(([] : List Pe),0)) (_,_) ((hE ⟨rfl,r,r,trivial⟩ ⟨rfl,r,trivial⟩))<|?_
 rintro ⟨out2,k3⟩ ⟨v1x1,v3x1⟩ nn
 try dsimp only
 unfold Zh
 refine A 10 ?_
 refine cD r ?_ ?_
 ·refine A 2 ?_
  refine bC (E:=λ(s : (List Pe)) (g : Nat × Nat)=>[(1,.optr 1 g.1 0 0),(3,.osl 3 g.2 0 s.length),(4,Nx k3)]) (O:=λs g=>[(1,dV g.1 3 40 (NP f1)),(3,dW g.2 2 149 (s.map Tg))]) (j:=λs=>Wj k3 s) ?_ ?_
  ·refine A 5 ?_
   refine bD λx_x5 hx_x5=>?_
   refine A 17 ?_
   refine sC (E:=λ(s : Bool) (g : Nat × Nat × Nat)=>[(1,.optr 1 g.1 0 0),(3,.osl 3 g.2.1 0 out2.length),(4,Nx k3),(6,.optr 6 g.2.2 0 0),(7,.bool s)]) (O:=λ_ g=>[(1,dV g.1 3 40 (NP f1)),(3,dW g.2.1 2 149 (out2.map Tg)),(6,dV g.2.2 2 149 (.agg [Nx x_x5.A,Nx x_x5.B]))]) (j:=λs=>TP out2 x_x5 k3 s) ?_ ?_
   ·exact B
   ·rintro old6 ⟨v1x2,v3x2,v6x2⟩ nn
    try dsimp only
    unfold TP
    refine A 7 ?_
    refine lP (E:=λ(s : Bool × Int) (g : Nat × Nat × Nat)=>[(1,.optr 1 g.1 0 0),(3,.osl 3 g.2.1 0 out2.length),(4,Nx k3),(6,.optr 6 g.2.2 0 0),(7,.bool s.1),(8,Nx s.2)]) (O:=λ_ g=>[(1,dV g.1 3 40 (NP f1)),(3,dW g.2.1 2 149 (out2.map Tg)),(6,dV g.2.2 2 149 (.agg [Nx x_x5.A,Nx x_x5.B]))]) (body:=λs=>Zi out2 x_x5 k3 s.1 s.2) (s:=(old6,0)) (_,_,_) ((hE ⟨rfl,r,r,r,r,r,trivial⟩ ⟨rfl,r,r,trivial⟩))<|?_
    rintro ⟨old7,i8⟩ ⟨v1x3,v3x3,v6x3⟩ nn
    try dsimp only
    unfold Zi
    refine A 9 ?_
    refine cD r ?_ ?_
    ·exact B
    ·refine A 11 ?_
     refine cD r ?_ ?_
     ·refine A 3 ?_
      refine bS ([(Pe.mk x_x5.A x_x5.B)] : List Pe) Tg r r r (by simp) r r r<|?_
      exact B
     ·exact B
  ·rintro out4 ⟨v1x4,v3x4⟩ nn
   try dsimp only
   unfold Wj
   exact B
 ·exact B

def Akq (b : (List Int)) : D:=.sl (b.map NH)
def AbG : Dw.Spec:=NJ [] (.row 1 3) Qg Qf (λa=>Tn a.1 a.2) Akq noE
theorem Aec : NG Tryz.prog 34 AbG:=by
 refine fn2 2 (Od) Tryz.func34<|?_
 rintro ⟨to1,s2⟩
 unfold Tn
 refine A 17 ?_
 refine lP (E:=λ(s : (List Int) × Int) (g : Nat)=>[(0,.sl (to1.map NH)),(1,Nx s2),(5,.osl 5 g 0 s.1.length),(6,Nx s.2)]) (O:=λs g=>[(5,dW g 1 3 (s.1.map NH))]) (body:=λs=>WM to1 s2 s.1 s.2) (s:=(([] : List Int),0)) _ ((hE ⟨rfl,r,r,r,trivial⟩ ⟨rfl,trivial⟩))<|?_
 rintro ⟨out3,t4⟩ v5x1 nn
 try dsimp only
 unfold WM
 exact B

def XU (a : (List (List Int)) × (List Int) × Int × Int) : List D:=[.sl (a.1.map (eL NH)),.sl (a.2.1.map NH),Nx a.2.2.1,Nx a.2.2.2]
def XT (ds : List D) : (List (List Int)) × (List Int) × Int × Int:=((uL (uL uI)) (ds.getD 0 .top),(uL uI) (ds.getD 1 .top),uI (ds.getD 2 .top),uI (ds.getD 3 .top))
theorem Alx (a : (List (List Int)) × (List Int) × Int × Int) : XT (XU a) = a:=by simp [XT,XU,uI,OY (u:=(uL uI)) (en:=(eL NH)) (OY (u:=uI) (en:=NH) (λ_=>rfl)),OY (u:=uI) (en:=NH) (λ_=>rfl)]
instance : Ol XU XT:=⟨Alx⟩
def AmL (b : Bool) : D:=.bool b
def AgF : Dw.Spec:=NJ [] .ground XU XT (λa=>Aac a.1 a.2.1 a.2.2.1 a.2.2.2) AmL noE
theorem Aly : NG Tryz.prog 98 AgF:=by
 refine fn2 4 (NO (l:=[(34,AbG),(62,Vv)]) (by simp [Aec,Wf])) Tryz.func98<|?_
 rintro ⟨g1,to2,a3,b4⟩
 unfold Aac
 refine A 9 ?_
 refine bD λr5 hr5=>?_
 refine A 3 ?_
 refine bD λr6 hr6=>?_
 refine A 12 ?_
 refine lP (E:=λ(s : Int) (g : Nat × Nat)=>[(0,.sl (g1.map (eL NH))),(9,.osl 9 g.1 0 r5.length),(10,.osl 10 g.2 0 r6.length),(11,Nx s)]) (O:=λ_ g=>[(9,dW g.1 1 3 (r5.map NH)),(10,dW g.2 1 3 (r6.map NH))]) (body:=λs=>Zn r5 r6 g1 s) (s:=0) (_,_) ((hE ⟨rfl,r,r,r,trivial⟩ ⟨rfl,r,trivial⟩))<|?_
 rintro i7 ⟨v9x1,v10x1⟩ nn
 try dsimp only
 unfold Zn
 refine A 9 ?_
 refine cD r ?_ ?_
 ·refine A 2 ?_
  refine bC (E:=λ(_s : Unit) (g : Nat × Nat)=>[(0,.sl (g1.map (eL NH))),(9,.osl 9 g.1 0 r5.length),(10,.osl 10 g.2 0 r6.length),(11,Nx i7)]) (O:=λ_ g=>[(9,dW g.1 1 3 (r5.map NH)),(10,dW g.2 1 3 (r6.map NH))]) (j:=λ_=>Zp i7) ?_ ?_
  ·refine A 6 ?_
   refine lP (E:=λ(s : Int) (g : Nat × Nat)=>[(0,.sl (g1.map (eL NH))),(9,.osl 9 g.1 0 r5.length),(10,.osl 10 g.2 0 r6.length),(11,Nx i7),(12,Nx s)]) (O:=λ_ g=>[(9,dW g.1 1 3 (r5.map NH)),(10,dW g.2 1 3 (r6.map NH))]) (body:=λs=>Zo r6 i7 r5 g1 s) (s:=0) (_,_) ((hE ⟨rfl,r,r,r,r,trivial⟩ ⟨rfl,r,trivial⟩))<|?_
   rintro k8 ⟨v9x2,v10x2⟩ nn
   try dsimp only
   unfold Zo
   exact B
  ·rintro ⟨⟩ ⟨v9x3,v10x3⟩ nn
   try dsimp only
   unfold Zp
   exact B
 ·exact B

end
end Go.Proofs.YtpagjjmondojpaaGreatDoor
