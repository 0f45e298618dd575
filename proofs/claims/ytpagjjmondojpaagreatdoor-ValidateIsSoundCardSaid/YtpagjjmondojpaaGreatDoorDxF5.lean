/-
  Programs on typed data, and the proofs that the code does what they say; written by a program (dx.py).
-/
import Derived.Test.YtpagjjmondojpaaGreatDoorProg
import Derived.Test.YtpagjjmondojpaaGreatDoorDd
import Derived.KernelRfl
import Derived.Test.YtpagjjmondojpaaGreatDoorDxP
import Derived.Test.YtpagjjmondojpaaGreatDoorDxF1
import Derived.Test.YtpagjjmondojpaaGreatDoorDxF2
import Derived.Test.YtpagjjmondojpaaGreatDoorDxF3
import Derived.Test.YtpagjjmondojpaaGreatDoorDxF4
namespace Go.Proofs.YtpagjjmondojpaaGreatDoor
open Go Go.Dw Go.Proofs
open Go.IntKind (i64)
set_option maxRecDepth 100000
set_option maxHeartbeats 40000000
open Go.Dw renaming PI -> bD,OV -> cK,Acu -> bS,Acs -> aP,Ape -> mS,AaT -> cD,Agb -> xL,Wq -> hE,Acw -> lP,Xc -> sC,Wp -> bC,rf -> r
noncomputable section
def Aoj (b : NN) : D:=QT b
def AhQ : Dw.Spec:=NJ [] .val Tu Tt (λa=>Adw a.1 a.2.1 a.2.2) Aoj noE
theorem AmU : NG Tryz.prog 79 AhQ:=by
 refine fn2 3 (NO (l:=[(14,AbI)]) (by simp [Aed])) Tryz.func79<|?_
 intro a
 unfold Adw
 exact B

def Amk (b : Int) : D:=Nx b
def Agr : Dw.Spec:=NJ [] .ground Tj Ti (λa=>ZR a) Amk noE
theorem Alb : NG Tryz.prog 108 Agr:=by
 refine fn2 1 (NO (l:=[(100,Aan)]) (by simp [Acl])) Tryz.func108<|?_
 intro s1
 unfold ZR
 refine A 14 ?_
 refine bD λr2 hr2=>?_
 refine A 4 ?_
 refine cD r ?_ ?_
 ·exact B
 ·refine A 9 ?_
  refine lP (E:=λ(s : Int × Int) (_g : Unit)=>[(0,.sl (s1.map OM)),(3,Nx s.1),(4,Nx s.2)]) (O:=λ_ _=>[]) (body:=λs=>YN s1 s.1 s.2) (s:=(16,0)) () ((hE ⟨rfl,r,r,trivial⟩ trivial))<|?_
  rintro ⟨a3,i4⟩ ⟨⟩ nn
  try dsimp only
  unfold YN
  exact B

def Ve (a : NN) : List D:=[QT a]
def Vd (ds : List D) : NN:=Vy (ds.getD 0 .top)
theorem Alg (a : NN) : Vd (Ve a) = a:=by simp [Vd,Ve]
instance : Ol Ve Vd:=⟨Alg⟩
def Amv (b : Int) : D:=Nx b
def Agu : Dw.Spec:=NJ [] .ground Ve Vd (λa=>ZT a) Amv noE
theorem Alh : NG Tryz.prog 80 Agu:=by
 refine fn2 1 (NO (l:=[(108,Agr)]) (by simp [Alb])) Tryz.func80<|?_
 intro p1
 unfold ZT
 refine A 18 ?_
 refine lP (E:=λ(s : Int × Int) (g : Nat)=>[(1,.optr 1 g 0 0),(3,Nx s.1),(4,Nx s.2)]) (O:=λ_ g=>[(1,dV g 1 26 (.agg [.sl (p1.Funcs.map NP)]))]) (body:=λs=>YS p1 s.1 s.2) (s:=(16,0)) _ ((hE ⟨rfl,r,r,trivial⟩ ⟨rfl,trivial⟩))<|?_
 rintro ⟨a2,i3⟩ v1x1 nn
 try dsimp only
 unfold YS
 exact B

def Aay (a : (List NV) × (List Int)) : List D:=[.sl (a.1.map OM),.sl (a.2.map NH)]
def Aax (ds : List D) : (List NV) × (List Int):=((uL AaB) (ds.getD 0 .top),(uL uI) (ds.getD 1 .top))
theorem Aog (a : (List NV) × (List Int)) : Aax (Aay a) = a:=by simp [Aax,Aay,OY (u:=AaB) (en:=OM) Aib,OY (u:=uI) (en:=NH) (λ_=>rfl)]
instance : Ol Aay Aax:=⟨Aog⟩
def AoY (b : Int) : D:=Nx b
def Aje : Dw.Spec:=NJ [] .ground Aay Aax (λa=>AcX a.1 a.2) AoY noE
theorem Aoh : NG Tryz.prog 107 Aje:=by
 refine fn2 2 (Od) Tryz.func107<|?_
 rintro ⟨s1,off2⟩
 unfold AcX
 refine A 17 ?_
 refine lP (E:=λ(s : Int × Int) (_g : Unit)=>[(0,.sl (s1.map OM)),(1,.sl (off2.map NH)),(5,Nx s.1),(6,Nx s.2)]) (O:=λ_ _=>[]) (body:=λs=>AbK s1 off2 s.1 s.2) (s:=(0,0)) () ((hE ⟨rfl,r,r,r,trivial⟩ trivial))<|?_
 rintro ⟨n3,i4⟩ ⟨⟩ nn
 try dsimp only
 unfold AbK
 refine sC (E:=λ(_s : Unit) (_g : Unit)=>[(0,.sl (s1.map OM)),(1,.sl (off2.map NH)),(5,Nx n3),(6,Nx i4),(12,Nx i4),(13,.sl (off2.map NH)),(14,Nx (off2.length : Int)),(15,.bool (decide (i4 < (off2.length : Int))))]) (O:=λ_ _=>[]) (j:=λ_=>AbL off2 i4 s1 n3) ?_ ?_
 ·exact B
 ·rintro ⟨⟩ ⟨⟩ nn
  try dsimp only
  unfold AbL
  exact B

def WZ (a : NN × Int × Int × (List Int)) : List D:=[QT a.1,Nx a.2.1,Nx a.2.2.1,.sl (a.2.2.2.map NH)]
def WY (ds : List D) : NN × Int × Int × (List Int):=(Vy (ds.getD 0 .top),uI (ds.getD 1 .top),uI (ds.getD 2 .top),(uL uI) (ds.getD 3 .top))
theorem Aky (a : NN × Int × Int × (List Int)) : WY (WZ a) = a:=by simp [WY,WZ,uI,OY (u:=uI) (en:=NH) (λ_=>rfl)]
instance : Ol WZ WY:=⟨Aky⟩
def TU (b : Qm × Int) : D:=.tup [AaO b.1,Nx b.2]
def AfE : Dw.Spec:=NJ [] .val WZ WY (λa=>YB a.1 a.2.1 a.2.2.1 a.2.2.2) TU noE
theorem Akz : NG Tryz.prog 78 AfE:=by
 refine fn2 4 (NO (l:=[(105,Aam),(77,Aeg),(107,Aje),(106,AfW)]) (by simp [Ack,AgJ,Aoh,Aja])) Tryz.func78<|?_
 rintro ⟨p1,i2,align3,off4⟩
 unfold YB
 refine A 12 ?_
 refine bD λx_x5 hx_x5=>?_
 refine A 16 ?_
 refine cD r ?_ ?_
 ·refine A 9 ?_
  refine Rb (b:=((Qm.mk 0 0 ([])),13)) r ?_ r r ?_ (by first | rfl | (simp only [Nw]; rfl) | (simp only [NA]; rfl) | (simp only [Nw,NA]; rfl) | simp [TU,AaO]) (by decide)
  all_goals first|(simp;done)|(simp;omega)|rfl|(simp [OK,OP];done)
 ·refine A 9 ?_
  refine lP (E:=λ(s : Int) (g : Nat × Nat)=>[(1,Nx i2),(2,Nx align3),(3,.sl (off4.map NH)),(4,.optr 4 g.1 0 0),(8,.optr 8 g.2 0 0),(10,.sl (x_x5.Slots.map OM)),(11,Nx s)]) (O:=λ_ g=>[(4,dV g.1 1 26 (.agg [.sl (p1.Funcs.map NP)])),(8,dV g.2 3 95 (.agg [Nx 0,Nx 0,.nils]))]) (body:=λs=>Yb x_x5 off4 p1 i2 align3 s) (s:=0) (_,_) ((hE ⟨rfl,r,r,r,r,r,r,trivial⟩ ⟨rfl,r,trivial⟩))<|?_
  rintro k6 ⟨v4x1,v8x1⟩ nn
  try dsimp only
  unfold Yb
  refine A 9 ?_
  refine cD r ?_ ?_
  ·refine A 8 ?_
   refine bD λx_x7 hx_x7=>?_
   refine A 4 ?_
   refine bD λx_x8 hx_x8=>?_
   refine A 4 ?_
   refine bD λr9 hr9=>?_
   refine A 4 ?_
   refine cD r ?_ ?_
   ·refine A 13 ?_
    refine Rb (b:=((Qm.mk 0 0 ([])),13)) r ?_ r r ?_ (by first | rfl | (simp only [Nw]; rfl) | (simp only [NA]; rfl) | (simp only [Nw,NA]; rfl) | simp [TU,AaO]) (by decide)
    all_goals first|(simp;done)|(simp;omega)|rfl|(simp [OK,OP];done)
   ·exact B
  ·refine A 9 ?_
   refine bD λr10 hr10=>?_
   refine A 9 ?_
   refine bD λr11 hr11=>?_
   refine A 3 ?_
   refine bD λr12 hr12=>?_
   refine A 14 ?_
   refine AbY r ?_ ?_
   ·refine A 15 ?_
    refine Rb (b:=((Qm.mk 0 0 ([])),9)) r ?_ r r ?_ (by first | rfl | (simp only [Nw]; rfl) | (simp only [NA]; rfl) | (simp only [Nw,NA]; rfl) | simp [TU,AaO]) (by decide)
    all_goals first|(simp;done)|(simp;omega)|rfl|(simp [OK,OP];done)
   ·refine A 5 ?_
    refine cD r ?_ ?_
    ·refine A 9 ?_
     refine Rb (b:=((Qm.mk 0 0 ([])),9)) r ?_ r r ?_ (by first | rfl | (simp only [Nw]; rfl) | (simp only [NA]; rfl) | (simp only [Nw,NA]; rfl) | simp [TU,AaO]) (by decide)
     all_goals first|(simp;done)|(simp;omega)|rfl|(simp [OK,OP];done)
    ·refine A 7 ?_
     refine cK λhq=>aP (([] : List Int)) (off4) NH r r r r r r r (by simp) r r r (by simp) r (λ_=>r) r hq<|?_
     refine A 6 ?_
     refine Rb (b:=((Qm.mk r10 r12.1 (([] : List Int) ++ off4)),0)) r ?_ r r ?_ (by first | rfl | (simp only [Nw]; rfl) | (simp only [NA]; rfl) | (simp only [Nw,NA]; rfl) | simp [TU,AaO]) (by decide)
     all_goals first|(simp;done)|(simp;omega)|rfl|(simp [OK,OP];done)

def AbM (b : SP) : D:=AcH b
def AeK : Dw.Spec:=NJ [] .val TT TS (λa=>Xp a.1 a.2) AbM noE
theorem AjO : NG Tryz.prog 45 AeK:=by
 refine fn2 2 (NO (l:=[(9,Aaq),(72,AgC),(73,AeG),(74,AhM),(13,Adh),(75,Afy),(77,Aeg),(76,AfC),(79,AhQ),(80,Agu),(78,AfE)]) (by simp [Acp,Alr,AjI,AmN,AfA,Ako,AgJ,Akv,AmU,Alh,Akz])) Tryz.func45<|?_
 rintro ⟨p1,i2⟩
 unfold Xp
 refine A 11 ?_
 refine bD λx_x3 hx_x3=>?_
 refine A 9 ?_
 refine bD λr4 hr4=>?_
 refine A 11 ?_
 refine bD λr5 hr5=>?_
 refine A 12 ?_
 refine bD λr6 hr6=>?_
 refine A 14 ?_
 refine bD λr7 hr7=>?_
 refine A 11 ?_
 refine bD λr8 hr8=>?_
 refine A 12 ?_
 refine bD λr9 hr9=>?_
 refine A 10 ?_
 refine bD λr10 hr10=>?_
 refine A 15 ?_
 refine bD λr11 hr11=>?_
 refine A 1 ?_
 refine bD λr12 hr12=>?_
 refine A 15 ?_
 refine cD r ?_ ?_
 ·refine A 8 ?_
  refine Uz (b:=(SP.mk r4 (NM.mk r6 r7) r9 (Qm.mk 0 0 ([])))) r ?_ r r ?_ (by first | rfl | (simp only [Nw]; rfl) | (simp only [NA]; rfl) | (simp only [Nw,NA]; rfl) | simp [AbM,AcH])
  all_goals first|(simp;done)|(simp;omega)|rfl|(simp [OK,OP];done)
 ·refine A 7 ?_
  refine bD λr13 hr13=>?_
  refine A 3 ?_
  refine bD λr14 hr14=>?_
  refine A 2 ?_
  refine bD λr15 hr15=>?_
  refine A 15 ?_
  refine Uz (b:=(SP.mk r4 (NM.mk r6 r7) r9 r15.1)) r ?_ r r ?_ (by first | rfl | (simp only [Nw]; rfl) | (simp only [NA]; rfl) | (simp only [Nw,NA]; rfl) | simp [AbM,AcH])
  all_goals first|(simp;done)|(simp;omega)|rfl|(simp [OK,OP];done)

def Te (a : Mk × NN × Int) : List D:=[Oy a.1,QT a.2.1,Nx a.2.2]
def Td (ds : List D) : Mk × NN × Int:=(RH (ds.getD 0 .top),Vy (ds.getD 1 .top),uI (ds.getD 2 .top))
theorem AfQ (a : Mk × NN × Int) : Td (Te a) = a:=by simp [Td,Te,uI]
instance : Ol Te Td:=⟨AfQ⟩
def AbV (b : NM × Mk) : D:=TL b.1
def AgO (b : NM × Mk) : List D:=[Oy b.2]
def AbW : Dw.Spec:=NJ [(0,(2,91))] .val Te Td (λa=>Tp a.1 a.2.1 a.2.2) AbV AgO
theorem AfR : NG Tryz.prog 24 AbW:=by
 refine fn2 3 (NO (l:=[(45,AeK),(21,OS),(46,ZH),(44,AaE)]) (by simp [AjO,OT,AcG,Adi])) Tryz.func24<|?_
 rintro ⟨c1,p2,i3⟩
 unfold Tp
 refine A 11 ?_
 refine bD λx_x4 hx_x4=>?_
 refine A 10 ?_
 refine bD λr5 hr5=>?_
 refine A 10 ?_
 refine cK λhq=>aP (([] : List Int)) (r5.Rename.To) NH r r r r r r r (by simp) r r r (by simp) r (λ_=>r) r hq<|?_
 refine A 2 ?_
 refine cK λhq=>aP (([] : List Bool)) (r5.Rename.Keep) D.bool r r r r r r r (by simp) r r r (by simp) r (λ_=>r) r hq<|?_
 refine A 5 ?_
 refine sC (E:=λ(_s : (List Int) × Int × (List Int) × (List Bool)) (g : Nat × Nat × Nat × Nat × Nat)=>[(0,.optr 8192 0 0 0),(6,.optr 6 g.1 0 0),(7,.optr 7 g.2.1 0 0),(9,.optr 9 g.2.2.1 0 0)]) (O:=λs g=>[(6,dV g.1 2 33 (.agg [.nils,.nils])),(7,dV g.2.1 3 40 (NP x_x4)),(9,dV g.2.2.1 2 33 (.agg [.osl 29 g.2.2.2.1 0 s.2.2.1.length,.osl 32 g.2.2.2.2 0 s.2.2.2.length])),(29,dW g.2.2.2.1 1 3 (s.2.2.1.map NH)),(32,dW g.2.2.2.2 1 4 (s.2.2.2.map D.bool)),(8192,dV 0 2 91 (.agg [.sl (s.1.map eU8),Nx s.2.1]))]) (j:=λs=>QH x_x4 s.1 s.2.1 s.2.2.1 s.2.2.2) ?_ ?_
 ·refine A 3 ?_
  refine bD λr10 hr10=>?_
  refine A 4 ?_
  refine cD r ?_ ?_
  ·refine A 7 ?_
   refine lP (E:=λ(s : (List Int) × Int) (g : Nat × Nat × Nat × Nat × Nat)=>[(0,.optr 8192 0 0 0),(6,.optr 6 g.1 0 0),(7,.optr 7 g.2.1 0 0),(9,.optr 9 g.2.2.1 0 0),(10,Nx s.2)]) (O:=λs g=>[(6,dV g.1 2 33 (.agg [.nils,.nils])),(7,dV g.2.1 3 40 (NP x_x4)),(9,dV g.2.2.1 2 33 (.agg [.osl 29 g.2.2.2.1 0 s.1.length,.osl 32 g.2.2.2.2 0 ((([] : List Bool) ++ r5.Rename.Keep).length)])),(29,dW g.2.2.2.1 1 3 (s.1.map NH)),(32,dW g.2.2.2.2 1 4 ((([] : List Bool) ++ r5.Rename.Keep).map D.bool)),(8192,dV 0 2 91 (.agg [.sl (r10.2.list.map eU8),Nx r10.2.at_]))]) (body:=λs=>Tx x_x4 r10 r5 s.1 s.2) (s:=(([] : List Int) ++ r5.Rename.To,0)) (_,_,_,_,_) ((hE ⟨rfl,r,r,r,r,trivial⟩ ⟨rfl,r,r,r,r,r,trivial⟩))<|?_
   rintro ⟨x11,s12⟩ ⟨v6x1,v7x1,v9x1,v29x1,v32x1⟩ nn
   try dsimp only
   unfold Tx
   refine A 10 ?_
   refine cD r ?_ ?_
   ·refine A 10 ?_
    refine bD λx_o13 hx_o13=>?_
    refine A 9 ?_
    exact xL (s:=(x11.set s12.toNat s12,i64.wrap (s12 + 1))) (_,_,_,_,_) ((hE ⟨rfl,r,r,r,r,trivial⟩ ⟨rfl,r,(Eq.trans (b:=dV _ 2 33 (.agg [.osl 29 _ 0 x11.length,.osl 32 _ 0 ((([] : List Bool) ++ r5.Rename.Keep).length)])) r (by simp)),r,r,r,trivial⟩))
   ·refine A 11 ?_
    refine lP (E:=λ(s : (List Bool) × Int) (g : Nat × Nat × Nat × Nat × Nat)=>[(0,.optr 8192 0 0 0),(6,.optr 6 g.1 0 0),(7,.optr 7 g.2.1 0 0),(9,.optr 9 g.2.2.1 0 0),(11,Nx s.2)]) (O:=λs g=>[(6,dV g.1 2 33 (.agg [.nils,.nils])),(7,dV g.2.1 3 40 (NP x_x4)),(9,dV g.2.2.1 2 33 (.agg [.osl 29 g.2.2.2.1 0 x11.length,.osl 32 g.2.2.2.2 0 s.1.length])),(29,dW g.2.2.2.1 1 3 (x11.map NH)),(32,dW g.2.2.2.2 1 4 (s.1.map D.bool)),(8192,dV 0 2 91 (.agg [.sl (r10.2.list.map eU8),Nx r10.2.at_]))]) (body:=λs=>Ty x_x4 r10 x11 s.1 s.2) (s:=(([] : List Bool) ++ r5.Rename.Keep,0)) (_,_,_,_,_) ((hE ⟨rfl,r,r,r,r,trivial⟩ ⟨rfl,r,r,r,r,r,trivial⟩))<|?_
    rintro ⟨x14,k15⟩ ⟨v6x2,v7x2,v9x2,v29x2,v32x2⟩ nn
    try dsimp only
    unfold Ty
    refine A 10 ?_
    refine cD r ?_ ?_
    ·refine A 9 ?_
     refine bD λx_o16 hx_o16=>?_
     refine A 9 ?_
     exact xL (s:=(x14.set k15.toNat true,i64.wrap (k15 + 1))) (_,_,_,_,_) ((hE ⟨rfl,r,r,r,r,trivial⟩ ⟨rfl,r,(Eq.trans (b:=dV _ 2 33 (.agg [.osl 29 _ 0 x11.length,.osl 32 _ 0 x14.length])) r (by simp)),r,r,r,trivial⟩))
    ·exact B
  ·exact B
 ·rintro ⟨c6,c7,x8,x9⟩ ⟨v6x3,v7x3,v9x3,v29x3,v32x3⟩ nn
  try dsimp only
  unfold QH
  refine A 4 ?_
  refine bD λr17 hr17=>?_
  refine A 5 ?_
  refine lP (E:=λ(s : (List Int) × Int × (List Int) × (List Bool) × Int) (g : Nat × Nat × Nat × Nat × Nat)=>[(0,.optr 8192 0 0 0),(6,.optr 6 g.1 0 0),(7,.optr 7 g.2.1 0 0),(9,.optr 9 g.2.2.1 0 0),(12,Nx s.2.2.2.2)]) (O:=λs g=>[(6,dV g.1 2 33 (.agg [.nils,.nils])),(7,dV g.2.1 3 40 (NP x_x4)),(9,dV g.2.2.1 2 33 (.agg [.osl 29 g.2.2.2.1 0 s.2.2.1.length,.osl 32 g.2.2.2.2 0 s.2.2.2.1.length])),(29,dW g.2.2.2.1 1 3 (s.2.2.1.map NH)),(32,dW g.2.2.2.2 1 4 (s.2.2.2.1.map D.bool)),(8192,dV 0 2 91 (.agg [.sl (s.1.map eU8),Nx s.2.1]))]) (body:=λs=>Tz x_x4 s.1 s.2.1 s.2.2.1 s.2.2.2.1 s.2.2.2.2) (s:=(r17.2.list,r17.2.at_,x8,x9,r17.1)) (_,_,_,_,_) ((hE ⟨rfl,r,r,r,r,trivial⟩ ⟨rfl,r,r,r,r,r,trivial⟩))<|?_
  rintro ⟨c18,c19,x20,x21,n22⟩ ⟨v6x4,v7x4,v9x4,v29x4,v32x4⟩ nn
  try dsimp only
  unfold Tz
  refine A 7 ?_
  refine cD r ?_ ?_
  ·refine A 2 ?_
   refine bC (E:=λ(_s : (List Int) × Int × (List Int) × (List Bool)) (g : Nat × Nat × Nat × Nat × Nat)=>[(0,.optr 8192 0 0 0),(6,.optr 6 g.1 0 0),(7,.optr 7 g.2.1 0 0),(9,.optr 9 g.2.2.1 0 0),(12,Nx n22)]) (O:=λs g=>[(6,dV g.1 2 33 (.agg [.nils,.nils])),(7,dV g.2.1 3 40 (NP x_x4)),(9,dV g.2.2.1 2 33 (.agg [.osl 29 g.2.2.2.1 0 s.2.2.1.length,.osl 32 g.2.2.2.2 0 s.2.2.2.length])),(29,dW g.2.2.2.1 1 3 (s.2.2.1.map NH)),(32,dW g.2.2.2.2 1 4 (s.2.2.2.map D.bool)),(8192,dV 0 2 91 (.agg [.sl (s.1.map eU8),Nx s.2.1]))]) (j:=λs=>Pb n22 s.1 s.2.1 s.2.2.1 s.2.2.2) ?_ ?_
   ·refine A 6 ?_
    refine bD λr27 hr27=>?_
    refine A 7 ?_
    refine bD λr28 hr28=>?_
    refine A 4 ?_
    refine sC (E:=λ(s : Bool) (g : Nat × Nat × Nat × Nat × Nat)=>[(0,.optr 8192 0 0 0),(6,.optr 6 g.1 0 0),(7,.optr 7 g.2.1 0 0),(9,.optr 9 g.2.2.1 0 0),(12,Nx n22),(13,Nx r27.1),(72,Nx r28.1),(73,.bool s)]) (O:=λ_ g=>[(6,dV g.1 2 33 (.agg [.nils,.nils])),(7,dV g.2.1 3 40 (NP x_x4)),(9,dV g.2.2.1 2 33 (.agg [.osl 29 g.2.2.2.1 0 x20.length,.osl 32 g.2.2.2.2 0 x21.length])),(29,dW g.2.2.2.1 1 3 (x20.map NH)),(32,dW g.2.2.2.2 1 4 (x21.map D.bool)),(8192,dV 0 2 91 (.agg [.sl (r28.2.list.map eU8),Nx r28.2.at_]))]) (j:=λs=>QI x_x4 r27 x21 n22 x20 r28 s) ?_ ?_
    ·exact B
    ·rintro x29 ⟨v6x5,v7x5,v9x5,v29x5,v32x5⟩ nn
     try dsimp only
     unfold QI
     refine cD r ?_ ?_
     ·refine A 5 ?_
      refine bD λx_x30 hx_x30=>?_
      refine A 6 ?_
      refine sC (E:=λ(s : (List Int) × Int × Bool) (g : Nat × Nat × Nat × Nat × Nat)=>[(0,.optr 8192 0 0 0),(6,.optr 6 g.1 0 0),(7,.optr 7 g.2.1 0 0),(9,.optr 9 g.2.2.1 0 0),(12,Nx n22),(13,Nx r27.1),(92,.bool s.2.2)]) (O:=λs g=>[(6,dV g.1 2 33 (.agg [.nils,.nils])),(7,dV g.2.1 3 40 (NP x_x4)),(9,dV g.2.2.1 2 33 (.agg [.osl 29 g.2.2.2.1 0 x20.length,.osl 32 g.2.2.2.2 0 x21.length])),(29,dW g.2.2.2.1 1 3 (x20.map NH)),(32,dW g.2.2.2.2 1 4 (x21.map D.bool)),(8192,dV 0 2 91 (.agg [.sl (s.1.map eU8),Nx s.2.1]))]) (j:=λs=>PV r27 x21 n22 x20 s.1 s.2.1 s.2.2) ?_ ?_
      ·exact B
      ·rintro ⟨c31,c32,x33⟩ ⟨v6x6,v7x6,v9x6,v29x6,v32x6⟩ nn
       try dsimp only
       unfold PV
       refine cD r ?_ ?_
       ·refine A 8 ?_
        refine bD λx_e35 hx_e35=>?_
        refine A 3 ?_
        refine bD λx_o36 hx_o36=>?_
        refine A 3 ?_
        exact Vp (s:=(c31,c32,x20,x21.set r27.1.toNat (!x_e35))) (_,_,_,_,_) ((hE ⟨rfl,r,r,r,r,trivial⟩ ⟨rfl,r,(Eq.trans (b:=dV _ 2 33 (.agg [.osl 29 _ 0 x20.length,.osl 32 _ 0 x21.length])) r (by simp)),r,r,r,trivial⟩))
       ·exact B
     ·refine A 6 ?_
      refine cD r ?_ ?_
      ·refine A 8 ?_
       refine cD r ?_ ?_
       ·refine A 6 ?_
        refine bD λr37 hr37=>?_
        refine A 11 ?_
        refine bD λr38 hr38=>?_
        refine A 2 ?_
        refine bD λx_e39 hx_e39=>?_
        refine A 10 ?_
        refine lP (E:=λ(s : (List Int) × Int) (g : Nat × Nat × Nat × Nat × Nat)=>[(0,.optr 8192 0 0 0),(6,.optr 6 g.1 0 0),(7,.optr 7 g.2.1 0 0),(9,.optr 9 g.2.2.1 0 0),(12,Nx n22),(15,Nx r37.1),(16,Nx x_e39),(17,Nx s.2)]) (O:=λs g=>[(6,dV g.1 2 33 (.agg [.nils,.nils])),(7,dV g.2.1 3 40 (NP x_x4)),(9,dV g.2.2.1 2 33 (.agg [.osl 29 g.2.2.2.1 0 s.1.length,.osl 32 g.2.2.2.2 0 x21.length])),(29,dW g.2.2.2.1 1 3 (s.1.map NH)),(32,dW g.2.2.2.2 1 4 (x21.map D.bool)),(8192,dV 0 2 91 (.agg [.sl (r38.2.list.map eU8),Nx r38.2.at_]))]) (body:=λs=>TA r37 x_e39 n22 r38 x21 s.1 s.2) (s:=(x20,0)) (_,_,_,_,_) ((hE ⟨rfl,r,r,r,r,r,r,r,trivial⟩ ⟨rfl,r,r,r,r,r,trivial⟩))<|?_
        rintro ⟨x40,u41⟩ ⟨v6x7,v7x7,v9x7,v29x7,v32x7⟩ nn
        try dsimp only
        unfold TA
        refine A 10 ?_
        refine cD r ?_ ?_
        ·refine A 10 ?_
         refine bD λx_e42 hx_e42=>?_
         refine A 5 ?_
         refine cD r ?_ ?_
         ·refine A 6 ?_
          refine bD λx_o43 hx_o43=>?_
          refine A 9 ?_
          exact xL (s:=(x40.set u41.toNat x_e39,i64.wrap (u41 + 1))) (_,_,_,_,_) ((hE ⟨rfl,r,r,r,r,r,r,r,trivial⟩ ⟨rfl,r,(Eq.trans (b:=dV _ 2 33 (.agg [.osl 29 _ 0 x40.length,.osl 32 _ 0 x21.length])) r (by simp)),r,r,r,trivial⟩))
         ·exact B
        ·exact B
       ·exact B
      ·refine A 6 ?_
       refine cD r ?_ ?_
       ·refine sC (E:=λ(s : (List Int) × Int × Bool) (g : Nat × Nat × Nat × Nat × Nat)=>[(0,.optr 8192 0 0 0),(6,.optr 6 g.1 0 0),(7,.optr 7 g.2.1 0 0),(9,.optr 9 g.2.2.1 0 0),(12,Nx n22),(151,.bool s.2.2)]) (O:=λs g=>[(6,dV g.1 2 33 (.agg [.nils,.nils])),(7,dV g.2.1 3 40 (NP x_x4)),(9,dV g.2.2.1 2 33 (.agg [.osl 29 g.2.2.2.1 0 x20.length,.osl 32 g.2.2.2.2 0 x21.length])),(29,dW g.2.2.2.1 1 3 (x20.map NH)),(32,dW g.2.2.2.2 1 4 (x21.map D.bool)),(8192,dV 0 2 91 (.agg [.sl (s.1.map eU8),Nx s.2.1]))]) (j:=λs=>QK x_x4 x20 n22 x21 s.1 s.2.1 s.2.2) ?_ ?_
        ·exact B
        ·rintro ⟨c44,c45,x46⟩ ⟨v6x8,v7x8,v9x8,v29x8,v32x8⟩ nn
         try dsimp only
         unfold QK
         refine cD r ?_ ?_
         ·refine A 7 ?_
          refine bD λr48 hr48=>?_
          refine A 2 ?_
          refine bD λr49 hr49=>?_
          refine A 2 ?_
          refine bD λx_o50 hx_o50=>?_
          refine A 3 ?_
          exact Vp (s:=(r49.2.list,r49.2.at_,x20.set r48.1.toNat r49.1,x21)) (_,_,_,_,_) ((hE ⟨rfl,r,r,r,r,trivial⟩ ⟨rfl,r,(Eq.trans (b:=dV _ 2 33 (.agg [.osl 29 _ 0 x20.length,.osl 32 _ 0 x21.length])) r (by simp)),r,r,r,trivial⟩))
         ·exact B
       ·exact B
   ·rintro ⟨c23,c24,x25,x26⟩ ⟨v6x9,v7x9,v9x9,v29x9,v32x9⟩ nn
    try dsimp only
    unfold Pb
    exact B
  ·refine A 12 ?_
   refine Uz (b:=((NM.mk x20 x21),(Mk.mk c18 c19))) r ?_ r r ?_ (by first | rfl | (simp only [Nw]; rfl) | (simp only [NA]; rfl) | (simp only [Nw,NA]; rfl) | simp [AbV,TL])
   all_goals first|(simp;done)|(simp;omega)|rfl|(simp [OK,OP];done)

def US (a : (List Int)) : List D:=[.sl (a.map eU8)]
def UR (ds : List D) : (List Int):=(uL uI) (ds.getD 0 .top)
theorem Afn (a : (List Int)) : UR (US a) = a:=by simp [UR,US,OY (u:=uI) (en:=eU8) (λ_=>rfl)]
instance : Ol US UR:=⟨Afn⟩
def Ama (b : NN × Int × NQ × NM × Mk) : D:=.tup [QT b.1,Nx b.2.1,PO b.2.2.1,TL b.2.2.2.1,Oy b.2.2.2.2]
def Agl : Dw.Spec:=NJ [] (.tupPtr 4 2 91) US UR (λa=>ZO a) Ama noE
theorem AkQ : NG Tryz.prog 7 Agl:=by
 refine fn2 1 (NO (l:=[(19,Akg),(20,Abf),(21,OS),(22,AcE),(23,Adk),(24,AbW)]) (by simp [AoF,Afk,OT,AgN,Ahe,AfR])) Tryz.func7<|?_
 intro codes1
 unfold ZO
 refine A 12 ?_
 refine bD λr2 hr2=>?_
 refine A 7 ?_
 refine bD λr3 hr3=>?_
 refine A 11 ?_
 refine bD λr4 hr4=>?_
 refine A 10 ?_
 refine bD λx_x5 hx_x5=>?_
 refine A 2 ?_
 refine bD λr6 hr6=>?_
 refine A 5 ?_
 refine sC (E:=λ(_s : (List (List Int)) × (List Int) × Int) (g : Nat × Nat × Nat × Nat × Nat × Nat)=>[(2,.optr 2 g.1 0 0),(4,.optr 4 g.2.1 0 0),(5,.optr 5 g.2.2.1 0 0),(7,.optr 12 g.2.2.2.2.2 0 0),(8,.optr 8 g.2.2.2.1 0 0),(9,Nx r4.1),(10,.optr 10 g.2.2.2.2.1 0 0)]) (O:=λs g=>[(2,dV g.1 1 26 (.agg [.nils])),(4,dV g.2.1 1 29 (.agg [.nils])),(5,dV g.2.2.1 2 33 (.agg [.nils,.nils])),(8,dV g.2.2.2.1 1 26 (.agg [.sl (r3.1.Funcs.map NP)])),(10,dV g.2.2.2.2.1 1 29 (.agg [.sl (s.1.map (eL NH))])),(12,dV g.2.2.2.2.2 2 91 (.agg [.sl (s.2.1.map eU8),Nx s.2.2]))]) (j:=λs=>TM r3 r4 s.1 s.2.1 s.2.2) ?_ ?_
 ·exact B
 ·rintro ⟨l7,x8,x9⟩ ⟨v2x1,v4x1,v5x1,v8x1,v10x1,v12x1⟩ nn
  try dsimp only
  unfold TM
  exact B

def Vq (a : Nz × NQ × NM × Int) : List D:=[NP a.1,PO a.2.1,TL a.2.2.1,Nx a.2.2.2]
def Vo (ds : List D) : Nz × NQ × NM × Int:=(QZ (ds.getD 0 .top),VQ (ds.getD 1 .top),AaW (ds.getD 2 .top),uI (ds.getD 3 .top))
theorem AiL (a : Nz × NQ × NM × Int) : Vo (Vq a) = a:=by simp [Vo,Vq,uI]
instance : Ol Vq Vo:=⟨AiL⟩
def AjN (b : Int × Bool) : D:=.tup [Nx b.1,.bool b.2]
def Aef : Dw.Spec:=NJ [] .ground Vq Vo (λa=>Wt a.1 a.2.1 a.2.2.1 a.2.2.2) AjN noE
theorem AiM : NG Tryz.prog 32 Aef:=by
 refine fn2 4 (NO (l:=[(61,Tk),(62,Vv)]) (by simp [Ub,Wf])) Tryz.func32<|?_
 rintro ⟨f1,l2,r3,k4⟩
 unfold Wt
 refine A 14 ?_
 refine bD λx_x5 hx_x5=>?_
 refine A 9 ?_
 refine bD λr6 hr6=>?_
 refine A 8 ?_
 refine sC (E:=λ(_s : Unit) (g : Nat × Nat)=>[(3,Nx k4),(5,.optr 5 g.1 0 0),(6,.optr 6 g.2 0 0),(11,Nx r6.1)]) (O:=λ_ g=>[(5,dV g.1 1 29 (.agg [.sl (l2.Out.map (eL NH))])),(6,dV g.2 2 33 (.agg [.sl (r3.To.map NH),.sl (r3.Keep.map D.bool)]))]) (j:=λ_=>RU r3 k4 l2 r6) ?_ ?_
 ·exact B
 ·rintro ⟨⟩ ⟨v5x1,v6x1⟩ nn
  try dsimp only
  unfold RU
  refine A 6 ?_
  refine bD λx_x9 hx_x9=>?_
  refine A 5 ?_
  refine cD r ?_ ?_
  ·exact B
  ·refine A 9 ?_
   refine lP (E:=λ(s : Int) (g : Nat × Nat)=>[(3,Nx k4),(5,.optr 5 g.1 0 0),(6,.optr 6 g.2 0 0),(11,Nx r6.1),(13,Nx s)]) (O:=λ_ g=>[(5,dV g.1 1 29 (.agg [.sl (l2.Out.map (eL NH))])),(6,dV g.2 2 33 (.agg [.sl (r3.To.map NH),.sl (r3.Keep.map D.bool)]))]) (body:=λs=>VP l2 k4 r6 r3 s) (s:=0) (_,_) ((hE ⟨rfl,r,r,r,r,trivial⟩ ⟨rfl,r,trivial⟩))<|?_
   rintro i12 ⟨v5x2,v6x2⟩ nn
   try dsimp only
   unfold VP
   exact B

def AjM (b : Int × Int × Bool) : D:=.tup [Nx b.1,Nx b.2.1,.bool b.2.2]
def Aee : Dw.Spec:=NJ [] .ground PN PL (λa=>Ws a.1 a.2.1 a.2.2) AjM noE
theorem AiK : NG Tryz.prog 11 Aee:=by
 refine fn2 3 (NO (l:=[(30,Aas),(31,Aau),(32,Aef)]) (by simp [Acr,Acx,AiM])) Tryz.func11<|?_
 rintro ⟨f1,l2,r3⟩
 unfold Ws
 refine A 10 ?_
 refine sC (E:=λ(_s : Unit) (g : Nat × Nat × Nat)=>[(3,.optr 3 g.1 0 0),(4,.optr 4 g.2.1 0 0),(5,.optr 5 g.2.2 0 0)]) (O:=λ_ g=>[(3,dV g.1 3 40 (NP f1)),(4,dV g.2.1 1 29 (.agg [.sl (l2.Out.map (eL NH))])),(5,dV g.2.2 2 33 (.agg [.sl (r3.To.map NH),.sl (r3.Keep.map D.bool)]))]) (j:=λ_=>VO f1 l2 r3) ?_ ?_
 ·exact B
 ·rintro ⟨⟩ ⟨v3x1,v4x1,v5x1⟩ nn
  try dsimp only
  unfold VO
  refine A 7 ?_
  refine lP (E:=λ(s : Int) (g : Nat × Nat × Nat)=>[(3,.optr 3 g.1 0 0),(4,.optr 4 g.2.1 0 0),(5,.optr 5 g.2.2 0 0),(9,Nx s)]) (O:=λ_ g=>[(3,dV g.1 3 40 (NP f1)),(4,dV g.2.1 1 29 (.agg [.sl (l2.Out.map (eL NH))])),(5,dV g.2.2 2 33 (.agg [.sl (r3.To.map NH),.sl (r3.Keep.map D.bool)]))]) (body:=λs=>VN f1 l2 r3 s) (s:=0) (_,_,_) ((hE ⟨rfl,r,r,r,trivial⟩ ⟨rfl,r,r,trivial⟩))<|?_
  rintro k6 ⟨v3x2,v4x2,v5x2⟩ nn
  try dsimp only
  unfold VN
  exact B

def AmR (b : Int) : D:=Nx b
def AgH : Dw.Spec:=NJ [] .ground PN PL (λa=>Aad a.1 a.2.1 a.2.2) AmR noE
theorem AlA : NG Tryz.prog 12 AgH:=by
 refine fn2 3 (NO (l:=[(30,Aas),(11,Aee),(31,Aau)]) (by simp [Acr,AiK,Acx])) Tryz.func12<|?_
 intro a
 unfold Aad
 exact B

def Ahb (b : (List Int) × Mk) : D:=.sl (b.1.map Pt)
def Aha (b : (List Int) × Mk) : List D:=[Oy b.2]
def AcD : Dw.Spec:=NJ [(0,(2,91))] (.row 1 55) PK PJ (λa=>TX a) Ahb Aha
theorem AgL : NG Tryz.prog 15 AcD:=by
 refine fn2 1 (NO (l:=[(21,OS),(38,VC)]) (by simp [OT,Yl])) Tryz.func15<|?_
 intro c1
 unfold TX
 refine A 14 ?_
 refine bD λr2 hr2=>?_
 refine A 5 ?_
 refine lP (E:=λ(s : (List Int) × Int × (List Int) × Int) (g : Nat)=>[(0,.optr 8192 0 0 0),(3,.osl 3 g 0 s.2.2.1.length),(4,Nx s.2.2.2)]) (O:=λs g=>[(3,dW g 1 55 (s.2.2.1.map Pt)),(8192,dV 0 2 91 (.agg [.sl (s.1.map eU8),Nx s.2.1]))]) (body:=λs=>Uc s.1 s.2.1 s.2.2.1 s.2.2.2) (s:=(r2.2.list,r2.2.at_,([] : List Int),r2.1)) _ ((hE ⟨rfl,r,r,trivial⟩ ⟨rfl,r,trivial⟩))<|?_
 rintro ⟨c3,c4,l5,n6⟩ v3x1 nn
 try dsimp only
 unfold Uc
 exact B

def Alj (b : Bool) : D:=.bool b
def YU : Dw.Spec:=NJ [] .ground Yw Yv (λa=>Pc a.1 a.2) Alj noE
theorem Abw : NG Tryz.prog 120 YU:=by
 refine fn2 2 (Od) Tryz.func120<|?_
 intro a
 unfold Pc
 exact B

def AjA (b : Bool × Bool × Bool × Bool) : D:=.tup [.bool b.1,.bool b.2.1,.bool b.2.2.1,.bool b.2.2.2]
def AdW : Dw.Spec:=NJ [] .ground OH OG (λa=>OW a) AjA noE
theorem AiE : NG Tryz.prog 140 AdW:=by
 refine fn2 1 (Od) Tryz.func140<|?_
 intro op1
 unfold OW
 refine A 21 ?_
 refine cD r ?_ ?_
 ·exact B
 ·refine sC (E:=λ(s : Bool) (_g : Unit)=>[(6,Nx op1),(9,.bool s)]) (O:=λ_ _=>[]) (j:=λs=>Oi op1 s) ?_ ?_
  ·exact B
  ·rintro x2 ⟨⟩ nn
   try dsimp only
   unfold Oi
   refine cD r ?_ ?_
   ·exact B
   ·refine sC (E:=λ(s : Bool) (_g : Unit)=>[(6,Nx op1),(18,.bool s)]) (O:=λ_ _=>[]) (j:=λs=>Ot op1 s) ?_ ?_
    ·exact B
    ·rintro x3 ⟨⟩ nn
     try dsimp only
     unfold Ot
     refine cD r ?_ ?_
     ·exact B
     ·refine sC (E:=λ(s : Bool) (_g : Unit)=>[(6,Nx op1),(29,.bool s)]) (O:=λ_ _=>[]) (j:=λs=>Po op1 s) ?_ ?_
      ·exact B
      ·rintro x4 ⟨⟩ nn
       try dsimp only
       unfold Po
       exact B

def AjC (b : Bool) : D:=.bool b
def AdY : Dw.Spec:=NJ [] .ground OH OG (λa=>Pf a) AjC noE
theorem AiH : NG Tryz.prog 153 AdY:=by
 refine fn2 1 (Od) Tryz.func153<|?_
 intro a
 unfold Pf
 exact B

def Vj (a : NN × Nz × NC) : List D:=[QT a.1,NP a.2.1,Oo a.2.2]
def Vi (ds : List D) : NN × Nz × NC:=(Vy (ds.getD 0 .top),QZ (ds.getD 1 .top),AbQ (ds.getD 2 .top))
theorem AiF (a : NN × Nz × NC) : Vi (Vj a) = a:=by simp [Vi,Vj]
instance : Ol Vj Vi:=⟨AiF⟩
def AjB (b : Bool) : D:=.bool b
def AdX : Dw.Spec:=NJ [] .ground Vj Vi (λa=>OX a.1 a.2.1 a.2.2) AjB noE
theorem AiG : NG Tryz.prog 141 AdX:=by
 refine fn2 3 (NO (l:=[(153,AdY),(120,YU)]) (by simp [AiH,Abw])) Tryz.func141<|?_
 rintro ⟨p1,f2,x3⟩
 unfold OX
 refine A 16 ?_
 refine sC (E:=λ(s : Bool) (g : Nat × Nat × Nat)=>[(3,.optr 3 g.1 0 0),(4,.optr 4 g.2.1 0 0),(5,.optr 5 g.2.2 0 0),(8,Nx x3.Op),(9,.bool s)]) (O:=λ_ g=>[(3,dV g.1 1 26 (.agg [.sl (p1.Funcs.map NP)])),(4,dV g.2.1 3 40 (NP f2)),(5,dV g.2.2 5 69 (Oo x3))]) (j:=λs=>Ou x3 f2 p1 s) ?_ ?_
 ·exact B
 ·rintro x4 ⟨v3x1,v4x1,v5x1⟩ nn
  try dsimp only
  unfold Ou
  refine cD r ?_ ?_
  ·exact B
  ·refine sC (E:=λ(s : Bool) (g : Nat × Nat × Nat)=>[(3,.optr 3 g.1 0 0),(4,.optr 4 g.2.1 0 0),(5,.optr 5 g.2.2 0 0),(8,Nx x3.Op),(16,.bool s)]) (O:=λ_ g=>[(3,dV g.1 1 26 (.agg [.sl (p1.Funcs.map NP)])),(4,dV g.2.1 3 40 (NP f2)),(5,dV g.2.2 5 69 (Oo x3))]) (j:=λs=>OC x3 f2 p1 s) ?_ ?_
   ·exact B
   ·rintro x6 ⟨v3x2,v4x2,v5x2⟩ nn
    try dsimp only
    unfold OC
    refine cD r ?_ ?_
    ·exact B
    ·refine sC (E:=λ(s : Bool) (g : Nat × Nat × Nat)=>[(3,.optr 3 g.1 0 0),(4,.optr 4 g.2.1 0 0),(5,.optr 5 g.2.2 0 0),(8,Nx x3.Op),(27,.bool s)]) (O:=λ_ g=>[(3,dV g.1 1 26 (.agg [.sl (p1.Funcs.map NP)])),(4,dV g.2.1 3 40 (NP f2)),(5,dV g.2.2 5 69 (Oo x3))]) (j:=λs=>Ok x3 f2 p1 s) ?_ ?_
     ·exact B
     ·rintro x9 ⟨v3x3,v4x3,v5x3⟩ nn
      try dsimp only
      unfold Ok
      exact B

def TE (a : NN × Int × Int) : List D:=[QT a.1,Nx a.2.1,Nx a.2.2]
def TC (ds : List D) : NN × Int × Int:=(Vy (ds.getD 0 .top),uI (ds.getD 1 .top),uI (ds.getD 2 .top))
theorem AgS (a : NN × Int × Int) : TC (TE a) = a:=by simp [TC,TE,uI]
instance : Ol TE TC:=⟨AgS⟩
def AhE (b : Int) : D:=Nx b
def AcT : Dw.Spec:=NJ [] .ground TE TC (λa=>Ua a.1 a.2.1 a.2.2) AhE noE
theorem AgT : NG Tryz.prog 121 AcT:=by
 refine fn2 3 (NO (l:=[(120,YU),(140,AdW),(141,AdX)]) (by simp [Abw,AiE,AiG])) Tryz.func121<|?_
 rintro ⟨p1,i2,k3⟩
 unfold Ua
 refine A 6 ?_
 refine sC (E:=λ(_s : Unit) (g : Nat)=>[(1,Nx i2),(2,Nx k3),(3,.optr 3 g 0 0)]) (O:=λ_ g=>[(3,dV g 1 26 (.agg [.sl (p1.Funcs.map NP)]))]) (j:=λ_=>Un p1 i2 k3) ?_ ?_
 ·exact B
 ·rintro ⟨⟩ v3x1 nn
  try dsimp only
  unfold Un
  refine A 5 ?_
  refine bD λx_x7 hx_x7=>?_
  refine A 11 ?_
  refine bD λx_x8 hx_x8=>?_
  refine A 11 ?_
  refine bD λr9 hr9=>?_
  refine A 4 ?_
  refine cD r ?_ ?_
  ·exact B
  ·refine A 6 ?_
   refine bD λr10 hr10=>?_
   refine A 12 ?_
   refine sC (E:=λ(_s : Unit) (g : Nat × Nat × Nat)=>[(3,.optr 3 g.1 0 0),(7,.optr 7 g.2.1 0 0),(8,.optr 8 g.2.2 0 0)]) (O:=λ_ g=>[(3,dV g.1 1 26 (.agg [.sl (p1.Funcs.map NP)])),(7,dV g.2.1 3 40 (NP x_x7)),(8,dV g.2.2 5 69 (Oo x_x8))]) (j:=λ_=>NU p1 x_x7 x_x8) ?_ ?_
   ·exact B
   ·rintro ⟨⟩ ⟨v3x2,v7x2,v8x2⟩ nn
    try dsimp only
    unfold NU
    refine A 6 ?_
    refine bD λr11 hr11=>?_
    refine A 4 ?_
    refine cD r ?_ ?_
    ·exact B
    ·refine A 2 ?_
     refine sC (E:=λ(_s : Unit) (g : Nat × Nat)=>[(7,.optr 7 g.1 0 0),(8,.optr 8 g.2 0 0)]) (O:=λ_ g=>[(7,dV g.1 3 40 (NP x_x7)),(8,dV g.2 5 69 (Oo x_x8))]) (j:=λ_=>On x_x8 x_x7) ?_ ?_
     ·exact B
     ·rintro ⟨⟩ ⟨v7x3,v8x3⟩ nn
      try dsimp only
      unfold On
      exact B

def AhF (b : Bool) : D:=.bool b
def AcU : Dw.Spec:=NJ [] .ground OH OG (λa=>WG a) AhF noE
theorem AgU : NG Tryz.prog 122 AcU:=by
 refine fn2 1 (Od) Tryz.func122<|?_
 intro a
 unfold WG
 exact B

def AiD (b : Int) : D:=Nx b
def Adp : Dw.Spec:=NJ [] .ground TT TS (λa=>Vf a.1 a.2) AiD noE
theorem AhD : NG Tryz.prog 92 Adp:=by
 refine fn2 2 (NO (l:=[(120,YU),(100,Aan),(121,AcT),(122,AcU)]) (by simp [Abw,Acl,AgT,AgU])) Tryz.func92<|?_
 rintro ⟨p1,i2⟩
 unfold Vf
 refine A 13 ?_
 refine bD λr3 hr3=>?_
 refine A 4 ?_
 refine cD r ?_ ?_
 ·exact B
 ·refine A 7 ?_
  refine bD λx_x4 hx_x4=>?_
  refine A 15 ?_
  refine cD r ?_ ?_
  ·exact B
  ·refine A 7 ?_
   refine bD λr5 hr5=>?_
   refine A 10 ?_
   refine cD r ?_ ?_
   ·exact B
   ·refine A 2 ?_
    refine sC (E:=λ(_s : Unit) (g : Nat × Nat)=>[(1,Nx i2),(2,.optr 2 g.1 0 0),(5,.optr 5 g.2 0 0)]) (O:=λ_ g=>[(2,dV g.1 1 26 (.agg [.sl (p1.Funcs.map NP)])),(5,dV g.2 3 40 (NP x_x4))]) (j:=λ_=>Vh x_x4 p1 i2) ?_ ?_
    ·exact B
    ·rintro ⟨⟩ ⟨v2x1,v5x1⟩ nn
     try dsimp only
     unfold Vh
     refine A 7 ?_
     refine lP (E:=λ(s : Int) (g : Nat × Nat)=>[(1,Nx i2),(2,.optr 2 g.1 0 0),(5,.optr 5 g.2 0 0),(7,Nx s)]) (O:=λ_ g=>[(2,dV g.1 1 26 (.agg [.sl (p1.Funcs.map NP)])),(5,dV g.2 3 40 (NP x_x4))]) (body:=λs=>Vg x_x4 p1 i2 s) (s:=0) (_,_) ((hE ⟨rfl,r,r,r,trivial⟩ ⟨rfl,r,trivial⟩))<|?_
     rintro k6 ⟨v2x2,v5x2⟩ nn
     try dsimp only
     unfold Vg
     exact B

def Amw (b : Int) : D:=Nx b
def Agv : Dw.Spec:=NJ [] .ground Ve Vd (λa=>ZU a) Amw noE
theorem Ali : NG Tryz.prog 65 Agv:=by
 refine fn2 1 (NO (l:=[(92,Adp)]) (by simp [AhD])) Tryz.func65<|?_
 intro p1
 unfold ZU
 refine A 15 ?_
 refine cD r ?_ ?_
 ·exact B
 ·refine A 11 ?_
  refine cD r ?_ ?_
  ·exact B
  ·refine A 7 ?_
   refine bD λx_x2 hx_x2=>?_
   refine A 6 ?_
   refine cD r ?_ ?_
   ·exact B
   ·refine A 9 ?_
    refine lP (E:=λ(s : Int) (g : Nat)=>[(1,.optr 1 g 0 0),(3,Nx s)]) (O:=λ_ g=>[(1,dV g 1 26 (.agg [.sl (p1.Funcs.map NP)]))]) (body:=λs=>YT p1 s) (s:=0) _ ((hE ⟨rfl,r,trivial⟩ ⟨rfl,trivial⟩))<|?_
    rintro i3 v1x1 nn
    try dsimp only
    unfold YT
    exact B

def QS (a : NI × Int) : List D:=[Pp a.1,Nx a.2]
def QQ (ds : List D) : NI × Int:=(TV (ds.getD 0 .top),uI (ds.getD 1 .top))
theorem AeW (a : NI × Int) : QQ (QS a) = a:=by simp [QQ,QS,uI]
instance : Ol QS QQ:=⟨AeW⟩
def Afs (_b : NI) : D:=.tup []
def Afr (b : NI) : List D:=[Pp b]
def Wh : Dw.Spec:=NJ [(0,(27,117))] .val QS QQ (λa=>Qk a.1 a.2) Afs Afr
theorem ZV : NG Tryz.prog 66 Wh:=by
 refine fn2 2 (Od) Tryz.func66<|?_
 rintro ⟨m1,f2⟩
 unfold Qk
 refine A 7 ?_
 refine cK λhq=>aP (([] : List NB)) (m1.acts) NR r r r r r r r (by simp) r r r (by simp) r (λ_=>r) r hq<|?_
 refine A 7 ?_
 refine bD λx_x3 hx_x3=>?_
 refine A 4 ?_
 refine cK λhq=>mS (q:=(NL.mk (NF.mk (0 : Int) (0 : Int)) false)) Pv r r r r hq r<|cK λhq=>mS (q:=(NL.mk (NF.mk (0 : Int) (0 : Int)) false)) Pv r r r r hq r<|?_
 refine A 1 ?_
 refine bS ([(NB.mk f2 0 (List.replicate (x_x3.Slots.length : Int).toNat (NL.mk (NF.mk (0 : Int) (0 : Int)) false)) (List.replicate (8 : Int).toNat (NL.mk (NF.mk (0 : Int) (0 : Int)) false)))] : List NB) NR r r r (by simp) r (by simp [WB,NR] <;> rfl) r<|cK λhq=>aP (([] : List NB) ++ m1.acts) (([(NB.mk f2 0 (List.replicate (x_x3.Slots.length : Int).toNat (NL.mk (NF.mk (0 : Int) (0 : Int)) false)) (List.replicate (8 : Int).toNat (NL.mk (NF.mk (0 : Int) (0 : Int)) false)))] : List NB)) NR r r r r r r r (by simp) (QW _ _ r) r r (by simp) (Qz _ _ r) (λ_=>r) r hq<|?_
 refine A 2 ?_
 refine ZD (l:=(([] : List NB) ++ m1.acts) ++ ([(NB.mk f2 0 (List.replicate (x_x3.Slots.length : Int).toNat (NL.mk (NF.mk (0 : Int) (0 : Int)) false)) (List.replicate (8 : Int).toNat (NL.mk (NF.mk (0 : Int) (0 : Int)) false)))] : List NB)) (en:=NR) (z':=.agg ([.sl (m1.p.Funcs.map NP)] ++ (cells (Oq m1.regs) ++ [.row 4 142 (((([] : List NB) ++ m1.acts) ++ ([(NB.mk f2 0 (List.replicate (x_x3.Slots.length : Int).toNat (NL.mk (NF.mk (0 : Int) (0 : Int)) false)) (List.replicate (8 : Int).toNat (NL.mk (NF.mk (0 : Int) (0 : Int)) false)))] : List NB)).map NR),.sl (m1.input.map Pt),Nx m1.deep,.bool m1.done,Nx m1.out.Kind,Ob m1.out.Code,Ob m1.out.Result.Lo,Ob m1.out.Result.Hi,.sl (m1.out.Trace.map Oe),Nx m1.out.Steps]))) r r r r r r (λ_=>r) r r<|?_
 refine A 1 ?_
 refine QA (E:=[(0,.optr 8192 0 0 0)]) (O:=[(8192,dV 0 27 117 (.agg ([.sl (m1.p.Funcs.map NP)] ++ (cells (Oq m1.regs) ++ [.sl (((([] : List NB) ++ m1.acts) ++ ([(NB.mk f2 0 (List.replicate (x_x3.Slots.length : Int).toNat (NL.mk (NF.mk (0 : Int) (0 : Int)) false)) (List.replicate (8 : Int).toNat (NL.mk (NF.mk (0 : Int) (0 : Int)) false)))] : List NB)).map NR),.sl (m1.input.map Pt),Nx m1.deep,.bool m1.done,Nx m1.out.Kind,Ob m1.out.Code,Ob m1.out.Result.Lo,Ob m1.out.Result.Hi,.sl (m1.out.Trace.map Oe),Nx m1.out.Steps]))))]) ((Aex (g:=8192) r (AhT (by repeat' first | exact FrL.nil | apply FrL.row (AcO λ_=>rfl) | apply FrL.same)) (hE ⟨rfl,trivial⟩ ⟨rfl,trivial⟩))) λnn=>?_
 refine A 14 ?_
 refine PM (i:=0) (es':=[.agg ([.sl (m1.p.Funcs.map NP)] ++ (cells (Oq m1.regs) ++ [.sl (((([] : List NB) ++ m1.acts) ++ ([(NB.mk f2 0 (List.replicate (x_x3.Slots.length : Int).toNat (NL.mk (NF.mk (0 : Int) (0 : Int)) false)) (List.replicate (8 : Int).toNat (NL.mk (NF.mk (0 : Int) (0 : Int)) false)))] : List NB)).map NR),.sl (m1.input.map Pt),Nx (WC m1.deep (((([] : List NB) ++ m1.acts) ++ ([(NB.mk f2 0 (List.replicate (x_x3.Slots.length : Int).toNat (NL.mk (NF.mk (0 : Int) (0 : Int)) false)) (List.replicate (8 : Int).toNat (NL.mk (NF.mk (0 : Int) (0 : Int)) false)))] : List NB)).length : Int)),.bool m1.done,Nx m1.out.Kind,Ob m1.out.Code,Ob m1.out.Result.Lo,Ob m1.out.Result.Hi,.sl (m1.out.Trace.map Oe),Nx m1.out.Steps]))]) r r r r r r r (by first | trivial | (simp; done) | (simp; omega)) r r r r r r<|?_
 exact B

end
end Go.Proofs.YtpagjjmondojpaaGreatDoor
