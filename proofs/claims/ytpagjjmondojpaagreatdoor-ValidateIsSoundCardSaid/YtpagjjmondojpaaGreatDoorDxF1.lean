/-
  Programs on typed data, and the proofs that the code does what they say; written by a program (dx.py).
-/
import Derived.Test.YtpagjjmondojpaaGreatDoorProg
import Derived.Test.YtpagjjmondojpaaGreatDoorDd
import Derived.KernelRfl
import Derived.Test.YtpagjjmondojpaaGreatDoorSh
import Derived.Test.YtpagjjmondojpaaGreatDoorDxP
namespace Go.Proofs.YtpagjjmondojpaaGreatDoor
open Go Go.Dw Go.Proofs
open Go.IntKind (i64 u64)
set_option maxRecDepth 100000
set_option maxHeartbeats 40000000
open Go.Dw renaming PI -> bD,OV -> cK,Aek -> cV,AbN -> cG,AaT -> cD,Wq -> hE,Aej -> cP,Acw -> lP,Xc -> sC,Apf -> mF,rf -> r
noncomputable section
def OH (a : Int) : List D:=[Nx a]
def OG (ds : List D) : Int:=uI (ds.getD 0 .top)
theorem AfL (a : Int) : OG (OH a) = a:=by simp [OG,OH,uI]
instance : Ol OH OG:=⟨AfL⟩
def AgK (b : Bool) : D:=.bool b
def XD : Dw.Spec:=NJ [] .ground OH OG (λa=>Qi a) AgK noE
theorem Abe : NG Tryz.prog 109 XD:=by
 refine fn2 1 (Od) Tryz.func109<|?_
 intro a
 unfold Qi
 exact B

def Rj (a : (List Int)) : List D:=[.sl (a.map NH)]
def Ri (ds : List D) : (List Int):=(uL uI) (ds.getD 0 .top)
theorem Aka (a : (List Int)) : Ri (Rj a) = a:=by simp [Ri,Rj,OY (u:=uI) (en:=NH) (λ_=>rfl)]
instance : Ol Rj Ri:=⟨Aka⟩
def AkI (b : Bool) : D:=.bool b
def Afd : Dw.Spec:=NJ [] .ground Rj Ri (λa=>Yi a) AkI noE
theorem Akb : NG Tryz.prog 82 Afd:=by
 refine fn2 1 (NO (l:=[(109,XD)]) (by simp [Abe])) Tryz.func82<|?_
 intro s1
 unfold Yi
 refine A 14 ?_
 refine lP (E:=λ(s : Int) (_g : Unit)=>[(0,.sl (s1.map NH)),(5,.sl (s1.map NH)),(6,Nx (s1.length : Int)),(7,Nx s)]) (O:=λ_ _=>[]) (body:=λs=>QX s1 s) (s:=0) () ((hE ⟨rfl,r,r,r,trivial⟩ trivial))<|?_
 rintro x2 ⟨⟩ nn
 try dsimp only
 unfold QX
 exact B

def RC (a : (List Int) × Nz) : List D:=[.sl (a.1.map NH),.fptr (NP a.2) 0]
def RB (ds : List D) : (List Int) × Nz:=((uL uI) (ds.getD 0 .top),QZ (fpD (ds.getD 1 .top)))
theorem AdM (a : (List Int) × Nz) : RB (RC a) = a:=by simp [RB,RC,fpD,OY (u:=uI) (en:=NH) (λ_=>rfl)]
instance : Ol RC RB:=⟨AdM⟩
def Aep (b : Bool) : D:=.bool b
def ZG : Dw.Spec:=NJ [] .ground RC RB (λa=>Ru a.1 a.2) Aep noE
theorem AdN : NG Tryz.prog 81 ZG:=by
 refine fn2 2 (NO (l:=[(82,Afd)]) (by simp [Akb])) Tryz.func81<|?_
 intro a
 unfold Ru
 exact B

def Pm (a : (List (List Int)) × Nz) : List D:=[.sl (a.1.map (eL NH)),.clo 81 [.fptr (NP a.2) 0]]
def Pk (ds : List D) : (List (List Int)) × Nz:=((uL (uL uI)) (ds.getD 0 .top),QZ (fpD (Ajj (ds.getD 1 .top) 0)))
theorem Qv (a : (List (List Int)) × Nz) : Pk (Pm a) = a:=by simp [Pk,Pm,fpD,Ajj,OY (u:=(uL uI)) (en:=(eL NH)) (OY (u:=uI) (en:=NH) (λ_=>rfl))]
instance : Ol Pm Pk:=⟨Qv⟩
def ZF (b : Int) : D:=Nx b
def QO : Dw.Spec:=NJ [] .ground Pm Pk (λa=>Ps a.1 a.2) ZF noE
theorem YD : NG Tryz.prog 110 QO:=by
 refine fn2 2 (NO (l:=[(81,ZG)]) (by simp [AdN])) Tryz.func110<|?_
 rintro ⟨s1,f2⟩
 unfold Ps
 refine A 14 ?_
 refine lP (E:=λ(s : Int) (_g : Unit)=>[(0,.sl (s1.map (eL NH))),(1,.clo 81 [.fptr (NP f2) 0]),(7,Nx (s1.length : Int)),(8,Nx s)]) (O:=λ_ _=>[]) (body:=λs=>PF s1 f2 s) (s:=0) () ((hE ⟨rfl,r,r,r,trivial⟩ trivial))<|?_
 rintro x3 ⟨⟩ nn
 try dsimp only
 unfold PF
 exact B

def XE (b : Bool) : D:=.bool b
def Ql : Dw.Spec:=NJ [] .ground Pm Pk (λa=>PE a.1 a.2) XE noE
theorem Xq : NG Tryz.prog 83 Ql:=by
 refine fn2 2 (NO (l:=[(335982,QO)]) (by simp [YD])) Tryz.func83<|?_
 rintro ⟨s1,f2⟩
 unfold PE
 refine A 9 ?_
 refine bD λr3 hr3=>cG (s1,f2) rfl rfl (show _ = some QO from by kernel_rfl) Qv rfl rfl (by simp) r hr3 r<|?_
 exact B

def OQ (a : Nz × NQ) : List D:=[NP a.1,PO a.2]
def OO (ds : List D) : Nz × NQ:=(QZ (ds.getD 0 .top),VQ (ds.getD 1 .top))
theorem AgR (a : Nz × NQ) : OO (OQ a) = a:=by simp [OO,OQ]
instance : Ol OQ OO:=⟨AgR⟩
def Ahs (b : Bool) : D:=.bool b
def Ys : Dw.Spec:=NJ [] .ground OQ OO (λa=>Sn a.1 a.2) Ahs noE
theorem Aca : NG Tryz.prog 47 Ys:=by
 refine fn2 2 (NO (l:=[(335955,Ql)]) (by simp [Xq])) Tryz.func47<|?_
 rintro ⟨f1,l2⟩
 unfold Sn
 refine A 6 ?_
 refine QA (E:=[(2,.fptr (NP f1) 0),(3,.optr 3 _ 0 0)]) (O:=[(3,dV _ 1 29 (.agg [.sl (l2.Out.map (eL NH))]))]) ((AaD (g:=2) r (by first | rfl | (simp [cells,frp,Oh,OK]; done)) (hE ⟨(by first | rfl | (simp [NW,frp]; done) | (simp [NW,frp,Oh]; done) | (simp [NW,frp,Oh,nbq]; done) | (simp [NW,lkO,frp,Oh,frO]; done) | (simp [NW,lkO,frp,Oh,frO]; rfl) | (simp [NW,lkO,frp,Oh,frO,nbq]; done)),(by first | rfl | (simp [NW,frp]; done) | (simp [NW,frp,Oh]; done) | (simp [NW,frp,Oh,nbq]; done) | (simp [NW,lkO,frp,Oh,frO]; done) | (simp [NW,lkO,frp,Oh,frO]; rfl) | (simp [NW,lkO,frp,Oh,frO,nbq]; done)),trivial⟩ ⟨(by first | rfl | (simp [NW,frp]; done) | (simp [NW,frp,Oh]; done) | (simp [NW,frp,Oh,nbq]; done) | (simp [NW,lkO,frp,Oh,frO]; done) | (simp [NW,lkO,frp,Oh,frO]; rfl) | (simp [NW,lkO,frp,Oh,frO,nbq]; done)),trivial⟩))) λnn=>?_
 refine A 2 ?_
 refine mF (caps:=[.fptr (NP f1) 0]) r r (by simp [Acq])<|?_
 refine A 13 ?_
 refine AbY r ?_ ?_
 ·refine A 3 ?_
  refine bD λr3 hr3=>cG (l2.Out,f1) rfl rfl (show _ = some Ql from by kernel_rfl) Qv rfl rfl (by simp) r hr3 r<|?_
  exact B
 ·exact B

def UX (a : NQ) : List D:=[PO a]
def UW (ds : List D) : NQ:=VQ (ds.getD 0 .top)
theorem Aiy (a : NQ) : UW (UX a) = a:=by simp [UW,UX]
instance : Ol UX UW:=⟨Aiy⟩
def Ajs (b : NQ) : D:=.clo 113 [.fptr (PO b) 0]
def AdO : Dw.Spec:=NJ [] .val UX UW (λa=>YJ a) Ajs noE
theorem Aiz : NG Tryz.prog 85 AdO:=by
 refine fn2 1 (Od) Tryz.func85<|?_
 intro l1
 unfold YJ
 refine A 5 ?_
 refine QA (E:=[(1,.fptr (.agg [.sl (l1.Out.map (eL NH))]) 0)]) (O:=[]) ((AaD (g:=1) r (by first | rfl | (simp [cells,frp,Oh,OK]; done)) (hE ⟨(by first | rfl | (simp [NW,frp]; done) | (simp [NW,frp,Oh]; done) | (simp [NW,frp,Oh,nbq]; done) | (simp [NW,lkO,frp,Oh,frO]; done) | (simp [NW,lkO,frp,Oh,frO]; rfl) | (simp [NW,lkO,frp,Oh,frO,nbq]; done)),trivial⟩ trivial))) λnn=>?_
 refine A 2 ?_
 refine mF (caps:=[.fptr (.agg [.sl (l1.Out.map (eL NH))]) 0]) r r (by simp [Acq])<|?_
 exact B

def AjR (b : Bool) : D:=.bool b
def Aem : Dw.Spec:=NJ [] .ground OH OG (λa=>ZB a) AjR noE
theorem AiN : NG Tryz.prog 132 Aem:=by
 refine fn2 1 (Od) Tryz.func132<|?_
 intro a
 unfold ZB
 exact B

def Xg (a : Nz × Int) : List D:=[NP a.1,Nx a.2]
def Xf (ds : List D) : Nz × Int:=(QZ (ds.getD 0 .top),uI (ds.getD 1 .top))
theorem Anu (a : Nz × Int) : Xf (Xg a) = a:=by simp [Xf,Xg,uI]
instance : Ol Xg Xf:=⟨Anu⟩
def AoH (b : (List Int)) : D:=.sl (b.map NH)
def AiT : Dw.Spec:=NJ [] (.row 1 3) Xg Xf (λa=>AcK a.1 a.2) AoH noE
theorem Anv : NG Tryz.prog 111 AiT:=by
 refine fn2 2 (NO (l:=[(132,Aem),(133,AaV),(134,YC)]) (by simp [AiN,Afa,Ady])) Tryz.func111<|?_
 rintro ⟨f1,k2⟩
 unfold AcK
 refine A 6 ?_
 refine sC (E:=λ(_s : Unit) (g : Nat)=>[(1,Nx k2),(2,.optr 2 g 0 0)]) (O:=λ_ g=>[(2,dV g 3 40 (NP f1))]) (j:=λ_=>Abk f1 k2) ?_ ?_
 ·exact B
 ·rintro ⟨⟩ v2x1 nn
  try dsimp only
  unfold Abk
  refine A 10 ?_
  refine bD λx_x3 hx_x3=>?_
  refine A 6 ?_
  refine sC (E:=λ(s : (List Int)) (g : Nat × Nat)=>[(5,.osl 5 g.1 0 s.length),(6,.optr 6 g.2 0 0)]) (O:=λs g=>[(5,dW g.1 1 3 (s.map NH)),(6,dV g.2 5 69 (Oo x_x3))]) (j:=λs=>Yn x_x3 s) ?_ ?_
  ·exact B
  ·rintro l4 ⟨v5x2,v6x2⟩ nn
   try dsimp only
   unfold Yn
   exact B

def Sf (a : Int × NQ) : List D:=[Nx a.1,.fptr (PO a.2) 0]
def Se (ds : List D) : Int × NQ:=(uI (ds.getD 0 .top),VQ (fpD (ds.getD 1 .top)))
theorem AeR (a : Int × NQ) : Se (Sf a) = a:=by simp [Se,Sf,uI,fpD]
instance : Ol Sf Se:=⟨AeR⟩
def Afo (b : (List Int)) : D:=.sl (b.map NH)
def AaQ : Dw.Spec:=NJ [] .val Sf Se (λa=>Um a.1 a.2) Afo noE
theorem AeS : NG Tryz.prog 113 AaQ:=by
 refine fn2 2 (Od) Tryz.func113<|?_
 intro a
 unfold Um
 exact B

def PC (a : NC) : List D:=[Oo a]
def PA (ds : List D) : NC:=AbQ (ds.getD 0 .top)
theorem Aiv (a : NC) : PA (PC a) = a:=by simp [PA,PC]
instance : Ol PC PA:=⟨Aiv⟩
def Ajq (b : Int × Bool) : D:=.tup [Nx b.1,.bool b.2]
def WD : Dw.Spec:=NJ [] .ground PC PA (λa=>Sm a) Ajq noE
theorem ZI : NG Tryz.prog 56 WD:=by
 refine fn2 1 (Od) Tryz.func56<|?_
 intro a
 unfold Sm
 exact B

def SA (a : ND × Int × Bool) : List D:=[Oc a.1,Nx a.2.1,.bool a.2.2]
def Sz (ds : List D) : ND × Int × Bool:=(Qx (ds.getD 0 .top),uI (ds.getD 1 .top),uBo (ds.getD 2 .top))
theorem Afi (a : ND × Int × Bool) : Sz (SA a) = a:=by simp [Sz,SA,uI,uBo]
instance : Ol SA Sz:=⟨Afi⟩
def AfK (_b : ND) : D:=.tup []
def AfJ (b : ND) : List D:=[Oc b]
def WA : Dw.Spec:=NJ [(0,(8,185))] .val SA Sz (λa=>Rm a.1 a.2.1 a.2.2) AfK AfJ
theorem AaL : NG Tryz.prog 138 WA:=by
 refine fn2 3 (NO (l:=[(109,XD)]) (by simp [Abe])) Tryz.func138<|?_
 rintro ⟨s1,n2,in3⟩
 unfold Rm
 refine A 13 ?_
 refine bD λr4 hr4=>?_
 refine A 5 ?_
 refine cD r ?_ ?_
 ·exact B
 ·refine A 6 ?_
  refine cD r ?_ ?_
  ·refine A 5 ?_
   refine cK λhq=>OZ r r r hq<|bD λs_e5 hs_e5=>Xa (q:=s_e5) (l:=s1.toList) (en:=Pt) (j:=(i64.wrap (n2.tdiv 64)).toNat) (by simp) r r r hs_e5 r (λ_=>r)<|?_
   refine A 3 ?_
   refine cK λhq=>OZ r r r hq<|bD λs_o6 hs_o6=>AeJ (q:=s_o6) (q':=u64.wrap ((BitVec.ofInt u64.bits s_e5 ||| BitVec.ofInt u64.bits (u64.wrap (1 * 2 ^ (Nat.min ((u64.wrap (n2)).tmod 64).toNat u64.bits)))).toNat)) (l:=s1.toList) (en:=Pt) (j:=(i64.wrap (n2.tdiv 64)).toNat) (z':=Oc (s1.set ((i64.wrap (n2.tdiv 64)).toNat) (u64.wrap ((BitVec.ofInt u64.bits s_e5 ||| BitVec.ofInt u64.bits (u64.wrap (1 * 2 ^ (Nat.min ((u64.wrap (n2)).tmod 64).toNat u64.bits)))).toNat)))) (by simp) r r r r r hs_o6 r r (congrArg (λl=>D.agg (l.map Pt)) (QG s1 ((i64.wrap (n2.tdiv 64)).toNat) (u64.wrap ((BitVec.ofInt u64.bits s_e5 ||| BitVec.ofInt u64.bits (u64.wrap (1 * 2 ^ (Nat.min ((u64.wrap (n2)).tmod 64).toNat u64.bits)))).toNat))).symm) r r<|?_
   exact B
  ·refine A 5 ?_
   refine cK λhq=>OZ r r r hq<|bD λs_e7 hs_e7=>Xa (q:=s_e7) (l:=s1.toList) (en:=Pt) (j:=(i64.wrap (n2.tdiv 64)).toNat) (by simp) r r r hs_e7 r (λ_=>r)<|?_
   refine A 3 ?_
   refine cK λhq=>OZ r r r hq<|bD λs_o8 hs_o8=>AeJ (q:=s_o8) (q':=u64.wrap ((BitVec.ofInt u64.bits s_e7 &&& ~~~ BitVec.ofInt u64.bits (u64.wrap (1 * 2 ^ (Nat.min ((u64.wrap (n2)).tmod 64).toNat u64.bits)))).toNat)) (l:=s1.toList) (en:=Pt) (j:=(i64.wrap (n2.tdiv 64)).toNat) (z':=Oc (s1.set ((i64.wrap (n2.tdiv 64)).toNat) (u64.wrap ((BitVec.ofInt u64.bits s_e7 &&& ~~~ BitVec.ofInt u64.bits (u64.wrap (1 * 2 ^ (Nat.min ((u64.wrap (n2)).tmod 64).toNat u64.bits)))).toNat)))) (by simp) r r r r r hs_o8 r r (congrArg (λl=>D.agg (l.map Pt)) (QG s1 ((i64.wrap (n2.tdiv 64)).toNat) (u64.wrap ((BitVec.ofInt u64.bits s_e7 &&& ~~~ BitVec.ofInt u64.bits (u64.wrap (1 * 2 ^ (Nat.min ((u64.wrap (n2)).tmod 64).toNat u64.bits)))).toNat))).symm) r r<|?_
   exact B

def Akf (b : ND) : D:=Oc b
def UE : Dw.Spec:=NJ [] (.ptr 8 185) Rj Ri (λa=>Qy a) Akf noE
theorem Wz : NG Tryz.prog 114 UE:=by
 refine fn2 1 (NO (l:=[(138,WA)]) (by simp [AaL])) Tryz.func114<|?_
 intro l1
 unfold Qy
 refine A 21 ?_
 refine lP (E:=λ(s : ND × Int) (g : Nat)=>[(3,.optr 7 g 0 0),(8,.sl (l1.map NH)),(9,Nx (l1.length : Int)),(10,Nx s.2)]) (O:=λs g=>[(7,dV g 8 185 (Oc s.1))]) (body:=λs=>Wy l1 s.1 s.2) (s:=((ND.mk 0 0 0 0 0 0 0 0),0)) _ ((hE ⟨rfl,r,r,r,trivial⟩ ⟨rfl,trivial⟩))<|?_
 rintro ⟨x2,x3⟩ v7x1 nn
 try dsimp only
 unfold Wy
 exact B

def Sb (a : ND) : List D:=[Oc a]
def Sa (ds : List D) : ND:=Qx (ds.getD 0 .top)
theorem AeM (a : ND) : Sa (Sb a) = a:=by simp [Sa,Sb]
instance : Ol Sb Sa:=⟨AeM⟩
def Afh (b : (List Int) × ND) : D:=.sl (b.1.map NH)
def Aff (b : (List Int) × ND) : List D:=[Oc b.2]
def Rl : Dw.Spec:=NJ [(0,(8,185))] (.row 1 3) Sb Sa (λa=>PH a) Afh Aff
theorem Sx : NG Tryz.prog 117 Rl:=by
 refine fn2 1 (NO (l:=[(139,Aoq)]) (by simp [Ase])) Tryz.func117<|?_
 intro s1
 unfold PH
 refine A 18 ?_
 refine lP (E:=λ(s : (List Int) × Int) (g : Nat)=>[(3,.osl 3 g 0 s.1.length),(6,.optr 8192 0 0 0),(7,Nx s.2)]) (O:=λs g=>[(3,dW g 1 3 (s.1.map NH)),(8192,dV 0 8 185 (Oc s1))]) (body:=λs=>Sv s1 s.1 s.2) (s:=(([] : List Int),0)) _ ((hE ⟨rfl,r,r,trivial⟩ ⟨rfl,r,trivial⟩))<|?_
 rintro ⟨l2,x3⟩ v3x1 nn
 try dsimp only
 unfold Sv
 refine A 6 ?_
 refine cD r ?_ ?_
 ·refine A 8 ?_
  refine cK λhq=>OZ r r r hq<|bD λs_e4 hs_e4=>Xa (q:=s_e4) (l:=s1.toList) (en:=Pt) (j:=x3.toNat) (by simp) r r r hs_e4 r (λ_=>r)<|?_
  refine A 5 ?_
  refine lP (E:=λ(s : (List Int) × Int) (g : Nat)=>[(3,.osl 3 g 0 s.1.length),(4,Nx x3),(5,Ob s.2),(6,.optr 8192 0 0 0),(7,Nx x3)]) (O:=λs g=>[(3,dW g 1 3 (s.1.map NH)),(8192,dV 0 8 185 (Oc s1))]) (body:=λs=>Sw x3 s.1 s.2) (s:=(l2,s_e4)) _ ((hE ⟨rfl,r,r,r,r,trivial⟩ ⟨rfl,r,trivial⟩))<|?_
  rintro ⟨l5,x6⟩ v3x2 nn
  try dsimp only
  unfold Sw
  exact B
 ·exact B

def Qg (a : (List Int) × Int) : List D:=[.sl (a.1.map NH),Nx a.2]
def Qf (ds : List D) : (List Int) × Int:=((uL uI) (ds.getD 0 .top),uI (ds.getD 1 .top))
theorem Aji (a : (List Int) × Int) : Qf (Qg a) = a:=by simp [Qf,Qg,uI,OY (u:=uI) (en:=NH) (λ_=>rfl)]
instance : Ol Qg Qf:=⟨Aji⟩
def Akd (b : (List Int)) : D:=.sl (b.map NH)
def Aev : Dw.Spec:=NJ [] .val Qg Qf (λa=>Ut a.1 a.2) Akd noE
theorem Ajk : NG Tryz.prog 135 Aev:=by
 refine fn2 2 (NO (l:=[(114,UE),(138,WA),(117,Rl)]) (by simp [Wz,AaL,Sx])) Tryz.func135<|?_
 intro a
 unfold Ut
 exact B

def AlY (b : (List Int)) : D:=.sl (b.map NH)
def Agj : Dw.Spec:=NJ [] (.row 1 3) PC PA (λa=>Xr a) AlY noE
theorem AkM : NG Tryz.prog 137 Agj:=by
 refine fn2 1 (Od) Tryz.func137<|?_
 intro a
 unfold Xr
 exact B

def Aoz (b : (List Int)) : D:=.sl (b.map NH)
def AiO : Dw.Spec:=NJ [] (.row 1 3) Rj Ri (λa=>Yj a) Aoz noE
theorem Anj : NG Tryz.prog 136 AiO:=by
 refine fn2 1 (NO (l:=[(114,UE),(117,Rl)]) (by simp [Wz,Sx])) Tryz.func136<|?_
 intro a
 unfold Yj
 exact B

def SS (a : Int × Int) : List D:=[Ob a.1,Ob a.2]
def SR (ds : List D) : Int × Int:=(uI (ds.getD 0 .top),uI (ds.getD 1 .top))
theorem Aie (a : Int × Int) : SR (SS a) = a:=by simp [SR,SS,uI]
instance : Ol SS SR:=⟨Aie⟩
def Ajm (b : Int) : D:=Ob b
def AdH : Dw.Spec:=NJ [] .ground SS SR (λa=>VV a.1 a.2) Ajm noE
theorem Aif : NG Tryz.prog 116 AdH:=by
 refine fn2 2 (Od) Tryz.func116<|?_
 intro a
 unfold VV
 exact B

def Qc (a : ND × ND) : List D:=[Oc a.1,Oc a.2,.clo 116 []]
def Qb (ds : List D) : ND × ND:=(Qx (ds.getD 0 .top),Qx (ds.getD 1 .top))
theorem UH (a : ND × ND) : Qb (Qc a) = a:=by simp [Qb,Qc]
instance : Ol Qc Qb:=⟨UH⟩
def AbU (b : ND × ND × ND) : D:=Oc b.1
def AbT (b : ND × ND × ND) : List D:=[Oc b.2.1,Oc b.2.2]
def RZ : Dw.Spec:=NJ [(0,(8,185)),(1,(8,185))] (.ptr 8 185) Qc Qb (λa=>PT a.1 a.2) AbU AbT
theorem Abd : NG Tryz.prog 115 RZ:=by
 refine fn2 3 (NO (l:=[(116,AdH)]) (by simp [Aif])) Tryz.func115<|?_
 rintro ⟨s1,t2⟩
 unfold PT
 refine A 19 ?_
 refine lP (E:=λ(s : ND × Int) (g : Nat)=>[(0,.optr 8192 0 0 0),(1,.optr 8193 1 0 0),(2,.clo 116 []),(7,.optr 10 g 0 0),(11,Nx s.2)]) (O:=λs g=>[(10,dV g 8 185 (Oc s.1)),(8192,dV 0 8 185 (Oc s1)),(8193,dV 1 8 185 (Oc t2))]) (body:=λs=>Py s1 t2 s.1 s.2) (s:=((ND.mk 0 0 0 0 0 0 0 0),0)) _ ((hE ⟨rfl,r,r,r,r,trivial⟩ ⟨rfl,r,r,trivial⟩))<|?_
 rintro ⟨x3,x4⟩ v10x1 nn
 try dsimp only
 unfold Py
 refine A 6 ?_
 refine cD r ?_ ?_
 ·refine A 17 ?_
  refine cK λhq=>OZ r r r hq<|bD λs_e5 hs_e5=>Xa (q:=s_e5) (l:=s1.toList) (en:=Pt) (j:=x4.toNat) (by simp) r r r hs_e5 r (λ_=>r)<|?_
  refine A 3 ?_
  refine cK λhq=>OZ r r r hq<|bD λt_e6 ht_e6=>Xa (q:=t_e6) (l:=t2.toList) (en:=Pt) (j:=x4.toNat) (by simp) r r r ht_e6 r (λ_=>r)<|bD λr7 hr7=>?_
  refine A 2 ?_
  refine cK λhq=>OZ r r r hq<|bD λx_o8 hx_o8=>AkB (q:=x_o8) (q':=r7) (l:=x3.toList) (en:=Pt) (j:=x4.toNat) (z':=Oc (x3.set x4.toNat r7)) (by simp) r r r r r hx_o8 r r (congrArg (λl=>D.agg (l.map Pt)) (QG x3 x4.toNat r7).symm)<|?_
  exact B
 ·exact B

def Qr (a : (List Int) × (List Int)) : List D:=[.sl (a.1.map NH),.sl (a.2.map NH)]
def Qq (ds : List D) : (List Int) × (List Int):=((uL uI) (ds.getD 0 .top),(uL uI) (ds.getD 1 .top))
theorem Ake (a : (List Int) × (List Int)) : Qq (Qr a) = a:=by simp [Qq,Qr,OY (u:=uI) (en:=NH) (λ_=>rfl)]
instance : Ol Qr Qq:=⟨Ake⟩
def AkK (b : (List Int)) : D:=.sl (b.map NH)
def Ace : Dw.Spec:=NJ [] .val Qr Qq (λa=>SQ a.1 a.2) AkK noE
theorem Aew : NG Tryz.prog 87 Ace:=by
 refine fn2 2 (NO (l:=[(114,UE),(479347,RZ),(117,Rl)]) (by simp [Wz,Abd,Sx])) Tryz.func87<|?_
 rintro ⟨a1,b2⟩
 unfold SQ
 refine A 8 ?_
 refine bD λr3 hr3=>?_
 refine A 2 ?_
 refine bD λr4 hr4=>?_
 refine A 1 ?_
 refine bD λr5 hr5=>cP (r3,r4) rfl rfl (show _ = some RZ from by kernel_rfl) UH rfl rfl (by simp) r hr5<|?_
 exact B

def Uv (a : NC × (List Int)) : List D:=[Oo a.1,.sl (a.2.map NH)]
def Uu (ds : List D) : NC × (List Int):=(AbQ (ds.getD 0 .top),(uL uI) (ds.getD 1 .top))
theorem Ans (a : NC × (List Int)) : Uu (Uv a) = a:=by simp [Uu,Uv,OY (u:=uI) (en:=NH) (λ_=>rfl)]
instance : Ol Uv Uu:=⟨Ans⟩
def AoG (b : (List Int)) : D:=.sl (b.map NH)
def AiR : Dw.Spec:=NJ [] .val Uv Uu (λa=>AcI a.1 a.2) AoG noE
theorem Ant : NG Tryz.prog 112 AiR:=by
 refine fn2 2 (NO (l:=[(56,WD),(135,Aev),(137,Agj),(136,AiO),(87,Ace)]) (by simp [ZI,Ajk,AkM,Anj,Aew])) Tryz.func112<|?_
 intro a
 unfold AcI
 exact B

def Ajh (b : Int) : D:=Ob b
def AdG : Dw.Spec:=NJ [] .ground SS SR (λa=>VU a.1 a.2) Ajh noE
theorem Aid : NG Tryz.prog 118 AdG:=by
 refine fn2 2 (Od) Tryz.func118<|?_
 intro a
 unfold VU
 exact B

def Qa (a : ND × ND) : List D:=[Oc a.1,Oc a.2,.clo 118 []]
def PZ (ds : List D) : ND × ND:=(Qx (ds.getD 0 .top),Qx (ds.getD 1 .top))
theorem UG (a : ND × ND) : PZ (Qa a) = a:=by simp [PZ,Qa]
instance : Ol Qa PZ:=⟨UG⟩
def AbS (b : ND × ND × ND) : D:=Oc b.1
def AbR (b : ND × ND × ND) : List D:=[Oc b.2.1,Oc b.2.2]
def RY : Dw.Spec:=NJ [(0,(8,185)),(1,(8,185))] (.ptr 8 185) Qa PZ (λa=>PS a.1 a.2) AbS AbR
theorem Abc : NG Tryz.prog 115 RY:=by
 refine fn2 3 (NO (l:=[(118,AdG)]) (by simp [Aid])) Tryz.func115<|?_
 rintro ⟨s1,t2⟩
 unfold PS
 refine A 19 ?_
 refine lP (E:=λ(s : ND × Int) (g : Nat)=>[(0,.optr 8192 0 0 0),(1,.optr 8193 1 0 0),(2,.clo 118 []),(7,.optr 10 g 0 0),(11,Nx s.2)]) (O:=λs g=>[(10,dV g 8 185 (Oc s.1)),(8192,dV 0 8 185 (Oc s1)),(8193,dV 1 8 185 (Oc t2))]) (body:=λs=>Px s1 t2 s.1 s.2) (s:=((ND.mk 0 0 0 0 0 0 0 0),0)) _ ((hE ⟨rfl,r,r,r,r,trivial⟩ ⟨rfl,r,r,trivial⟩))<|?_
 rintro ⟨x3,x4⟩ v10x1 nn
 try dsimp only
 unfold Px
 refine A 6 ?_
 refine cD r ?_ ?_
 ·refine A 17 ?_
  refine cK λhq=>OZ r r r hq<|bD λs_e5 hs_e5=>Xa (q:=s_e5) (l:=s1.toList) (en:=Pt) (j:=x4.toNat) (by simp) r r r hs_e5 r (λ_=>r)<|?_
  refine A 3 ?_
  refine cK λhq=>OZ r r r hq<|bD λt_e6 ht_e6=>Xa (q:=t_e6) (l:=t2.toList) (en:=Pt) (j:=x4.toNat) (by simp) r r r ht_e6 r (λ_=>r)<|bD λr7 hr7=>?_
  refine A 2 ?_
  refine cK λhq=>OZ r r r hq<|bD λx_o8 hx_o8=>AkB (q:=x_o8) (q':=r7) (l:=x3.toList) (en:=Pt) (j:=x4.toNat) (z':=Oc (x3.set x4.toNat r7)) (by simp) r r r r r hx_o8 r r (congrArg (λl=>D.agg (l.map Pt)) (QG x3 x4.toNat r7).symm)<|?_
  exact B
 ·exact B

def AkJ (b : (List Int)) : D:=.sl (b.map NH)
def Afe : Dw.Spec:=NJ [] .val Qr Qq (λa=>VT a.1 a.2) AkJ noE
theorem Akc : NG Tryz.prog 88 Afe:=by
 refine fn2 2 (NO (l:=[(114,UE),(487539,RY),(117,Rl)]) (by simp [Wz,Abc,Sx])) Tryz.func88<|?_
 rintro ⟨a1,b2⟩
 unfold VT
 refine A 8 ?_
 refine bD λr3 hr3=>?_
 refine A 2 ?_
 refine bD λr4 hr4=>?_
 refine A 1 ?_
 refine bD λr5 hr5=>cP (r3,r4) rfl rfl (show _ = some RY from by kernel_rfl) UG rfl rfl (by simp) r hr5<|?_
 exact B

def Qo (a : (List Int) × (List Int) × NQ × Int) : List D:=[.sl (a.1.map NH),.sl (a.2.1.map NH),.fptr (PO a.2.2.1) 0,.fptr (Nx a.2.2.2) 0]
def Qn (ds : List D) : (List Int) × (List Int) × NQ × Int:=((uL uI) (ds.getD 0 .top),(uL uI) (ds.getD 1 .top),VQ (fpD (ds.getD 2 .top)),uI (fpD (ds.getD 3 .top)))
theorem Acg (a : (List Int) × (List Int) × NQ × Int) : Qn (Qo a) = a:=by simp [Qn,Qo,uI,fpD,OY (u:=uI) (en:=NH) (λ_=>rfl)]
instance : Ol Qo Qn:=⟨Acg⟩
def AcQ (b : Bool × (List Int)) : D:=.bool b.1
def AcP (b : Bool × (List Int)) : List D:=[.sl (b.2.map NH)]
def Wu : Dw.Spec:=NJ [(1,(1,30))] .val Qo Qn (λa=>RA a.1 a.2.1 a.2.2.1 a.2.2.2) AcQ AcP
theorem Ach : NG Tryz.prog 86 Wu:=by
 refine fn2 4 (NO (l:=[(88,Afe),(87,Ace)]) (by simp [Akc,Aew])) Tryz.func86<|?_
 rintro ⟨need1,cap2,cap3,cap4⟩
 unfold RA
 refine A 12 ?_
 refine bD λx_x5 hx_x5=>?_
 refine A 2 ?_
 refine bD λr6 hr6=>?_
 refine A 1 ?_
 refine bD λr7 hr7=>?_
 refine A 1 ?_
 refine PM (i:=0) (es':=[.sl (r7.map NH)]) r r r r r r r (by first | trivial | (simp; done) | (simp; omega)) r r r r r r<|?_
 exact B

def Ph (a : Nz × Int × NQ × (List Int) × NQ × Int) : List D:=[NP a.1,Nx a.2.1,.clo 113 [.fptr (PO a.2.2.1) 0],.clo 86 [.sl (a.2.2.2.1.map NH),.fptr (PO a.2.2.2.2.1) 0,.fptr (Nx a.2.2.2.2.2) 0]]
def Pw (ds : List D) : Nz × Int × NQ × (List Int) × NQ × Int:=(QZ (ds.getD 0 .top),uI (ds.getD 1 .top),VQ (fpD (Ajj (ds.getD 2 .top) 0)),(uL uI) (Ajj (ds.getD 3 .top) 0),VQ (fpD (Ajj (ds.getD 3 .top) 1)),uI (fpD (Ajj (ds.getD 3 .top) 2)))
theorem SX (a : Nz × Int × NQ × (List Int) × NQ × Int) : Pw (Ph a) = a:=by simp [Pw,Ph,uI,fpD,Ajj,OY (u:=uI) (en:=NH) (λ_=>rfl)]
instance : Ol Ph Pw:=⟨SX⟩
def YI (b : Bool × (List Int)) : D:=.bool b.1
def YH (b : Bool × (List Int)) : List D:=[.sl (b.2.map NH)]
def QL : Dw.Spec:=NJ [(256,(1,30))] .val Ph Pw (λa=>Pr a.1 a.2.1 a.2.2.1 a.2.2.2.1 a.2.2.2.2.1 a.2.2.2.2.2) YI YH
theorem Yr : NG Tryz.prog 84 QL:=by
 refine fn2 4 (NO (l:=[(111,AiT),(113,AaQ),(112,AiR),(86,Wu)]) (by simp [Anv,AeS,Ant,Ach])) Tryz.func84<|?_
 rintro ⟨f1,k2,set3,visit4,visit5,visit6⟩
 unfold Pr
 refine A 11 ?_
 refine bD λr7 hr7=>?_
 refine A 6 ?_
 refine lP (E:=λ(s : (List Int) × Int) (g : Nat × Nat)=>[(2,.clo 113 [.fptr (.agg [.sl (set3.Out.map (eL NH))]) 0]),(3,.clo 86 [.optr 8448 256 0 0,.fptr (.agg [.sl (visit5.Out.map (eL NH))]) 0,.fptr (Nx visit6) 0]),(4,.optr 4 g.1 0 0),(13,.osl 13 g.2 0 r7.length),(14,Nx (r7.length : Int)),(15,Nx s.2)]) (O:=λs g=>[(4,dV g.1 3 40 (NP f1)),(13,dW g.2 1 3 (r7.map NH)),(8448,dV 256 1 30 (.sl (s.1.map NH)))]) (body:=λs=>OU r7 f1 set3 visit5 visit6 s.1 s.2) (s:=(visit4,0)) (_,_) ((hE ⟨rfl,r,r,r,r,r,trivial⟩ ⟨rfl,r,r,trivial⟩))<|?_
 rintro ⟨x8,x9⟩ ⟨v4x1,v13x1⟩ nn
 try dsimp only
 unfold OU
 exact B

def Aix (b : Int × Int × Bool) : D:=.tup [Nx b.1,Nx b.2.1,.bool b.2.2]
def Adn : Dw.Spec:=NJ [] .ground OQ OO (λa=>UT a.1 a.2) Aix noE
theorem Ahr : NG Tryz.prog 48 Adn:=by
 refine fn2 2 (NO (l:=[(47,Ys),(85,AdO),(1460084820,QL)]) (by simp [Aca,Aiz,Yr])) Tryz.func48<|?_
 rintro ⟨f1,l2⟩
 unfold UT
 refine A 8 ?_
 refine QA (E:=[(2,.optr 2 _ 0 0),(3,.fptr (.agg [.sl (l2.Out.map (eL NH))]) 0)]) (O:=[(2,dV _ 3 40 (NP f1))]) ((AaD (g:=3) r (by first | rfl | (simp [cells,frp,Oh,OK]; done)) (hE ⟨(by first | rfl | (simp [NW,frp]; done) | (simp [NW,frp,Oh]; done) | (simp [NW,frp,Oh,nbq]; done) | (simp [NW,lkO,frp,Oh,frO]; done) | (simp [NW,lkO,frp,Oh,frO]; rfl) | (simp [NW,lkO,frp,Oh,frO,nbq]; done)),(by first | rfl | (simp [NW,frp]; done) | (simp [NW,frp,Oh]; done) | (simp [NW,frp,Oh,nbq]; done) | (simp [NW,lkO,frp,Oh,frO]; done) | (simp [NW,lkO,frp,Oh,frO]; rfl) | (simp [NW,lkO,frp,Oh,frO,nbq]; done)),trivial⟩ ⟨(by first | rfl | (simp [NW,frp]; done) | (simp [NW,frp,Oh]; done) | (simp [NW,frp,Oh,nbq]; done) | (simp [NW,lkO,frp,Oh,frO]; done) | (simp [NW,lkO,frp,Oh,frO]; rfl) | (simp [NW,lkO,frp,Oh,frO,nbq]; done)),trivial⟩))) λnn=>?_
 refine A 5 ?_
 refine bD λr3 hr3=>?_
 refine A 4 ?_
 refine cD r ?_ ?_
 ·exact B
 ·refine A 12 ?_
  refine lP (E:=λ(s : Int) (g : Nat)=>[(2,.optr 2 g 0 0),(3,.fptr (.agg [.sl (l2.Out.map (eL NH))]) 0),(15,Nx (f1.Code.length : Int)),(16,Nx s)]) (O:=λ_ g=>[(2,dV g 3 40 (NP f1))]) (body:=λs=>UU f1 l2 s) (s:=0) _ ((hE ⟨rfl,r,r,r,trivial⟩ ⟨rfl,trivial⟩))<|?_
  rintro x4 v2x1 nn
  try dsimp only
  unfold UU
  refine A 6 ?_
  refine cD r ?_ ?_
  ·refine A 10 ?_
   refine QA (E:=[(2,.optr 2 _ 0 0),(3,.fptr (.agg [.sl (l2.Out.map (eL NH))]) 0),(7,.fptr (Nx x4) 0),(15,Nx (f1.Code.length : Int)),(16,Nx x4)]) (O:=[(2,dV _ 3 40 (NP f1))]) ((AaD (g:=7) r (by first | rfl | (simp [cells,frp,Oh,OK]; done)) (hE ⟨(by first | rfl | (simp [NW,frp]; done) | (simp [NW,frp,Oh]; done) | (simp [NW,frp,Oh,nbq]; done) | (simp [NW,lkO,frp,Oh,frO]; done) | (simp [NW,lkO,frp,Oh,frO]; rfl) | (simp [NW,lkO,frp,Oh,frO,nbq]; done)),(by first | rfl | (simp [NW,frp]; done) | (simp [NW,frp,Oh]; done) | (simp [NW,frp,Oh,nbq]; done) | (simp [NW,lkO,frp,Oh,frO]; done) | (simp [NW,lkO,frp,Oh,frO]; rfl) | (simp [NW,lkO,frp,Oh,frO,nbq]; done)),(by first | rfl | (simp [NW,frp]; done) | (simp [NW,frp,Oh]; done) | (simp [NW,frp,Oh,nbq]; done) | (simp [NW,lkO,frp,Oh,frO]; done) | (simp [NW,lkO,frp,Oh,frO]; rfl) | (simp [NW,lkO,frp,Oh,frO,nbq]; done)),(by first | rfl | (simp [NW,frp]; done) | (simp [NW,frp,Oh]; done) | (simp [NW,frp,Oh,nbq]; done) | (simp [NW,lkO,frp,Oh,frO]; done) | (simp [NW,lkO,frp,Oh,frO]; rfl) | (simp [NW,lkO,frp,Oh,frO,nbq]; done)),(by first | rfl | (simp [NW,frp]; done) | (simp [NW,frp,Oh]; done) | (simp [NW,frp,Oh,nbq]; done) | (simp [NW,lkO,frp,Oh,frO]; done) | (simp [NW,lkO,frp,Oh,frO]; rfl) | (simp [NW,lkO,frp,Oh,frO,nbq]; done)),trivial⟩ ⟨(by first | rfl | (simp [NW,frp]; done) | (simp [NW,frp,Oh]; done) | (simp [NW,frp,Oh,nbq]; done) | (simp [NW,lkO,frp,Oh,frO]; done) | (simp [NW,lkO,frp,Oh,frO]; rfl) | (simp [NW,lkO,frp,Oh,frO,nbq]; done)),trivial⟩))) λnn=>?_
   refine A 10 ?_
   refine bD λr5 hr5=>?_
   refine A 1 ?_
   refine mF (caps:=[.optr 8 _ 0 0,.fptr (.agg [.sl (l2.Out.map (eL NH))]) 0,.fptr (Nx x4) 0]) r r (by simp [Acq])<|bD λr6 hr6=>cV (f1,x4,r5,[],l2,x4) rfl rfl (show _ = some QL from by kernel_rfl) SX rfl rfl (by simp) (by first | rfl | (simp only [Nw]; rfl) | (simp only [NA]; rfl) | (simp only [Nw,NA]; rfl) | simp [Ph,NP,PO,PO]) hr6<|?_
   exact B
  ·exact B

def Aiw (b : Int) : D:=Nx b
def ZJ : Dw.Spec:=NJ [] .ground OQ OO (λa=>Th a.1 a.2) Aiw noE
theorem AcN : NG Tryz.prog 25 ZJ:=by
 refine fn2 2 (NO (l:=[(47,Ys),(48,Adn)]) (by simp [Aca,Ahr])) Tryz.func25<|?_
 intro a
 unfold Th
 exact B

def SV (a : Nz × (List Int)) : List D:=[NP a.1,.sl (a.2.map NH)]
def SU (ds : List D) : Nz × (List Int):=(QZ (ds.getD 0 .top),(uL uI) (ds.getD 1 .top))
theorem Aig (a : Nz × (List Int)) : SU (SV a) = a:=by simp [SU,SV,OY (u:=uI) (en:=NH) (λ_=>rfl)]
instance : Ol SV SU:=⟨Aig⟩
def Ajn (b : Bool) : D:=.bool b
def AdI : Dw.Spec:=NJ [] .ground SV SU (λa=>VW a.1 a.2) Ajn noE
theorem Aih : NG Tryz.prog 49 AdI:=by
 refine fn2 2 (Od) Tryz.func49<|?_
 rintro ⟨f1,to2⟩
 unfold VW
 refine A 17 ?_
 refine cD r ?_ ?_
 ·exact B
 ·refine A 11 ?_
  refine lP (E:=λ(s : Int) (g : Nat)=>[(1,.sl (to2.map NH)),(2,.optr 2 g 0 0),(13,.sl (to2.map NH)),(14,Nx (to2.length : Int)),(15,Nx s)]) (O:=λ_ g=>[(2,dV g 3 40 (NP f1))]) (body:=λs=>VA to2 f1 s) (s:=0) _ ((hE ⟨rfl,r,r,r,r,trivial⟩ ⟨rfl,trivial⟩))<|?_
  rintro x3 v2x1 nn
  try dsimp only
  unfold VA
  exact B

def Ahp (b : Bool) : D:=.bool b
def AcJ : Dw.Spec:=NJ [] .ground PC PA (λa=>WE a) Ahp noE
theorem AgQ : NG Tryz.prog 50 AcJ:=by
 refine fn2 1 (NO (l:=[(56,WD)]) (by simp [ZI])) Tryz.func50<|?_
 intro a
 unfold WE
 exact B

def QV (a : Nz × NM) : List D:=[NP a.1,TL a.2]
def QU (ds : List D) : Nz × NM:=(QZ (ds.getD 0 .top),AaW (ds.getD 1 .top))
theorem AjP (a : Nz × NM) : QU (QV a) = a:=by simp [QU,QV]
instance : Ol QV QU:=⟨AjP⟩
def AkC (b : Int) : D:=Nx b
def AbP : Dw.Spec:=NJ [] .ground QV QU (λa=>UC a.1 a.2) AkC noE
theorem Aeh : NG Tryz.prog 26 AbP:=by
 refine fn2 2 (NO (l:=[(49,AdI),(50,AcJ)]) (by simp [Aih,AgQ])) Tryz.func26<|?_
 rintro ⟨f1,r2⟩
 unfold UC
 refine A 7 ?_
 refine sC (E:=λ(_s : Unit) (g : Nat × Nat)=>[(2,.optr 2 g.1 0 0),(3,.optr 3 g.2 0 0)]) (O:=λ_ g=>[(2,dV g.1 3 40 (NP f1)),(3,dV g.2 2 33 (.agg [.sl (r2.To.map NH),.sl (r2.Keep.map D.bool)]))]) (j:=λ_=>Xe f1 r2) ?_ ?_
 ·exact B
 ·rintro ⟨⟩ ⟨v2x1,v3x1⟩ nn
  try dsimp only
  unfold Xe
  refine A 10 ?_
  refine lP (E:=λ(s : Int) (g : Nat)=>[(3,.optr 3 g 0 0),(22,.sl (f1.Code.map Oo)),(23,Nx (f1.Code.length : Int)),(24,Nx s)]) (O:=λ_ g=>[(3,dV g 2 33 (.agg [.sl (r2.To.map NH),.sl (r2.Keep.map D.bool)]))]) (body:=λs=>Xd f1 r2 s) (s:=0) _ ((hE ⟨rfl,r,r,r,trivial⟩ ⟨rfl,trivial⟩))<|?_
  rintro x4 v3x2 nn
  try dsimp only
  unfold Xd
  exact B

def PR (a : Int × Nz × NM × NQ) : List D:=[Nx a.1,.fptr (NP a.2.1) 0,.fptr (TL a.2.2.1) 0,.fptr (PO a.2.2.2) 0]
def PQ (ds : List D) : Int × Nz × NM × NQ:=(uI (ds.getD 0 .top),QZ (fpD (ds.getD 1 .top)),AaW (fpD (ds.getD 2 .top)),VQ (fpD (ds.getD 3 .top)))
theorem AaH (a : Int × Nz × NM × NQ) : PQ (PR a) = a:=by simp [PQ,PR,uI,fpD]
instance : Ol PR PQ:=⟨AaH⟩
def AaZ (b : Int × Bool) : D:=.tup [Nx b.1,.bool b.2]
def Ur : Dw.Spec:=NJ [] .ground PR PQ (λa=>PG a.1 a.2.1 a.2.2.1 a.2.2.2) AaZ noE
theorem AaK : NG Tryz.prog 55 Ur:=by
 refine fn2 4 (NO (l:=[(56,WD)]) (by simp [ZI])) Tryz.func55<|?_
 rintro ⟨k1,cap2,cap3,cap4⟩
 unfold PG
 refine A 11 ?_
 refine bD λx_x5 hx_x5=>?_
 refine A 9 ?_
 refine bD λr6 hr6=>?_
 refine A 8 ?_
 refine sC (E:=λ(_s : Unit) (_g : Unit)=>[(0,Nx k1),(2,.fptr (.agg [.sl (cap3.To.map NH),.sl (cap3.Keep.map D.bool)]) 0),(3,.fptr (.agg [.sl (cap4.Out.map (eL NH))]) 0),(8,Nx r6.1)]) (O:=λ_ _=>[]) (j:=λ_=>Pg cap4 k1 cap3 r6) ?_ ?_
 ·exact B
 ·rintro ⟨⟩ ⟨⟩ nn
  try dsimp only
  unfold Pg
  refine A 6 ?_
  refine bD λx_x9 hx_x9=>?_
  refine A 7 ?_
  refine lP (E:=λ(s : Int) (_g : Unit)=>[(0,Nx k1),(2,.fptr (.agg [.sl (cap3.To.map NH),.sl (cap3.Keep.map D.bool)]) 0),(8,Nx r6.1),(48,.sl (x_x9.map NH)),(49,Nx (x_x9.length : Int)),(50,Nx s)]) (O:=λ_ _=>[]) (body:=λs=>PW x_x9 cap3 k1 r6 s) (s:=0) () ((hE ⟨rfl,r,r,r,r,r,trivial⟩ trivial))<|?_
  rintro x10 ⟨⟩ nn
  try dsimp only
  unfold PW
  exact B

def AqP : QB:=(.seq (.reg [P 3 (.box (T 0) 3 40),P 4 (.box (T 1) 1 29),P 5 (.box (T 2) 2 33),P 6 (.asg (.c .nilf) none)] false) (.seq (.reg [P 7 (.mkf 55 [(T 3),(T 5),(T 4)]),P 6 (.asg (T 7) none)] false) .ret))
theorem Asp : (Tryz.f29.body.bind (Sy Tryz.prog Tryz.f29.ntmps)) = some AqP:=by kernel_rfl
theorem Asq : Tryz.f29.results.toList.mapM (AcW Tryz.prog) = some [(.t 6)]:=by kernel_rfl

end
end Go.Proofs.YtpagjjmondojpaaGreatDoor
