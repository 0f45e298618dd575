/-
  Programs on typed data, and the proofs that the code does what they say; written by a program (dx.py).
-/
import Derived.Test.YtgebpjgohchohaaProg
import Derived.Test.YtgebpjgohchohaaDd
import Derived.KernelRfl
import Derived.Test.YtgebpjgohchohaaDxP
import Derived.Test.YtgebpjgohchohaaDxF1
import Derived.Test.YtgebpjgohchohaaDxF2
namespace Go.Proofs.Ytgebpjgohchohaa
open Go Go.Dw Go.Proofs
set_option maxRecDepth 100000
set_option maxHeartbeats 40000000
open Go.Dw renaming PE -> bD,OU -> cK,Vy -> cD,Up -> hE,WG -> lP,Vs -> sC,Vz -> bC,rf -> r
def Wy (b : (List Bool)) : D:=.sl (b.map D.bool)
noncomputable def Ul : Dw.Spec:=ON [] (.row 1 4) Ph Pg (λa=>Sc a) Wy noE
theorem Wp : OM Try.prog 17 Ul:=by
 refine fn2 1 (Pe (l:=[(18,Ue)]) (by simp [UX])) Try.func17<|?_
 intro f1
 unfold Sc
 refine A 15 ?_
 refine sC (E:=λ(s : (List Bool)) (g : Nat × Nat)=>[(1,.optr 1 g.1 0 0),(3,.osl 3 g.2 0 s.length)]) (O:=λs g=>[(1,dV g.1 3 27 (OL f1)),(3,dW g.2 1 4 (s.map D.bool))]) (j:=λs=>QO f1 s) ?_ ?_
 ·exact B
 ·rintro out2 ⟨v1x1,v3x1⟩ nn
  try dsimp only
  unfold QO
  refine A 7 ?_
  refine lP (E:=λ(s : (List Bool) × Bool) (g : Nat × Nat)=>[(1,.optr 1 g.1 0 0),(3,.osl 3 g.2 0 s.1.length),(4,.bool s.2)]) (O:=λs g=>[(1,dV g.1 3 27 (OL f1)),(3,dW g.2 1 4 (s.1.map D.bool))]) (body:=λs=>RR f1 s.1 s.2) (s:=(out2,true)) (_,_) ((hE ⟨rfl,r,r,trivial⟩ ⟨rfl,r,trivial⟩))<|?_
  rintro ⟨out4,again5⟩ ⟨v1x2,v3x2⟩ nn
  try dsimp only
  unfold RR
  refine A 6 ?_
  refine cD r ?_ ?_
  ·refine A 14 ?_
   refine lP (E:=λ(s : (List Bool) × Bool × Int) (g : Nat × Nat)=>[(1,.optr 1 g.1 0 0),(3,.osl 3 g.2 0 s.1.length),(4,.bool s.2.1),(5,OH s.2.2)]) (O:=λs g=>[(1,dV g.1 3 27 (OL f1)),(3,dW g.2 1 4 (s.1.map D.bool))]) (body:=λs=>RS f1 s.1 s.2.1 s.2.2) (s:=(out4,false,0)) (_,_) ((hE ⟨rfl,r,r,r,trivial⟩ ⟨rfl,r,trivial⟩))<|?_
   rintro ⟨out6,again7,k8⟩ ⟨v1x3,v3x3⟩ nn
   try dsimp only
   unfold RS
   refine A 10 ?_
   refine cD r ?_ ?_
   ·refine A 2 ?_
    refine bC (E:=λ(s : (List Bool) × Bool) (g : Nat × Nat)=>[(1,.optr 1 g.1 0 0),(3,.osl 3 g.2 0 s.1.length),(4,.bool s.2),(5,OH k8)]) (O:=λs g=>[(1,dV g.1 3 27 (OL f1)),(3,dW g.2 1 4 (s.1.map D.bool))]) (j:=λs=>Qu k8 s.1 s.2) ?_ ?_
    ·refine A 4 ?_
     refine bD λr11 hr11=>?_
     refine A 10 ?_
     refine lP (E:=λ(s : (List Bool) × Bool × Int) (g : Nat × Nat × Nat)=>[(1,.optr 1 g.1 0 0),(3,.osl 3 g.2.1 0 s.1.length),(4,.bool s.2.1),(5,OH k8),(6,.osl 6 g.2.2 0 r11.length),(7,OH s.2.2)]) (O:=λs g=>[(1,dV g.1 3 27 (OL f1)),(3,dW g.2.1 1 4 (s.1.map D.bool)),(6,dW g.2.2 1 3 (r11.map OK))]) (body:=λs=>RT r11 k8 s.1 s.2.1 s.2.2) (s:=(out6,again7,0)) (_,_,_) ((hE ⟨rfl,r,r,r,r,r,trivial⟩ ⟨rfl,r,r,trivial⟩))<|?_
     rintro ⟨out12,again13,i14⟩ ⟨v1x4,v3x4,v6x4⟩ nn
     try dsimp only
     unfold RT
     refine sC (E:=λ(s : Bool) (g : Nat × Nat × Nat)=>[(1,.optr 1 g.1 0 0),(3,.osl 3 g.2.1 0 out12.length),(4,.bool again13),(5,OH k8),(6,.osl 6 g.2.2 0 r11.length),(7,OH i14),(33,.osl 3 g.2.1 0 out12.length),(34,OH k8),(35,.optr 3 g.2.1 k8.toNat 0),(36,.bool s)]) (O:=λ_ g=>[(1,dV g.1 3 27 (OL f1)),(3,dW g.2.1 1 4 (out12.map D.bool)),(6,dW g.2.2 1 3 (r11.map OK))]) (j:=λs=>RU i14 r11 out12 again13 s) ?_ ?_
     ·exact B
     ·rintro x15 ⟨v1x5,v3x5,v6x5⟩ nn
      try dsimp only
      unfold RU
      exact B
    ·rintro ⟨out9,again10⟩ ⟨v1x6,v3x6⟩ nn
     try dsimp only
     unfold Qu
     exact B
   ·exact B
  ·exact B

def WB (b : (List Bool)) : D:=.sl (b.map D.bool)
noncomputable def Um : Dw.Spec:=ON [] (.row 1 4) Rh Rf (λa=>Sd a.1 a.2) WB noE
theorem Wq : OM Try.prog 36 Um:=by
 refine fn2 2 (Pe (l:=[(18,Ue)]) (by simp [UX])) Try.func36<|?_
 rintro ⟨f1,d2⟩
 unfold Sd
 refine A 15 ?_
 refine sC (E:=λ(_s : Unit) (g : Nat × Nat)=>[(1,OH d2),(2,.optr 2 g.1 0 0),(5,.osl 5 g.2 0 ((List.replicate (f1.Code.length : Int).toNat false).length))]) (O:=λ_ g=>[(2,dV g.1 3 27 (OL f1)),(5,dW g.2 1 4 ((List.replicate (f1.Code.length : Int).toNat false).map D.bool))]) (j:=λ_=>Sa f1 d2) ?_ ?_
 ·exact B
 ·rintro ⟨⟩ ⟨v2x1,v5x1⟩ nn
  try dsimp only
  unfold Sa
  refine A 4 ?_
  refine bD λout_o3 hout_o3=>?_
  refine A 10 ?_
  refine lP (E:=λ(s : (List Bool) × Bool) (g : Nat × Nat)=>[(1,OH d2),(2,.optr 2 g.1 0 0),(5,.osl 5 g.2 0 s.1.length),(6,.bool s.2)]) (O:=λs g=>[(2,dV g.1 3 27 (OL f1)),(5,dW g.2 1 4 (s.1.map D.bool))]) (body:=λs=>RY f1 d2 s.1 s.2) (s:=((List.replicate (f1.Code.length : Int).toNat false).set ((0 : Int).toNat) true,true)) (_,_) ((hE ⟨rfl,r,(Wz (q:=(List.replicate (f1.Code.length : Int).toNat false).length) r (by simp)),r,trivial⟩ ⟨rfl,r,trivial⟩))<|?_
  rintro ⟨out4,again5⟩ ⟨v2x2,v5x2⟩ nn
  try dsimp only
  unfold RY
  refine A 6 ?_
  refine cD r ?_ ?_
  ·refine A 14 ?_
   refine lP (E:=λ(s : (List Bool) × Bool × Int) (g : Nat × Nat)=>[(1,OH d2),(2,.optr 2 g.1 0 0),(5,.osl 5 g.2 0 s.1.length),(6,.bool s.2.1),(7,OH s.2.2)]) (O:=λs g=>[(2,dV g.1 3 27 (OL f1)),(5,dW g.2 1 4 (s.1.map D.bool))]) (body:=λs=>RZ f1 d2 s.1 s.2.1 s.2.2) (s:=(out4,false,0)) (_,_) ((hE ⟨rfl,r,r,r,r,trivial⟩ ⟨rfl,r,trivial⟩))<|?_
   rintro ⟨out6,again7,k8⟩ ⟨v2x3,v5x3⟩ nn
   try dsimp only
   unfold RZ
   refine A 10 ?_
   refine cD r ?_ ?_
   ·refine A 2 ?_
    refine bC (E:=λ(s : (List Bool) × Bool) (g : Nat × Nat)=>[(1,OH d2),(2,.optr 2 g.1 0 0),(5,.osl 5 g.2 0 s.1.length),(6,.bool s.2),(7,OH k8)]) (O:=λs g=>[(2,dV g.1 3 27 (OL f1)),(5,dW g.2 1 4 (s.1.map D.bool))]) (j:=λs=>Qv k8 s.1 s.2) ?_ ?_
    ·refine A 4 ?_
     refine bD λr11 hr11=>?_
     refine A 10 ?_
     refine lP (E:=λ(s : (List Bool) × Bool × Int) (g : Nat × Nat × Nat)=>[(1,OH d2),(2,.optr 2 g.1 0 0),(5,.osl 5 g.2.1 0 s.1.length),(6,.bool s.2.1),(7,OH k8),(8,.osl 8 g.2.2 0 r11.length),(9,OH s.2.2)]) (O:=λs g=>[(2,dV g.1 3 27 (OL f1)),(5,dW g.2.1 1 4 (s.1.map D.bool)),(8,dW g.2.2 1 3 (r11.map OK))]) (body:=λs=>QP r11 k8 d2 s.1 s.2.1 s.2.2) (s:=(out6,again7,0)) (_,_,_) ((hE ⟨rfl,r,r,r,r,r,r,trivial⟩ ⟨rfl,r,r,trivial⟩))<|?_
     rintro ⟨out12,again13,i14⟩ ⟨v2x4,v5x4,v8x4⟩ nn
     try dsimp only
     unfold QP
     refine sC (E:=λ(s : Bool) (g : Nat × Nat × Nat)=>[(1,OH d2),(2,.optr 2 g.1 0 0),(5,.osl 5 g.2.1 0 out12.length),(6,.bool again13),(7,OH k8),(8,.osl 8 g.2.2 0 r11.length),(9,OH i14),(40,.osl 5 g.2.1 0 out12.length),(41,OH k8),(42,.optr 5 g.2.1 k8.toNat 0),(43,.bool s)]) (O:=λ_ g=>[(2,dV g.1 3 27 (OL f1)),(5,dW g.2.1 1 4 (out12.map D.bool)),(8,dW g.2.2 1 3 (r11.map OK))]) (j:=λs=>Sb i14 r11 d2 out12 again13 s) ?_ ?_
     ·exact B
     ·rintro x15 ⟨v2x5,v5x5,v8x5⟩ nn
      try dsimp only
      unfold Sb
      refine A 2 ?_
      refine sC (E:=λ(s : Bool) (g : Nat × Nat × Nat)=>[(1,OH d2),(2,.optr 2 g.1 0 0),(5,.osl 5 g.2.1 0 out12.length),(6,.bool again13),(7,OH k8),(8,.osl 8 g.2.2 0 r11.length),(9,OH i14),(40,.osl 5 g.2.1 0 out12.length),(41,OH k8),(42,.optr 5 g.2.1 k8.toNat 0),(43,.bool x15),(62,.bool s)]) (O:=λ_ g=>[(2,dV g.1 3 27 (OL f1)),(5,dW g.2.1 1 4 (out12.map D.bool)),(8,dW g.2.2 1 3 (r11.map OK))]) (j:=λs=>PR i14 r11 out12 again13 s) ?_ ?_
      ·exact B
      ·rintro x17 ⟨v2x6,v5x6,v8x6⟩ nn
       try dsimp only
       unfold PR
       exact B
    ·rintro ⟨out9,again10⟩ ⟨v2x7,v5x7⟩ nn
     try dsimp only
     unfold Qv
     exact B
   ·exact B
  ·exact B

def VX (b : (List (List Bool))) : D:=.sl (b.map (eL D.bool))
noncomputable def TU : Dw.Spec:=ON [] .val Ph Pg (λa=>Ry a) VX noE
theorem Vv : OM Try.prog 21 TU:=by
 refine fn2 1 (Pe (l:=[(17,Ul),(36,Um)]) (by simp [Wp,Wq])) Try.func21<|?_
 intro f1
 unfold Ry
 refine A 9 ?_
 refine bD λr2 hr2=>?_
 refine A 9 ?_
 refine cK λhq=>NF (α:=Bool) r r r hq r<|?_
 refine A 2 ?_
 refine RO (E:=[(1,.optr 1 _ 0 0),(3,.osl 3 _ 0 r2.length),(4,.osl 4100 _ 0 ((List.replicate (f1.Code.length : Int).toNat ([] : (List Bool))).length))]) (O:=[(1,dV _ 3 27 (OL f1)),(3,dW _ 1 4 (r2.map D.bool)),(4100,dW _ 1 36 ((List.replicate (f1.Code.length : Int).toNat ([] : (List Bool))).map (eR 1 4 D.bool)))]) ((WL (g:=4) (g2:=4100) r r r (Of (l:=List.replicate (f1.Code.length : Int).toNat ([] : (List Bool))) (s':=1) (ty':=4) D.bool (by decide) (λ_ h=>List.eq_of_mem_replicate h)) (hE ⟨rfl,r,r,trivial⟩ ⟨rfl,r,r,trivial⟩))) λnn=>?_
 refine A 7 ?_
 refine lP (E:=λ(s : (List (List Bool)) × Int) (g : Nat × Nat × Nat)=>[(1,.optr 1 g.1 0 0),(3,.osl 3 g.2.1 0 r2.length),(4,.osl 4100 g.2.2 0 s.1.length),(5,OH s.2)]) (O:=λs g=>[(1,dV g.1 3 27 (OL f1)),(3,dW g.2.1 1 4 (r2.map D.bool)),(4100,dW g.2.2 1 36 (s.1.map (eR 1 4 D.bool)))]) (body:=λs=>Rz f1 r2 s.1 s.2) (s:=(List.replicate (f1.Code.length : Int).toNat ([] : (List Bool)),0)) (_,_,_) ((hE ⟨rfl,r,r,r,trivial⟩ ⟨rfl,r,r,trivial⟩))<|?_
 rintro ⟨out3,d4⟩ ⟨v1x1,v3x1,v4100x1⟩ nn
 try dsimp only
 unfold Rz
 refine A 10 ?_
 refine cD r ?_ ?_
 ·refine A 2 ?_
  refine bC (E:=λ(s : (List (List Bool))) (g : Nat × Nat × Nat)=>[(1,.optr 1 g.1 0 0),(3,.osl 3 g.2.1 0 r2.length),(4,.osl 4100 g.2.2 0 s.length),(5,OH d4)]) (O:=λs g=>[(1,dV g.1 3 27 (OL f1)),(3,dW g.2.1 1 4 (r2.map D.bool)),(4100,dW g.2.2 1 36 (s.map (eR 1 4 D.bool)))]) (j:=λs=>RB d4 s) ?_ ?_
  ·refine A 4 ?_
   refine bD λr6 hr6=>?_
   refine A 13 ?_
   refine bD λo7 ho7=>NG (l:=out3) (q:=o7) (q':=List.replicate (f1.Code.length : Int).toNat false) D.bool rfl rfl rfl rfl (.inl rfl) ho7 rfl rfl ⟨⟨rfl,rfl,by simp,KG λ_=>rfl⟩,trivial,rfl⟩ (congrArg (λz=>[D.row _ _ z]) (PY _ _ rfl)) rfl<|?_
   refine A 8 ?_
   refine lP (E:=λ(s : (List (List Bool)) × Int) (g : Nat × Nat × Nat × Nat)=>[(1,.optr 1 g.1 0 0),(3,.osl 3 g.2.1 0 r2.length),(4,.osl 4100 g.2.2.2 0 s.1.length),(5,OH d4),(6,.osl 6 g.2.2.1 0 r6.length),(7,OH s.2)]) (O:=λs g=>[(1,dV g.1 3 27 (OL f1)),(3,dW g.2.1 1 4 (r2.map D.bool)),(6,dW g.2.2.1 1 4 (r6.map D.bool)),(4100,dW g.2.2.2 1 36 (s.1.map (eR 1 4 D.bool)))]) (body:=λs=>RA f1 d4 r2 r6 s.1 s.2) (s:=(out3.set d4.toNat (List.replicate (f1.Code.length : Int).toNat false),0)) (_,_,_,_) ((hE ⟨rfl,r,(Wz (q:=out3.length) r (by simp)),r,r,r,trivial⟩ ⟨rfl,r,r,r,trivial⟩))<|?_
   rintro ⟨out8,k9⟩ ⟨v1x2,v3x2,v6x2,v4100x2⟩ nn
   try dsimp only
   unfold RA
   refine A 10 ?_
   refine cD r ?_ ?_
   ·refine A 8 ?_
    refine bD λout_e10 hout_e10=>Oe (q:=out_e10) D.bool r r r hout_e10<|?_
    refine A 4 ?_
    refine bD λreached_e11 hreached_e11=>?_
    refine A 2 ?_
    refine UB r ?_ ?_
    ·refine A 3 ?_
     refine bD λw_e12 hw_e12=>?_
     refine A 4 ?_
     refine bD λx_o13 hx_o13=>VS (l:=out_e10) (en:=D.bool) (q:=x_o13) (q':=(!w_e12)) r r r r r hx_o13 r (λ_=>r) r r r ⟨trivial,trivial,r⟩<|?_
     refine A 2 ?_
     refine RO (E:=[(1,.optr 1 _ 0 0),(3,.osl 3 _ 0 r2.length),(4,.osl 4100 _ 0 out8.length),(5,OH d4),(6,.osl 6 _ 0 r6.length),(7,OH k9),(48,.osl 6 _ 0 r6.length),(49,OH k9),(50,.optr 6 _ k9.toNat 0),(51,.bool w_e12),(52,.bool (!w_e12))]) (O:=[(1,dV _ 3 27 (OL f1)),(3,dW _ 1 4 (r2.map D.bool)),(6,dW _ 1 4 (r6.map D.bool)),(4100,dW _ 1 36 ((out8.set d4.toNat (out_e10.set k9.toNat (!w_e12))).map (eR 1 4 D.bool)))]) ((JO (g:=4100) (g':=4137) (l:=out8) (en:=D.bool) (i:=d4.toNat) (q:=out_e10) (q':=out_e10.set k9.toNat (!w_e12)) hout_e10 r r (by simp) (λ_=>r) (hE ⟨rfl,r,(Wz (q:=out8.length) r (by simp)),r,r,r,r,r,r,r,r,trivial⟩ ⟨rfl,r,r,r,trivial⟩))) λnn=>?_
     exact B
    ·refine A 7 ?_
     refine bD λx_o14 hx_o14=>VS (l:=out_e10) (en:=D.bool) (q:=x_o14) (q':=false) r r r r r hx_o14 r (λ_=>r) r r r ⟨trivial,trivial,r⟩<|?_
     refine A 2 ?_
     refine RO (E:=[(1,.optr 1 _ 0 0),(3,.osl 3 _ 0 r2.length),(4,.osl 4100 _ 0 out8.length),(5,OH d4),(6,.osl 6 _ 0 r6.length),(7,OH k9)]) (O:=[(1,dV _ 3 27 (OL f1)),(3,dW _ 1 4 (r2.map D.bool)),(6,dW _ 1 4 (r6.map D.bool)),(4100,dW _ 1 36 ((out8.set d4.toNat (out_e10.set k9.toNat false)).map (eR 1 4 D.bool)))]) ((JO (g:=4100) (g':=4137) (l:=out8) (en:=D.bool) (i:=d4.toNat) (q:=out_e10) (q':=out_e10.set k9.toNat false) hout_e10 r r (by simp) (λ_=>r) (hE ⟨rfl,r,(Wz (q:=out8.length) r (by simp)),r,r,r,trivial⟩ ⟨rfl,r,r,r,trivial⟩))) λnn=>?_
     exact B
   ·exact B
  ·rintro out5 ⟨v1x3,v3x3,v4100x3⟩ nn
   try dsimp only
   unfold RB
   exact B
 ·refine A 4 ?_
  refine RO (E:=[(4,.osl 4100 _ 0 out3.length)]) (O:=[(4100,dW _ 1 36 (out3.map (eL D.bool)))]) ((NY (g:=4100) r (Oh (l:=out3) D.bool (λ_=>r)) (hE ⟨rfl,trivial⟩ ⟨rfl,trivial⟩))) λnn=>?_
  exact B

def Pk (a : (List Int)) : List D:=[.sl (a.map eU8)]
def Pj (ds : List D) : (List Int):=(uL uI) (ds.getD 0 .top)
theorem QB (a : (List Int)) : Pj (Pk a) = a:=by simp [Pj,Pk,QY (u:=uI) (en:=eU8) (λ_=>rfl)]
instance : PZ Pk Pj:=⟨QB⟩
def SB (b : Bool) : D:=.bool b
noncomputable def SC : Dw.Spec:=ON [] .ground Pk Pj (λa=>Pw a) SB noE
theorem Sp : OM Try.prog 7 SC:=by
 refine fn2 1 (Pe (l:=[(8,UU),(9,Uc),(19,SI),(13,SP),(21,TU)]) (by simp [WO,VR,Ui,TR,Vv])) Try.func7<|?_
 intro codes1
 unfold Pw
 refine A 8 ?_
 refine bD λr2 hr2=>?_
 refine A 4 ?_
 refine cD r ?_ ?_
 ·exact B
 ·refine A 5 ?_
  refine bD λr3 hr3=>?_
  refine A 8 ?_
  refine bD λr4 hr4=>?_
  refine A 2 ?_
  refine bD λr5 hr5=>?_
  refine A 8 ?_
  refine bD λr6 hr6=>?_
  refine A 4 ?_
  refine sC (E:=λ(_s : Unit) (g : Nat × Nat × Nat)=>[(3,.optr 3 g.1 0 0),(4,.osl 4 g.2.1 0 r4.length),(5,.osl 5 g.2.2 0 r5.length),(6,.sl (r6.map (eL D.bool)))]) (O:=λ_ g=>[(3,dV g.1 3 27 (OL r3)),(4,dW g.2.1 1 3 (r4.map OK)),(5,dW g.2.2 1 3 (r5.map OK))]) (j:=λ_=>Po r3 r4 r5 r6) ?_ ?_
  ·exact B
  ·rintro ⟨⟩ ⟨v3x1,v4x1,v5x1⟩ nn
   try dsimp only
   unfold Po
   refine A 7 ?_
   refine lP (E:=λ(s : Int) (g : Nat × Nat × Nat)=>[(3,.optr 3 g.1 0 0),(4,.osl 4 g.2.1 0 r4.length),(5,.osl 5 g.2.2 0 r5.length),(6,.sl (r6.map (eL D.bool))),(7,OH s)]) (O:=λ_ g=>[(3,dV g.1 3 27 (OL r3)),(4,dW g.2.1 1 3 (r4.map OK)),(5,dW g.2.2 1 3 (r5.map OK))]) (body:=λs=>OW r3 r4 r5 r6 s) (s:=0) (_,_,_) ((hE ⟨rfl,r,r,r,r,trivial⟩ ⟨rfl,r,r,trivial⟩))<|?_
   rintro k7 ⟨v3x2,v4x2,v5x2⟩ nn
   try dsimp only
   unfold OW
   refine A 10 ?_
   refine cD r ?_ ?_
   ·refine A 5 ?_
    refine sC (E:=λ(s : Bool) (g : Nat × Nat × Nat)=>[(3,.optr 3 g.1 0 0),(4,.osl 4 g.2.1 0 r4.length),(5,.osl 5 g.2.2 0 r5.length),(6,.sl (r6.map (eL D.bool))),(7,OH k7),(39,.bool s)]) (O:=λ_ g=>[(3,dV g.1 3 27 (OL r3)),(4,dW g.2.1 1 3 (r4.map OK)),(5,dW g.2.2 1 3 (r5.map OK))]) (j:=λs=>OP k7 r4 r3 r5 r6 s) ?_ ?_
    ·exact B
    ·rintro x8 ⟨v3x3,v4x3,v5x3⟩ nn
     try dsimp only
     unfold OP
     exact B
   ·exact B

end Go.Proofs.Ytgebpjgohchohaa
