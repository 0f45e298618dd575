/-
  Programs on typed data, and the proofs that the code does what they say; written by a program (dx.py).
-/
import Derived.Test.YtgebpjgohchohaaProg
import Derived.Test.YtgebpjgohchohaaDd
import Derived.KernelRfl
import Derived.Test.YtgebpjgohchohaaDxP
import Derived.Test.YtgebpjgohchohaaDxF1
import Derived.Test.YtgebpjgohchohaaDxF2
namespace Go.Proofs.Ytgebpjgohchohaa
open Go Go.Dw Go.Proofs
set_option maxRecDepth 100000
set_option maxHeartbeats 40000000
open Go.Dw renaming PE -> bD,Vn -> bS,Vy -> cD,Up -> hE,WG -> lP,Vs -> sC,Vz -> bC,rf -> r
def WJ (b : (List OK)) : D:=.sl (b.map Qa)
noncomputable def US : Dw.Spec:=ON [] (.row 2 35) Pj Ph (λa=>SF a) WJ noE
theorem Wt : OM Try.prog 16 US:=by
 refine fn2 1 (Pe (l:=[(14,UT),(18,Tp)]) (by simp [Wv,Uv])) Try.func16<|?_
 intro f1
 unfold SF
 refine A 9 ?_
 refine bD λr2 hr2=>?_
 refine A 16 ?_
 refine lP (E:=λ(s : (List OK) × Int) (g : Nat × Nat × Nat)=>[(1,.optr 1 g.1 0 0),(3,.osl 3 g.2.1 0 r2.length),(4,.osl 4 g.2.2 0 s.1.length),(5,OH s.2)]) (O:=λs g=>[(1,dV g.1 3 27 (OQ f1)),(3,dW g.2.1 1 3 (r2.map OJ)),(4,dW g.2.2 2 35 (s.1.map Qa))]) (body:=λs=>Sf f1 r2 s.1 s.2) (s:=(([] : List OK),0)) (_,_,_) ((hE ⟨rfl,r,r,r,trivial⟩ ⟨rfl,r,r,trivial⟩))<|?_
 rintro ⟨out3,k4⟩ ⟨v1x1,v3x1,v4x1⟩ nn
 try dsimp only
 unfold Sf
 refine A 10 ?_
 refine cD r ?_ ?_
 ·refine A 2 ?_
  refine bC (E:=λ(s : (List OK)) (g : Nat × Nat × Nat)=>[(1,.optr 1 g.1 0 0),(3,.osl 3 g.2.1 0 r2.length),(4,.osl 4 g.2.2 0 s.length),(5,OH k4)]) (O:=λs g=>[(1,dV g.1 3 27 (OQ f1)),(3,dW g.2.1 1 3 (r2.map OJ)),(4,dW g.2.2 2 35 (s.map Qa))]) (j:=λs=>Sg k4 s) ?_ ?_
  ·refine A 4 ?_
   refine bD λr6 hr6=>?_
   refine A 10 ?_
   refine lP (E:=λ(s : (List OK) × Int) (g : Nat × Nat × Nat × Nat)=>[(1,.optr 1 g.1 0 0),(3,.osl 3 g.2.1 0 r2.length),(4,.osl 4 g.2.2.1 0 s.1.length),(5,OH k4),(6,.osl 6 g.2.2.2 0 r6.length),(7,OH s.2)]) (O:=λs g=>[(1,dV g.1 3 27 (OQ f1)),(3,dW g.2.1 1 3 (r2.map OJ)),(4,dW g.2.2.1 2 35 (s.1.map Qa)),(6,dW g.2.2.2 1 3 (r6.map OJ))]) (body:=λs=>Rz r6 k4 r2 s.1 s.2) (s:=(out3,0)) (_,_,_,_) ((hE ⟨rfl,r,r,r,r,r,trivial⟩ ⟨rfl,r,r,r,trivial⟩))<|?_
   rintro ⟨out7,i8⟩ ⟨v1x2,v3x2,v4x2,v6x2⟩ nn
   try dsimp only
   unfold Rz
   refine A 9 ?_
   refine cD r ?_ ?_
   ·refine A 4 ?_
    refine sC (E:=λ(s : Bool) (g : Nat × Nat × Nat × Nat)=>[(1,.optr 1 g.1 0 0),(3,.osl 3 g.2.1 0 r2.length),(4,.osl 4 g.2.2.1 0 out7.length),(5,OH k4),(6,.osl 6 g.2.2.2 0 r6.length),(7,OH i8),(44,.bool s)]) (O:=λ_ g=>[(1,dV g.1 3 27 (OQ f1)),(3,dW g.2.1 1 3 (r2.map OJ)),(4,dW g.2.2.1 2 35 (out7.map Qa)),(6,dW g.2.2.2 1 3 (r6.map OJ))]) (j:=λs=>Qb i8 r6 out7 k4 s) ?_ ?_
    ·exact B
    ·rintro x9 ⟨v1x3,v3x3,v4x3,v6x3⟩ nn
     try dsimp only
     unfold Qb
     refine cD r ?_ ?_
     ·refine A 6 ?_
      refine bD λl_e14 hl_e14=>?_
      refine A 2 ?_
      refine bS ([(OK.mk k4 l_e14)] : List OK) Qa r r r (by simp) r r r<|?_
      exact B
     ·exact B
   ·exact B
  ·rintro out5 ⟨v1x4,v3x4,v4x4⟩ nn
   try dsimp only
   unfold Sg
   exact B
 ·exact B

def Qf (a : (List Int)) : List D:=[.sl (a.map eU8)]
def Qe (ds : List D) : (List Int):=(uL uI) (ds.getD 0 .top)
theorem RZ (a : (List Int)) : Qe (Qf a) = a:=by simp [Qe,Qf,QY (u:=uI) (en:=eU8) (λ_=>rfl)]
instance : PZ Qf Qe:=⟨RZ⟩
def TZ (b : Bool) : D:=.bool b
noncomputable def Ua : Dw.Spec:=ON [] .ground Qf Qe (λa=>QM a) TZ noE
theorem TL : OM Try.prog 4 Ua:=by
 refine fn2 1 (Pe (l:=[(8,Uu),(9,Tl),(15,Tn),(16,US)]) (by simp [VX,Vm,Vq,Wt])) Try.func4<|?_
 intro codes1
 unfold QM
 refine A 8 ?_
 refine bD λr2 hr2=>?_
 refine A 4 ?_
 refine cD r ?_ ?_
 ·exact B
 ·refine A 5 ?_
  refine bD λr3 hr3=>?_
  refine A 8 ?_
  refine bD λr4 hr4=>?_
  refine A 2 ?_
  refine bD λr5 hr5=>?_
  refine A 15 ?_
  refine cD r ?_ ?_
  ·exact B
  ·refine A 9 ?_
   refine lP (E:=λ(s : Int) (g : Nat × Nat)=>[(4,.osl 4 g.1 0 r4.length),(5,.osl 5 g.2 0 r5.length),(6,OH s)]) (O:=λ_ g=>[(4,dW g.1 2 35 (r4.map Qa)),(5,dW g.2 2 35 (r5.map Qa))]) (body:=λs=>Qr r4 r5 s) (s:=0) (_,_) ((hE ⟨rfl,r,r,trivial⟩ ⟨rfl,r,trivial⟩))<|?_
   rintro i6 ⟨v4x1,v5x1⟩ nn
   try dsimp only
   unfold Qr
   exact B

end Go.Proofs.Ytgebpjgohchohaa
