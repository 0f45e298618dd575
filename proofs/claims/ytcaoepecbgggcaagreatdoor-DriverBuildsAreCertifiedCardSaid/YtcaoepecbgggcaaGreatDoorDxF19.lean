/-
 The code does what its typed programs say.
-/
import Derived.Test.YtcaoepecbgggcaaGreatDoorDxF10
import Derived.Test.YtcaoepecbgggcaaGreatDoorDxF11
import Derived.Test.YtcaoepecbgggcaaGreatDoorDxF14
import Derived.Test.YtcaoepecbgggcaaGreatDoorDxF15
namespace Go.Proofs.YtcaoepecbgggcaaGreatDoor
open Go Go.Dw Go.Proofs
set_option maxRecDepth 100000
set_option maxHeartbeats 40000000
open Go.Dw renaming OO -> bD,TR -> bS,Qs -> cD,Rp -> xC,PY -> xL,QS -> lP,PQ -> sC,rf -> r
abbrev Ahb:=en3 Oh Av Av
abbrev Aha:=de3 Rq uI uI
def AbF (b:Nv×Mk):D:=PJ b.1
def AiQ (b:Nv×Mk):List D:=[Oh b.2]
theorem AhC:Nr Tryz.prog 30 (NO [(0,(2,114))] .val Ahb Aha (λa=>Wh a.1 a.2.1 a.2.2) AbF AiQ):=by
 refine fn2 3 (nK 22 OK<|nK 73 Ahf<|Np) Tryz.func30<|?_;rintro⟨e,f,b⟩;unfold Wh;refine Ab 16 λh i=>?_
 refine A 5 ?_;refine lP (E:=λ(s:(List Int)×Int×(List Int)×Int) (g:Nat×Nat)=>[(0,.optr 8192 0 0 0),oI 2 b,oP 6 g.1,oT 7 g.2 s.2.2.1,oI 8 s.2.2.2]) (O:=λs g=>[(6,dV g.1 1 28 (.agg [.nils])),(7,dW g.2 1 3 (s.2.2.1.map Av)),(8192,dV 0 2 114 (.agg [.sl (s.1.map eU8),Nm s.2.1]))]) (_,_) hX<|?_
 rintro⟨c5,j,c,k⟩ ⟨m,o⟩ nn;dsimp only[Abi];refine Ac 7 ?_ ?_
 ·exact B
 ·refine A 17 ?_;refine lP (E:=λ(s:(List Int)×Int×(List Nn)×Int×(List Int)) (g:Nat×Nat)=>[(0,.optr 8192 0 0 0),oI 2 b,oP 6 g.1,oM 7 s.2.2.2.2 Av,oP 9 g.2,oI 10 s.2.2.2.1]) (O:=λs g=>[(6,dV g.1 1 28 (.agg [.nils])),(9,dV g.2 1 28 (.agg [.sl (s.2.2.1.map Nz)])),(8192,dV 0 2 114 (.agg [.sl (s.1.map eU8),Nm s.2.1]))]) (_,_) ((WI [(7,some (_,⟨true,false,1,3,c.map Av⟩))] ⟨⟨_,_,r,r,r⟩,trivial⟩ ⟨(NY r),(NY r),(NY r),(AdG (We (l:=c) (en:=Av) r r r (by first|(simp;done)|rfl|(simp;rfl)))),(NY r),(NY r),trivial⟩ ⟨(.inl r),(.inr ⟨_,_,_,_,r,r,r,r,Vq r ⟨(Vd Nz r),trivial⟩⟩),(.inl r),trivial⟩))<|?_
  rintro⟨p,q,t,u,v⟩ ⟨x,z⟩ nn;dsimp only[Xj];refine Ac 9 ?_ ?_
  ·refine Ab 13 λd aa=>?_
   refine A 1 ?_;refine bS ([d.1]:List Nn) Nz r r r (by simp) r r r<|?_
   refine A 16 ?_;exact wf [11] λ_=>B
  ·exact B

abbrev Abh:=en2 Oh PJ
abbrev Abg:=de2 Rq Rr
def Ajz (b:Nv×Mk):List D:=[Oh b.2]
theorem AiO:Nr Tryz.prog 36 (NO [(0,(2,114))] .val Abh Abg (λa=>UH a.1 a.2) AbF Ajz):=by
 refine fn2 2 (nK 22 OK<|nK 85 Anj<|nK 35 Aem<|Np) Tryz.func36<|?_;rintro⟨c,d⟩;unfold UH;refine Ab 12 λe f=>?_
 refine Ab 9 λg h=>?_
 refine Ab 12 λb i=>?_
 refine A 2 ?_;refine bS ([(Lo.mk 22 b.1 0 0 0)]:List Lo) NG r r r (by simp) r r r<|?_
 exact B

theorem AoL:Nr Tryz.prog 129 (fS .ground Ajf (λa=>AaF a.1 a.2) NF):=by
 refine fn2 2 (nK 193 AoK<|nK 130 Vk<|Np) Tryz.func129<|?_;rintro⟨c,b⟩;unfold AaF;refine A 5 ?_;refine sC (E:=λ(_s:Unit) (_g:Unit)=>[oM 1 b Av]) (O:=λ_ _=>[]) (j:=λ_=>ZT b) ?_ ?_
 ·exact B
 ·rintro⟨⟩ ⟨⟩ nn;dsimp only[ZT];refine A 7 ?_;refine lP (E:=λ(s:Int) (_g:Unit)=>[oM 1 b Av,oI 5 s]) (O:=λ_ _=>[]) () hX<|?_
  rintro d ⟨⟩ nn;dsimp only[Ain];exact B

theorem AoM:Nr Tryz.prog 71 (fS .ground RR (λa=>AaG a.1 a.2.1 a.2.2) Nq):=by
 refine fn2 3 (nK 129 AoL<|nK 130 Vk<|nK 72 Ajt<|Np) Tryz.func71<|?_;rintro⟨b,c,d⟩;unfold AaG;refine A 5 ?_;refine sC (E:=λ(_s:Unit) (_g:Unit)=>[(0,.sl (b.map (eL Av))),oM 1 c Av,oM 2 d Av]) (O:=λ_ _=>[]) (j:=λ_=>AcZ d b c) ?_ ?_
 ·exact B
 ·rintro⟨⟩ ⟨⟩ nn;dsimp only[AcZ];refine A 7 ?_;refine lP (E:=λ(s:Int) (_g:Unit)=>[(0,.sl (b.map (eL Av))),oM 1 c Av,oM 2 d Av,oI 7 s]) (O:=λ_ _=>[]) () hX<|?_
  rintro e ⟨⟩ nn;dsimp only[AcY];refine Ac 9 ?_ ?_
  ·exact B
  ·refine A 12 ?_;refine lP (E:=λ(s:Int) (_g:Unit)=>[(0,.sl (b.map (eL Av))),oM 1 c Av,oM 2 d Av,oI 8 s]) (O:=λ_ _=>[]) () hX<|?_
   rintro f ⟨⟩ nn;dsimp only[Aio];exact B

theorem AoN:Nr Tryz.prog 28 (fS .ground RR (λa=>AaH a.1 a.2.1 a.2.2) NF):=by
 refine fn2 3 (nK 71 AoM<|nK 72 Ajt<|Np) Tryz.func28<|?_;rintro⟨b,c,d⟩;unfold AaH;refine Ab 11 λe f=>?_
 refine Ac 4 ?_ ?_
 ·exact B
 ·refine A 9 ?_;refine lP (E:=λ(s:Int) (_g:Unit)=>[(0,.sl (b.map (eL Av))),oM 1 c Av,oM 2 d Av,oI 7 s]) (O:=λ_ _=>[]) () hX<|?_
  rintro g ⟨⟩ nn;dsimp only[Ada];exact B

end Go.Proofs.YtcaoepecbgggcaaGreatDoor
