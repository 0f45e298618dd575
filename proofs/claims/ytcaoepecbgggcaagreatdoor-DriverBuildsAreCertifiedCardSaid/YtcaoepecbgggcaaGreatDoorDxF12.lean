/-
 The code does what its typed programs say.
-/
import Derived.Test.YtcaoepecbgggcaaGreatDoorDxF4
import Derived.Test.YtcaoepecbgggcaaGreatDoorDxF5
namespace Go.Proofs.YtcaoepecbgggcaaGreatDoor
open Go Go.Dw Go.Proofs
set_option maxRecDepth 100000
set_option maxHeartbeats 40000000
open Go.Dw renaming OO -> bD,TR -> bS,Tg -> cG,Qs -> cD,Rp -> xC,PY -> xL,QS -> lP,PQ -> sC,RQ -> bC,rf -> r
abbrev WV:=en1 Xl
abbrev Aeo:=de1 XC
noncomputable def Agl:Dw.Spec:=NO [] (.row 1 3) WV Aeo (λa=>Yd a) Oj noE
theorem Aml:Nr Tryz.prog 113 Agl:=by
 refine fn2 1 (Np) Tryz.func113<|?_;intro a;unfold Yd;refine A 21 ?_;refine lP (E:=λ(s:(List Int)×Int) (g:Nat)=>[oT 3 g s.1,oM 7 a.Frames NW,oL 8 a.Frames,oI 9 s.2]) (O:=λs g=>[(3,dW g 1 3 (s.1.map Av))]) _ hX<|?_
 rintro⟨b,c⟩ d nn;dsimp only[Afe];exact B

theorem AlG:Nr Tryz.prog 270 (fS (.row 1 3) QY (λa=>Px a) Oj):=by
 refine fn2 1 (Np) Tryz.func270<|?_;intro b;unfold Px;refine A 8 ?_;refine sC (E:=λ(s:Bool) (g:Nat)=>[oP 1 g,oB 3 s]) (O:=λ_ g=>[(1,dV g 5 90 (NG b))]) (j:=λs=>OJ b s) ?_ ?_
 ·exact B
 ·rintro c d nn;dsimp only[OJ];refine cD r ?_ ?_
  ·refine A 8 ?_;refine bS ([b.A,b.B,b.C]:List Int) Av r r r (by simp) r r r<|?_
   exact B
  ·refine sC (E:=λ(s:Bool) (g:Nat)=>[oP 1 g,oB 19 s]) (O:=λ_ g=>[(1,dV g 5 90 (NG b))]) (j:=λs=>ON b s) ?_ ?_
   ·exact B
   ·rintro e f nn;dsimp only[ON];refine cD r ?_ ?_
    ·refine A 6 ?_;refine bS ([b.A,b.B]:List Int) Av r r r (by simp) r r r<|?_
     exact B
    ·refine sC (E:=λ(s:Bool) (g:Nat)=>[oP 1 g,oB 31 s]) (O:=λ_ g=>[(1,dV g 5 90 (NG b))]) (j:=λs=>Ou b s) ?_ ?_
     ·exact B
     ·rintro h i nn;dsimp only[Ou];exact B

abbrev AiU:=en2 Qb NG
abbrev Atk:=de2 WO RD
theorem AjN:Nr Tryz.prog 243 (fS .ground AiU (λa=>OM a.1 a.2) Nq):=by
 refine fn2 2 (nK 244 AcG<|nK 269 Aoo<|nK 270 AlG<|nK 1114345 WN<|nK 272 AhP<|nK 209 Ajx<|nK 273 ApF<|nK 274 Aom<|nK 263 Afh<|Np) Tryz.func243<|?_;rintro⟨b,c⟩;unfold OM;refine A 7 ?_;refine sC (E:=λ(_s:Unit) (g:Nat×Nat)=>[oP 2 g.1,oP 3 g.2]) (O:=λ_ g=>[(2,dV g.1 5 200 (Qb b)),(3,dV g.2 5 90 (NG c))]) (j:=λ_=>OC c b) ?_ ?_
 ·exact B
 ·rintro⟨⟩ ⟨f,h⟩ nn;dsimp only[OC];refine Ab 4 λi k=>?_
  refine Ac 3 ?_ ?_
  ·exact B
  ·refine A 2 ?_;refine sC (E:=λ(_s:Unit) (g:Nat×Nat)=>[oP 2 g.1,oP 3 g.2]) (O:=λ_ g=>[(2,dV g.1 5 200 (Qb b)),(3,dV g.2 5 90 (NG c))]) (j:=λ_=>Oq c b) ?_ ?_
   ·refine Ab 3 λd l=>?_
    refine A 1 ?_;refine bD λm e=>cG d rfl rfl (show _=some Sr from by kernel_rfl) OW.ok rfl rfl (by simp) (by first|rfl|(simp only[Nu];rfl)|(simp only[Nx];rfl)|(simp only[Nu,Nx];rfl)|simp[Pb]) e r<|?_
    exact B
   ·rintro⟨⟩ ⟨o,p⟩ nn;dsimp only[Oq];refine sC (E:=λ(_s:Unit) (g:Nat×Nat)=>[oP 2 g.1,oP 3 g.2]) (O:=λ_ g=>[(2,dV g.1 5 200 (Qb b)),(3,dV g.2 5 90 (NG c))]) (j:=λ_=>Ot b c) ?_ ?_
    ·exact B
    ·rintro⟨⟩ ⟨q,s⟩ nn;dsimp only[Ot];refine Ab 5 λt u=>?_
     refine Ab 14 λv x=>?_
     refine A 9 ?_;refine sC (E:=λ(_s:Unit) (g:Nat×Nat)=>[oP 2 g.1,oP 3 g.2]) (O:=λ_ g=>[(2,dV g.1 5 200 (Qb b)),(3,dV g.2 5 90 (NG c))]) (j:=λ_=>Oi c b) ?_ ?_
     ·exact B
     ·rintro⟨⟩ ⟨z,aa⟩ nn;dsimp only[Oi];exact B

theorem ApJ:Nr Tryz.prog 63 (fS .ground Tj (λa=>AbU a.1 a.2) NF):=by
 refine fn2 2 (Np) Tryz.func63<|?_;rintro⟨b,c⟩;unfold AbU;refine Ac 15 ?_ ?_
 ·exact B
 ·refine A 9 ?_;refine lP (E:=λ(s:Int) (_g:Unit)=>[oM 0 b Av,oM 1 c Av,oI 5 s]) (O:=λ_ _=>[]) () hX<|?_
  rintro d ⟨⟩ nn;dsimp only[VV];exact B

abbrev AlJ:=en2 (eL (eL Av)) (eL (eL Av))
abbrev Avn:=de2 (uL (uL uI)) (uL (uL uI))
theorem AmG:Nr Tryz.prog 250 (fS .ground AlJ (λa=>Yi a.1 a.2) NF):=by
 refine fn2 2 (nK 63 ApJ<|Np) Tryz.func250<|?_;rintro⟨b,c⟩;unfold Yi;refine Ac 15 ?_ ?_
 ·exact B
 ·refine A 9 ?_;refine lP (E:=λ(s:Int) (_g:Unit)=>[(0,.sl (b.map (eL Av))),(1,.sl (c.map (eL Av))),oI 5 s]) (O:=λ_ _=>[]) () hX<|?_
  rintro d ⟨⟩ nn;dsimp only[TL];exact B

abbrev Aoz:=en2 Rx Rx
abbrev AxR:=de2 Vb Vb
theorem ApK:Nr Tryz.prog 196 (fS .ground Aoz (λa=>AbW a.1 a.2) NF):=by
 refine fn2 2 (nK 250 AmG<|Np) Tryz.func196<|?_;intro a;unfold AbW;exact B

theorem Afy:Nr Tryz.prog 78 (fS (.row 1 3) RK (λa=>VY a.1 a.2) Oj):=by
 refine fn2 2 (Np) Tryz.func78<|?_;rintro⟨b,c⟩;unfold VY;refine A 17 ?_;refine lP (E:=λ(s:(List Int)×Int) (g:Nat)=>[oM 0 b Av,oI 1 c,oT 5 g s.1,oI 6 s.2]) (O:=λs g=>[(5,dW g 1 3 (s.1.map Av))]) _ hX<|?_
 rintro⟨d,e⟩ f nn;dsimp only[Afx];exact B

abbrev AnG:=en4 (eL (eL Av)) (eL Av) Av Av
abbrev Axg:=de4 (uL (uL uI)) (uL uI) uI uI
theorem AoG:Nr Tryz.prog 199 (fS .ground AnG (λa=>Adr a.1 a.2.1 a.2.2.1 a.2.2.2) NF):=by
 refine fn2 4 (nK 78 Afy<|nK 116 Zp<|Np) Tryz.func199<|?_;rintro⟨d,f,h,i⟩;unfold Adr;refine Ab 9 λb k=>?_
 refine Ab 3 λc l=>?_
 refine A 12 ?_;refine lP (E:=λ(s:Int) (g:Nat×Nat)=>[(0,.sl (d.map (eL Av))),oT 9 g.1 b,oT 10 g.2 c,oI 11 s]) (O:=λ_ g=>[(9,dW g.1 1 3 (b.map Av)),(10,dW g.2 1 3 (c.map Av))]) (_,_) hX<|?_
 rintro e ⟨m,o⟩ nn;dsimp only[Aih];refine Ac 9 ?_ ?_
 ·refine A 2 ?_;refine bC (E:=λ(_s:Unit) (g:Nat×Nat)=>[(0,.sl (d.map (eL Av))),oT 9 g.1 b,oT 10 g.2 c,oI 11 e]) (O:=λ_ g=>[(9,dW g.1 1 3 (b.map Av)),(10,dW g.2 1 3 (c.map Av))]) (j:=λ_=>ZN e) ?_ ?_
  ·refine A 6 ?_;refine lP (E:=λ(s:Int) (g:Nat×Nat)=>[(0,.sl (d.map (eL Av))),oT 9 g.1 b,oT 10 g.2 c,oI 11 e,oI 12 s]) (O:=λ_ g=>[(9,dW g.1 1 3 (b.map Av)),(10,dW g.2 1 3 (c.map Av))]) (_,_) hX<|?_
   rintro p ⟨q,r⟩ nn;dsimp only[Aii];exact B
  ·rintro⟨⟩ ⟨t,u⟩ nn;dsimp only[ZN];exact B
 ·exact B

abbrev AlO:=en2 Xk (eL Av)
abbrev Avr:=de2 ZW (uL uI)
theorem AmL:Nr Tryz.prog 79 (fS (.row 1 3) AlO (λa=>Yn a.1 a.2) Oj):=by
 refine fn2 2 (Np) Tryz.func79<|?_;rintro⟨b,c⟩;unfold Yn;refine A 18 ?_;refine lP (E:=λ(s:(List Int)×Int) (g:Nat×Nat)=>[oM 1 c Av,oP 2 g.1,oT 5 g.2 s.1,oI 6 s.2]) (O:=λs g=>[(2,dV g.1 2 48 (.agg [.sl (b.To.map Av),.sl (b.Keep.map D.bool)])),(5,dW g.2 1 3 (s.1.map Av))]) (_,_) hX<|?_
 rintro⟨e,d⟩ ⟨f,h⟩ nn;dsimp only[Afz];refine Ac 10 ?_ ?_
 ·refine A 2 ?_;refine bC (E:=λ(s:(List Int)) (g:Nat×Nat)=>[oM 1 c Av,oP 2 g.1,oT 5 g.2 s,oI 6 d]) (O:=λs g=>[(2,dV g.1 2 48 (.agg [.sl (b.To.map Av),.sl (b.Keep.map D.bool)])),(5,dW g.2 1 3 (s.map Av))]) (j:=λs=>XX d s) ?_ ?_
  ·refine A 12 ?_;refine lP (E:=λ(s:Int×Int) (g:Nat×Nat)=>[oM 1 c Av,oP 2 g.1,oT 5 g.2 e,oI 6 d,oI 7 s.1,oI 8 s.2]) (O:=λ_ g=>[(2,dV g.1 2 48 (.agg [.sl (b.To.map Av),.sl (b.Keep.map D.bool)])),(5,dW g.2 1 3 (e.map Av))]) (_,_) hX<|?_
   rintro⟨i,k⟩ ⟨l,m⟩ nn;dsimp only[AfA];exact B
  ·rintro o ⟨p,q⟩ nn;dsimp only[XX];exact B
 ·exact B

theorem AmP:Nr Tryz.prog 26 (fS (.row 1 3) WV (λa=>AaS a) Oj):=by
 refine fn2 1 (Np) Tryz.func26<|?_;intro b;unfold AaS;refine A 18 ?_;refine lP (E:=λ(s:(List Int)×Int) (g:Nat×Nat)=>[oP 1 g.1,oT 3 g.2 s.1,oI 4 s.2]) (O:=λs g=>[(1,dV g.1 2 58 (.agg [Nm b.Align,.sl (b.Frames.map NW)])),(3,dW g.2 1 3 (s.1.map Av))]) (_,_) hX<|?_
 rintro⟨c,d⟩ ⟨e,f⟩ nn;dsimp only[AfC];exact B

theorem AjP:Nr Tryz.prog 69 (fS .ground Ahi (λa=>Vz a.1 a.2) Nq):=by
 refine fn2 2 (nK 126 AbV<|nK 127 AhW<|nK 128 AjQ<|nK 123 AjO<|Np) Tryz.func69<|?_;rintro⟨b,c⟩;unfold Vz;refine A 6 ?_;refine sC (E:=λ(_s:Unit) (g:Nat)=>[oI 1 c,oP 2 g]) (O:=λ_ g=>[(2,dV g 2 58 (.agg [Nm b.Align,.sl (b.Frames.map NW)]))]) (j:=λ_=>VO b c) ?_ ?_
 ·exact B
 ·rintro⟨⟩ e nn;dsimp only[VO];refine Ab 5 λd f=>?_
  refine Ac 15 ?_ ?_
  ·exact B
  ·refine A 9 ?_;refine lP (E:=λ(s:Int) (g:Nat×Nat)=>[oI 1 c,oP 2 g.1,oP 5 g.2,oI 6 s]) (O:=λ_ g=>[(2,dV g.1 2 58 (.agg [Nm b.Align,.sl (b.Frames.map NW)])),(5,dV g.2 3 75 (NW d))]) (_,_) hX<|?_
   rintro k4 ⟨h,i⟩ nn;dsimp only[YD];exact B

end Go.Proofs.YtcaoepecbgggcaaGreatDoor
