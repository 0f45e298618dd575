/-
 The code does what its typed programs say.
-/
import Derived.Test.YtcaoepecbgggcaaGreatDoorDxF2
import Derived.Test.YtcaoepecbgggcaaGreatDoorDxF3
namespace Go.Proofs.YtcaoepecbgggcaaGreatDoor
open Go Go.Dw Go.Proofs
open Go.IntKind (i64)
set_option maxRecDepth 100000
set_option maxHeartbeats 40000000
open Go.Dw renaming OO -> bD,Tg -> cG,Qs -> cD,Rp -> xC,PY -> xL,QS -> lP,PQ -> sC,rf -> r
noncomputable def RG:Dw.Spec:=NO [] .ground Pr Pq (λa=>Pt a) NF noE
theorem VE:Nr Tryz.prog 207 RG:=by
 refine fn2 2 (nK 856317 WA<|Np) Tryz.func207<|?_;intro a;unfold Pt;refine A 9 ?_;refine bD λc b=>cG a rfl rfl (show _=some Sn from by kernel_rfl) OW.ok rfl rfl (by simp) r b r<|?_
 exact B

abbrev Vs:=en1 (eL On)
abbrev AvR:=de1 (uL Ya)
theorem Ags:Nr Tryz.prog 148 (fS .ground Vs (λa=>Ul a) Nq):=by
 refine fn2 1 (nK 856271 VE<|Np) Tryz.func148<|?_;intro b;unfold Ul;refine Ac 13 ?_ ?_
 ·exact B
 ·refine A 6 ?_;refine bD λd c=>cG b rfl rfl (show _=some RG from by kernel_rfl) OW.ok rfl rfl (by simp) r c r<|?_
  exact B

theorem Anl:Nr Tryz.prog 87 (fS .ground Vs (λa=>Xn a) Nq):=by
 refine fn2 1 (nK 148 Ags<|Np) Tryz.func87<|?_;intro b;unfold Xn;refine Ab 14 λc d=>?_
 refine Ac 4 ?_ ?_
 ·refine A 8 ?_;refine lP (E:=λ(s:Int×Int) (_g:Unit)=>[oI 3 s.2,oM 9 b On,oL 10 b,oI 11 s.1]) (O:=λ_ _=>[]) () hX<|?_
  rintro⟨e,f⟩ ⟨⟩ nn;dsimp only[AbL];exact B
 ·exact B

abbrev Tk:=en2 Nz Xk
abbrev Avs:=de2 Rh ZW
theorem Abc:Nr Tryz.prog 93 (fS .ground Tk (λa=>Wa a.1 a.2) Nq):=by
 refine fn2 2 (nK 155 Aln<|nK 156 AjL<|Np) Tryz.func93<|?_;rintro⟨c,b⟩;unfold Wa;refine A 7 ?_;refine sC (E:=λ(_s:Unit) (g:Nat×Nat)=>[oP 2 g.1,oP 3 g.2]) (O:=λ_ g=>[(2,dV g.1 3 36 (Nz c)),(3,dV g.2 2 48 (.agg [.sl (b.To.map Av),.sl (b.Keep.map D.bool)]))]) (j:=λ_=>Abb c b) ?_ ?_
 ·exact B
 ·rintro⟨⟩ ⟨d,e⟩ nn;dsimp only[Abb];refine A 10 ?_;refine lP (E:=λ(s:Int) (g:Nat)=>[oP 3 g,oM 22 c.Code NG,oL 23 c.Code,oI 24 s]) (O:=λ_ g=>[(3,dV g 2 48 (.agg [.sl (b.To.map Av),.sl (b.Keep.map D.bool)]))]) _ hX<|?_
  rintro f h nn;dsimp only[AfG];exact B

theorem AoI:Nr Tryz.prog 76 (fS .ground Tk (λa=>AaE a.1 a.2) Nq):=by
 refine fn2 2 (nK 140 AoF<|nK 141 AdW<|Np) Tryz.func76<|?_;rintro⟨c,b⟩;unfold AaE;refine A 7 ?_;refine sC (E:=λ(_s:Unit) (g:Nat×Nat)=>[oP 2 g.1,oP 3 g.2]) (O:=λ_ g=>[(2,dV g.1 3 36 (Nz c)),(3,dV g.2 2 48 (.agg [.sl (b.To.map Av),.sl (b.Keep.map D.bool)]))]) (j:=λ_=>ZP c b) ?_ ?_
 ·exact B
 ·rintro⟨⟩ ⟨d,e⟩ nn;dsimp only[ZP];refine A 7 ?_;refine lP (E:=λ(s:Int) (g:Nat×Nat)=>[oP 2 g.1,oP 3 g.2,oI 5 s]) (O:=λ_ g=>[(2,dV g.1 3 36 (Nz c)),(3,dV g.2 2 48 (.agg [.sl (b.To.map Av),.sl (b.Keep.map D.bool)]))]) (_,_) hX<|?_
  rintro k3 ⟨f,h⟩ nn;dsimp only[AcW];exact B

abbrev AlM:=en2 Av (eL Av)
abbrev Avo:=de2 uI (uL uI)
theorem AmH:Nr Tryz.prog 144 (fS .ground AlM (λa=>Tq a.1 a.2) Nq):=by
 refine fn2 2 (Np) Tryz.func144<|?_;intro a;unfold Tq;exact B

theorem AhT:Nr Tryz.prog 121 (fS .ground Vs (λa=>WL a) Nq):=by
 refine fn2 1 (nK 185 Ajm<|nK 68 Xu<|Np) Tryz.func121<|?_;intro b;unfold WL;refine Ac 13 ?_ ?_
 ·exact B
 ·refine A 9 ?_;refine lP (E:=λ(s:Int) (_g:Unit)=>[oM 0 b On,oI 3 s]) (O:=λ_ _=>[]) () hX<|?_
  rintro c ⟨⟩ nn;dsimp only[AhS];refine Ac 9 ?_ ?_
  ·refine Ab 8 λd e=>?_
   refine Ab 3 λf g=>?_
   refine A 3 ?_;refine QO r ?_ ?_
   ·exact B
   ·refine Ab 2 λh i=>?_
    refine Ab 3 λj k=>?_
    refine Ac 5 ?_ ?_
    ·exact B
    ·refine A 8 ?_;exact xL (s:=i64.wrap (c+1)) () hX
  ·exact B

abbrev Aot:=en2 (eL Qa) Qa
abbrev AxQ:=de2 (uL Vg) Vg
theorem ApI:Nr Tryz.prog 252 (fS .ground Aot (λa=>AeL a.1 a.2) NF):=by
 refine fn2 2 (nK 227 AmF<|Np) Tryz.func252<|?_;rintro⟨c,b⟩;unfold AeL;refine A 13 ?_;refine lP (E:=λ(s:Int) (g:Nat)=>[oM 0 c Qa,oP 3 g,oI 5 s]) (O:=λ_ g=>[(3,dV g 2 186 (.agg [Nm b.Off,Nm b.Size]))]) _ hX<|?_
 rintro d e nn;dsimp only[Ajn];exact B

abbrev ApH:=en4 (eL Qa) Av Av Av
abbrev Ays:=de4 (uL Vg) uI uI uI
theorem Arb:Nr Tryz.prog 203 (fS .ground ApH (λa=>AdV a.1 a.2.1 a.2.2.1 a.2.2.2) Vt):=by
 refine fn2 4 (nK 130 Vk<|nK 68 Xu<|nK 204 ZG<|nK 83 Ahk<|nK 252 ApI<|Np) Tryz.func203<|?_;rintro⟨c,b,d,e⟩;unfold AdV;refine A 6 ?_;refine sC (E:=λ(_s:Unit) (_g:Unit)=>[oM 0 c Qa,oI 1 b,oI 2 d,oI 3 e]) (O:=λ_ _=>[]) (j:=λ_=>Afr c e d b) ?_ ?_
 ·exact B
 ·rintro⟨⟩ ⟨⟩ nn;dsimp only[Afr];refine A 7 ?_;refine lP (E:=λ(s:Int) (_g:Unit)=>[oM 0 c Qa,oI 1 b,oI 2 d,oI 3 e,oI 10 s]) (O:=λ_ _=>[]) () hX<|?_
  rintro l ⟨⟩ nn;dsimp only[AkP];refine Ac 9 ?_ ?_
  ·exact B
  ·refine A 18 ?_;refine lP (E:=λ(s:Int×Bool×Int) (_g:Unit)=>[oM 0 c Qa,oI 1 b,oI 2 d,oI 3 e,oI 11 s.1,oB 12 s.2.1,oI 13 s.2.2]) (O:=λ_ _=>[]) () hX<|?_
   rintro⟨f,g,h⟩ ⟨⟩ nn;dsimp only[AkQ];refine Ac 9 ?_ ?_
   ·refine A 10 ?_;refine sC (E:=λ(s:Int) (_g:Unit)=>[oM 0 c Qa,oI 1 b,oI 2 d,oI 3 e,oI 11 f,oB 12 g,oI 13 h,oI 14 s]) (O:=λ_ _=>[]) (j:=λs=>Xt e d c g h f s) ?_ ?_
    ·refine Ac 6 ?_ ?_
     ·refine Ab 4 λi m=>?_
      refine Ab 5 λk o=>?_
      refine A 7 ?_;exact xC (s:=OA b (i64.wrap (i.Off+k.Size))) () hX
     ·refine A 1 ?_;exact xC (s:=b) () hX
    ·rintro p ⟨⟩ nn;dsimp only[Xt];exact B
   ·exact B

theorem Aos:Nr Tryz.prog 75 (fS .ground Vs (λa=>TX a) Nq):=by
 refine fn2 1 (nK 121 AhT<|Np) Tryz.func75<|?_;intro b;unfold TX;refine Ab 14 λc d=>?_
 refine Ac 4 ?_ ?_
 ·exact B
 ·refine A 9 ?_;refine lP (E:=λ(s:Int×Int) (_g:Unit)=>[oM 0 b On,oI 3 s.1,oI 4 s.2]) (O:=λ_ _=>[]) () hX<|?_
  rintro⟨e,f⟩ ⟨⟩ nn;dsimp only[ZF];exact B

theorem AlL:Nr Tryz.prog 188 (fS .ground Pc (λa=>Pz a) Afs):=by
 refine fn2 1 (nK 190 AgB<|nK 186 AlK<|Np) Tryz.func188<|?_;intro a;unfold Pz;exact B

theorem AnA:Nr Tryz.prog 167 (fS .ground Aex (λa=>Uo a.1 a.2) NF):=by
 refine fn2 2 (nK 204 ZG<|Np) Tryz.func167<|?_;intro a;unfold Uo;exact B

abbrev AiY:=en3 Xl Av Av
abbrev Atr:=de3 XC uI uI
theorem AjQ:Nr Tryz.prog 128 (fS .ground AiY (λa=>VA a.1 a.2.1 a.2.2) Nq):=by
 refine fn2 3 (nK 126 AbV<|nK 127 AhW<|nK 188 AlL<|nK 189 Aoy<|nK 190 AgB<|nK 185 Ajm<|nK 191 Aow<|nK 167 AnA<|nK 192 AnB<|Np) Tryz.func128<|?_;rintro⟨d,e,k3⟩;unfold VA;refine A 6 ?_;refine sC (E:=λ(_s:Unit) (g:Nat)=>[oI 1 e,oI 2 k3,oP 3 g]) (O:=λ_ g=>[(3,dV g 2 58 (.agg [Nm d.Align,.sl (d.Frames.map NW)]))]) (j:=λ_=>Tz d e k3) ?_ ?_
 ·exact B
 ·rintro⟨⟩ f nn;dsimp only[Tz];refine Ab 5 λb h=>?_
  refine Ab 11 λc i=>?_
  refine A 6 ?_;refine sC (E:=λ(_s:Unit) (g:Nat×Nat×Nat)=>[oP 3 g.1,oP 7 g.2.1,oP 8 g.2.2]) (O:=λ_ g=>[(3,dV g.1 2 58 (.agg [Nm d.Align,.sl (d.Frames.map NW)])),(7,dV g.2.1 3 75 (NW b)),(8,dV g.2.2 5 90 (NG c))]) (j:=λ_=>OD c d b) ?_ ?_
  ·exact B
  ·rintro⟨⟩ ⟨k,l,m⟩ nn;dsimp only[OD];refine Ab 4 λo p=>?_
   refine A 12 ?_;refine sC (E:=λ(_s:Unit) (g:Nat×Nat×Nat)=>[oP 3 g.1,oP 7 g.2.1,oP 8 g.2.2]) (O:=λ_ g=>[(3,dV g.1 2 58 (.agg [Nm d.Align,.sl (d.Frames.map NW)])),(7,dV g.2.1 3 75 (NW b)),(8,dV g.2.2 5 90 (NG c))]) (j:=λ_=>NK d c b) ?_ ?_
   ·exact B
   ·rintro⟨⟩ ⟨q,r,s⟩ nn;dsimp only[NK];refine Ab 5 λt u=>?_
    refine Ac 4 ?_ ?_
    ·exact B
    ·refine A 2 ?_;refine sC (E:=λ(_s:Unit) (g:Nat×Nat)=>[oP 7 g.1,oP 8 g.2]) (O:=λ_ g=>[(7,dV g.1 3 75 (NW b)),(8,dV g.2 5 90 (NG c))]) (j:=λ_=>Ow b c) ?_ ?_
     ·exact B
     ·rintro⟨⟩ ⟨v,x⟩ nn;dsimp only[Ow];refine sC (E:=λ(_s:Unit) (g:Nat×Nat)=>[oP 7 g.1,oP 8 g.2]) (O:=λ_ g=>[(7,dV g.1 3 75 (NW b)),(8,dV g.2 5 90 (NG c))]) (j:=λ_=>Ox b c) ?_ ?_
      ·exact B
      ·rintro⟨⟩ ⟨z,aa⟩ nn;dsimp only[Ox];refine sC (E:=λ(_s:Unit) (g:Nat×Nat)=>[oP 7 g.1,oP 8 g.2]) (O:=λ_ g=>[(7,dV g.1 3 75 (NW b)),(8,dV g.2 5 90 (NG c))]) (j:=λ_=>Oy c b) ?_ ?_
       ·exact B
       ·rintro⟨⟩ ⟨ab,ac⟩ nn;dsimp only[Oy];exact B

end Go.Proofs.YtcaoepecbgggcaaGreatDoor
