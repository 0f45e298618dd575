/-
 The code does what its typed programs say.
-/
import Derived.Test.YtcaoepecbgggcaaGreatDoorDxF4
import Derived.Test.YtcaoepecbgggcaaGreatDoorDxF5
open List renaming replicate->aA
namespace Go.Proofs.YtcaoepecbgggcaaGreatDoor
open Go Go.Dw Go.Proofs
open Go.IntKind (i64)
set_option maxRecDepth 100000
set_option maxHeartbeats 40000000
open Go.Dw renaming OO -> bD,Qk -> cK,TR -> bS,Abq -> aP,Qs -> cD,Rp -> xC,PY -> xL,QS -> lP,PQ -> sC,RQ -> bC,rf -> r
abbrev AbE:=en1 (eL (eL Av))
abbrev Ani:=de1 (uL (uL uI))
def Aed (b:(List Int)×Int):D:=.tup [.sl (b.1.map Av),Nm b.2]
noncomputable def Ajg:Dw.Spec:=NO [] .val AbE Ani (λa=>SN a) Aed noE
theorem Ahz:Nr Tryz.prog 110 Ajg:=by
 refine fn2 1 (nK 172 ApA<|nK 173 Amk<|nK 171 Aje<|Np) Tryz.func110<|?_;intro a;unfold SN;refine A 12 ?_;refine bC (E:=λ(s:(List Int)) (g:Nat)=>[oT 4 g s]) (O:=λs g=>[(4,dW g 1 3 (s.map Av))]) (j:=λs=>AcA s) ?_ ?_
 ·refine lP (E:=λ(s:(List Int)×(List Int)) (g:Nat×Nat)=>[(0,.sl (a.map (eL Av))),oT 4 g.1 s.1,oT 5 g.2 s.2]) (O:=λs g=>[(4,dW g.1 1 3 (s.1.map Av)),(5,dW g.2 1 3 (s.2.map Av))]) (_,_) hX<|?_
  rintro⟨b,c⟩ ⟨d,e⟩ nn;dsimp only[Zy];refine Ac 10 ?_ ?_
  ·refine A 8 ?_;refine sC (E:=λ(s:Int) (g:Nat×Nat)=>[(0,.sl (a.map (eL Av))),oT 4 g.1 b,oT 5 g.2 c,oI 6 s]) (O:=λ_ g=>[(4,dW g.1 1 3 (b.map Av)),(5,dW g.2 1 3 (c.map Av))]) (j:=λs=>Vj b c s) ?_ ?_
   ·refine A 8 ?_;refine lP (E:=λ(s:Int) (g:Nat×Nat)=>[(0,.sl (a.map (eL Av))),oT 4 g.1 b,oT 5 g.2 c,(6,Nm (-1)),(14,.sl (a.map (eL Av))),oL 15 a,oI 16 s]) (O:=λ_ g=>[(4,dW g.1 1 3 (b.map Av)),(5,dW g.2 1 3 (c.map Av))]) (_,_) hX<|?_
    rintro f ⟨h,i⟩ nn;dsimp only[Sy];exact B
   ·rintro k ⟨l,m⟩ nn;dsimp only[Vj];exact B
  ·exact B
 ·rintro o p nn;dsimp only[AcA];exact B

theorem AdE:Nr Tryz.prog 174 (fS .ground AbE (λa=>Us a) NF):=by
 refine fn2 1 (nK 211 Agj<|Np) Tryz.func174<|?_;intro b;unfold Us;refine A 14 ?_;refine lP (E:=λ(s:Int) (_g:Unit)=>[(0,.sl (b.map (eL Av))),(5,.sl (b.map (eL Av))),oL 6 b,oI 7 s]) (O:=λ_ _=>[]) () hX<|?_
 rintro c ⟨⟩ nn;dsimp only[AdD];exact B

abbrev Ajf:=en2 (eL (eL Av)) (eL Av)
abbrev ApB:=de2 (uL (uL uI)) (uL uI)
noncomputable def AgT:Dw.Spec:=NO [] .val Ajf ApB (λa=>Wd a.1 a.2) Aed noE
theorem Aka:Nr Tryz.prog 111 AgT:=by
 refine fn2 2 (nK 174 AdE<|nK 110 Ahz<|nK 175 Ahx<|Np) Tryz.func111<|?_;rintro⟨a,b⟩;unfold Wd;refine A 6 ?_;refine sC (E:=λ(_s:Unit) (_g:Unit)=>[(0,.sl (a.map (eL Av))),oM 1 b Av]) (O:=λ_ _=>[]) (j:=λ_=>Afd b a) ?_ ?_
 ·exact B
 ·rintro⟨⟩ ⟨⟩ nn;dsimp only[Afd];refine A 9 ?_;refine lP (E:=λ(s:Int) (_g:Unit)=>[(0,.sl (a.map (eL Av))),oM 1 b Av,oM 24 b Av,oL 25 b,oI 26 s]) (O:=λ_ _=>[]) () hX<|?_
  rintro h ⟨⟩ nn;dsimp only[AjY];refine Ac 6 ?_ ?_
  ·exact B
  ·refine Ab 9 λk m=>?_
   refine Ac 14 ?_ ?_
   ·exact B
   ·refine A 26 ?_;refine lP (E:=λ(s:(List (List Int))×(List Int)×(List Bool)×(List Int)×Int) (g:Nat)=>[(10,.optr 4150 g 0 0),oL 56 a,oI 57 s.2.2.2.2]) (O:=λs g=>[(4150,dV g 4 194 (.agg [.sl (s.1.map (eL Av)),.sl (s.2.1.map Av),.row 1 4 (s.2.2.1.map D.bool),.row 1 3 (s.2.2.2.1.map Av)]))]) _ (((Ate (g:=54) (g2:=4150) (es':=[.agg [.sl (a.map (eL Av)),.sl (b.map Av),.osl 49 _ 0 ((aA (a.length:Int).toNat false).length),.osl 52 _ 0 ((aA (a.length:Int).toNat (0:Int)).length)]]) r r r (Axu (by repeat' first|exact AeU.nil|apply AeU.same rfl|apply AeU.row (by decide))) (Abn (g:=4150) (i:=0) (off:=2) (g':=49) (l:=aA (a.length:Int).toNat false) (en:=D.bool) r r r (.inr ⟨rfl,r⟩) r r (λ_=>r) r (Abn (g:=4150) (i:=0) (off:=3) (g':=52) (l:=aA (a.length:Int).toNat (0:Int)) (en:=Av) r r r (.inr ⟨rfl,r⟩) r r (λ_=>r) r hX)))))<|?_
    rintro⟨d,e,f,c,o⟩ p nn;dsimp only[AjZ];refine Ac 6 ?_ ?_
    ·exact B
    ·refine A 6 ?_;refine AeO (E:=[(10,.optr 4150 _ 0 0)]) (O:=[(4150,dV _ 4 194 (.agg [.sl (d.map (eL Av)),.sl (e.map Av),.row 1 4 (f.map D.bool),.osl 4697 _ 0 c.length])),(4697,dW _ 1 3 (c.map Av))]) ((AhK (g:=4150) (off:=3) 601 (c) Av r r r hX)) λnn=>?_
     exact B

abbrev RR:=en3 (eL (eL Av)) (eL Av) (eL Av)
abbrev AfQ:=de3 (uL (uL uI)) (uL uI) (uL uI)
theorem Aat:Nr Tryz.prog 178 (fS .ground RR (λa=>Sb a.1 a.2.1 a.2.2) NF):=by
 refine fn2 3 (nK 174 AdE<|nK 241 AbD<|Np) Tryz.func178<|?_;rintro⟨c,b,d⟩;unfold Sb;refine A 5 ?_;refine sC (E:=λ(_s:Unit) (_g:Unit)=>[oM 1 b Av]) (O:=λ_ _=>[]) (j:=λ_=>Se b) ?_ ?_
 ·exact B
 ·rintro⟨⟩ ⟨⟩ nn;dsimp only[Se];refine A 9 ?_;refine lP (E:=λ(s:Int) (_g:Unit)=>[oM 26 b Av,oL 27 b,oI 28 s]) (O:=λ_ _=>[]) () hX<|?_
  rintro e ⟨⟩ nn;dsimp only[WE];exact B

abbrev AnD:=en2 (eL (eL Av)) Av
abbrev Axe:=de2 (uL (uL uI)) uI
theorem AoC:Nr Tryz.prog 201 (fS .ground AnD (λa=>Ado a.1 a.2) NF):=by
 refine fn2 2 (nK 226 AcM<|nK 116 Zp<|Np) Tryz.func201<|?_;rintro⟨c,d⟩;unfold Ado;refine Ac 14 ?_ ?_
 ·exact B
 ·refine A 9 ?_;refine lP (E:=λ(s:Int) (_g:Unit)=>[(0,.sl (c.map (eL Av))),oI 1 d,oI 5 s]) (O:=λ_ _=>[]) () hX<|?_
  rintro b ⟨⟩ nn;dsimp only[Aib];refine Ac 8 ?_ ?_
  ·refine A 2 ?_;refine bC (E:=λ(s:(List Int)×(List Int)×Bool) (_g:Unit)=>[(0,.sl (c.map (eL Av))),oI 1 d,oI 5 b,(24,.sl (c.map (eL Av))),oI 25 b,(26,.fptr (.sl (s.1.map Av)) 0),oM 27 s.2.1 Av,oI 28 b,oB 29 s.2.2]) (O:=λ_ _=>[]) (j:=λs=>ZK b s.1 s.2.1 s.2.2) ?_ ?_
   ·refine sC (E:=λ(s:(List Int)×(List Int)×Bool) (_g:Unit)=>[(0,.sl (c.map (eL Av))),oI 1 d,oI 5 b,(24,.sl (c.map (eL Av))),oI 25 b,(26,.fptr (.sl (s.1.map Av)) 0),oM 27 s.2.1 Av,oI 28 b,oB 29 s.2.2]) (O:=λ_ _=>[]) (j:=λs=>AcT c b d s.1 s.2.1 s.2.2) ?_ ?_
    ·refine Ab 4 λl m=>?_
     refine Ab 2 λo p=>?_
     refine A 3 ?_;refine QO r ?_ ?_
     ·exact B
     ·refine Ab 2 λe q=>?_
      refine Ab 3 λi t=>?_
      refine Ac 4 ?_ ?_
      ·exact B
      ·refine A 1 ?_;exact xC (s:=(e,e,i)) () hX
    ·rintro⟨f,g,h⟩ ⟨⟩ nn;dsimp only[AcT];refine A 6 ?_;refine lP (E:=λ(s:Int) (_g:Unit)=>[(0,.sl (c.map (eL Av))),oI 1 d,oI 5 b,oI 6 s,(24,.sl (c.map (eL Av))),oI 25 b,(26,.fptr (.sl (f.map Av)) 0),oM 27 g Av,oI 28 b,oB 29 h]) (O:=λ_ _=>[]) () hX<|?_
     rintro k ⟨⟩ nn;dsimp only[AcS];refine Ab 6 λu v=>?_
     refine Ac 6 ?_ ?_
     ·refine Ab 8 λx z=>?_
      refine Ab 3 λaa ab=>?_
      refine A 11 ?_;refine QO r ?_ ?_
      ·exact B
      ·refine Ab 2 λac ad=>?_
       refine Ab 3 λae af=>?_
       refine Ac 5 ?_ ?_
       ·exact B
       ·refine A 8 ?_;exact xL (s:=i64.wrap (k+1)) () hX
     ·refine A 4 ?_;exact UA (s:=(f,g,h)) () hX
   ·rintro⟨x4,x5,x6⟩ ⟨⟩ nn;dsimp only[ZK];exact B
  ·exact B

theorem AoJ:Nr Tryz.prog 202 (fS (.row 1 3) Vs (λa=>Ads a) Oj):=by
 refine fn2 1 (nK 251 AnJ<|Np) Tryz.func202<|?_;intro d;unfold Ads;refine A 17 ?_;refine lP (E:=λ(s:(List Int)×Int) (g:Nat)=>[oM 0 d On,oT 3 g s.1,oI 4 s.2]) (O:=λs g=>[(3,dW g 1 3 (s.1.map Av))]) _ hX<|?_
 rintro⟨b,c⟩ e nn;dsimp only[Ail];refine Ac 9 ?_ ?_
 ·refine A 2 ?_;refine bC (E:=λ(s:(List Int)) (g:Nat)=>[oM 0 d On,oT 3 g s,oI 4 c]) (O:=λs g=>[(3,dW g 1 3 (s.map Av))]) (j:=λs=>ZR c s) ?_ ?_
  ·refine A 7 ?_;refine bC (E:=λ(s:Int) (g:Nat)=>[oM 0 d On,oT 3 g b,oI 4 c,oI 5 s]) (O:=λ_ g=>[(3,dW g 1 3 (b.map Av))]) (j:=λs=>Vm b c s) ?_ ?_
   ·refine lP (E:=λ(s:Int) (g:Nat)=>[oM 0 d On,oT 3 g b,oI 4 c,oI 5 s]) (O:=λ_ g=>[(3,dW g 1 3 (b.map Av))]) _ hX<|?_
    rintro k6 f nn;dsimp only[Aim];exact B
   ·rintro k5 h nn;dsimp only[Vm];refine A 4 ?_;refine cK λhq=>Ait (l:=b) r r r r r r hq<|cK λhq=>aP (([]:List Int)) (b.take k5.toNat) Av r r r r r r r (by first|(simp;done)|(simp;omega)) (by simp[List.map_take]) r r (by simp) r (λ_=>r) r hq<|?_
    refine A 7 ?_;refine cK λhq=>aP (([]:List Int)++(b.take k5.toNat)) (([c]:List Int)) Av r r r r r r r (by simp) (YR _ _ r) r r (by simp) (Wb _ _ r) (λ_=>r) r hq<|?_
    refine A 2 ?_;refine cK λhq=>Ade (l:=b) r r r r r r hq<|cK λhq=>aP ((([]:List Int)++(b.take k5.toNat))++([c]:List Int)) (b.drop k5.toNat) Av r r r r r r r (by first|(simp;done)|(simp;omega)) (AkV _ _ _) r r (by simp) (Wb _ _ r) (λ_=>r) r hq<|?_
    exact B
  ·rintro i k nn;dsimp only[ZR];exact B
 ·exact B

abbrev AmM:=en3 (eL On) (eL (eL Av)) Av
abbrev Awv:=de3 (uL Ya) (uL (uL uI)) uI
theorem AnI:Nr Tryz.prog 138 (fS .val AmM (λa=>Acb a.1 a.2.1 a.2.2) Aed):=by
 refine fn2 3 (nK 121 AhT<|nK 201 AoC<|nK 130 Vk<|nK 202 AoJ<|nK 116 Zp<|nK 203 Arb<|Np) Tryz.func138<|?_;rintro⟨c,d,e⟩;unfold Acb;refine Ab 10 λq t=>?_
 refine Ac 10 ?_ ?_
 ·exact B
 ·refine A 2 ?_;refine sC (E:=λ(_s:Unit) (_g:Unit)=>[oM 0 c On,(1,.sl (d.map (eL Av))),oI 2 e]) (O:=λ_ _=>[]) (j:=λ_=>Acd c d e) ?_ ?_
  ·exact B
  ·rintro⟨⟩ ⟨⟩ nn;dsimp only[Acd];refine Ab 15 λb u=>?_
   refine A 11 ?_;refine lP (E:=λ(s:(List Bool)×(List Int)×Int) (g:Nat×Nat×Nat)=>[oM 0 c On,(1,.sl (d.map (eL Av))),oI 2 e,oT 9 g.1 s.2.1,oT 10 g.2.1 s.1,oT 11 g.2.2 b,oI 12 s.2.2]) (O:=λs g=>[(9,dW g.1 1 3 (s.2.1.map Av)),(10,dW g.2.1 1 4 (s.1.map D.bool)),(11,dW g.2.2 1 3 (b.map Av))]) (_,_,_) hX<|?_
   rintro⟨h,f,i⟩ ⟨v,x,z⟩ nn;dsimp only[AgF];refine Ac 9 ?_ ?_
   ·refine A 2 ?_;refine bC (E:=λ(s:(List Bool)×(List Int)) (g:Nat×Nat×Nat)=>[oM 0 c On,(1,.sl (d.map (eL Av))),oI 2 e,oT 9 g.1 s.2,oT 10 g.2.1 s.1,oT 11 g.2.2 b,oI 12 i]) (O:=λs g=>[(9,dW g.1 1 3 (s.2.map Av)),(10,dW g.2.1 1 4 (s.1.map D.bool)),(11,dW g.2.2 1 3 (b.map Av))]) (j:=λs=>YP i s.1 s.2) ?_ ?_
    ·refine Ab 5 λl aa=>?_
     refine A 16 ?_;refine lP (E:=λ(s:(List NH)×Int) (g:Nat×Nat×Nat×Nat)=>[oM 0 c On,(1,.sl (d.map (eL Av))),oI 2 e,oT 9 g.1 f,oT 10 g.2.1 h,oT 11 g.2.2.1 b,oI 12 i,oI 13 l,oT 14 g.2.2.2 s.1,oI 15 s.2]) (O:=λs g=>[(9,dW g.1 1 3 (f.map Av)),(10,dW g.2.1 1 4 (h.map D.bool)),(11,dW g.2.2.1 1 3 (b.map Av)),(14,dW g.2.2.2 2 186 (s.1.map Qa))]) (_,_,_,_) hX<|?_
     rintro⟨k,m⟩ ⟨ab,ac,ad,ae⟩ nn;dsimp only[AgG];refine Ac 9 ?_ ?_
     ·refine A 4 ?_;refine sC (E:=λ(s:Bool) (g:Nat×Nat×Nat×Nat)=>[oM 0 c On,(1,.sl (d.map (eL Av))),oI 2 e,oT 9 g.1 f,oT 10 g.2.1 h,oT 11 g.2.2.1 b,oI 12 i,oI 13 l,oT 14 g.2.2.2 k,oI 15 m,oB 68 s]) (O:=λ_ g=>[(9,dW g.1 1 3 (f.map Av)),(10,dW g.2.1 1 4 (h.map D.bool)),(11,dW g.2.2.1 1 3 (b.map Av)),(14,dW g.2.2.2 2 186 (k.map Qa))]) (j:=λs=>Ux m f c k s) ?_ ?_
      ·exact B
      ·rintro af ⟨ag,ah,ai,aj⟩ nn;dsimp only[Ux];refine cD r ?_ ?_
       ·refine Ab 5 λo ak=>?_
        refine Ab 3 λp ao=>?_
        refine A 4 ?_;refine bS ([(NH.mk o p.Size)]:List NH) Qa r r r (by simp) r r r<|?_
        exact B
       ·exact B
     ·exact B
    ·rintro⟨ap,aq⟩ ⟨ar,au,av⟩ nn;dsimp only[YP];exact B
   ·exact B

theorem AoK:Nr Tryz.prog 193 (fS .ground AbE (λa=>Yz a) NF):=by
 refine fn2 1 (nK 226 AcM<|Np) Tryz.func193<|?_;intro b;unfold Yz;refine A 5 ?_;refine sC (E:=λ(_s:Unit) (_g:Unit)=>[(0,.sl (b.map (eL Av)))]) (O:=λ_ _=>[]) (j:=λ_=>ZS b) ?_ ?_
 ·exact B
 ·rintro⟨⟩ ⟨⟩ nn;dsimp only[ZS];refine A 7 ?_;refine lP (E:=λ(s:Int) (_g:Unit)=>[(0,.sl (b.map (eL Av))),oI 3 s]) (O:=λ_ _=>[]) () hX<|?_
  rintro c ⟨⟩ nn;dsimp only[AcX];refine Ac 9 ?_ ?_
  ·refine Ab 8 λd e=>?_
   refine Ab 2 λf g=>?_
   refine A 3 ?_;refine QO r ?_ ?_
   ·exact B
   ·refine Ab 2 λh i=>?_
    refine A 5 ?_;refine QO r ?_ ?_
    ·refine Ab 2 λk l=>?_
     refine Ab 4 λm o=>?_
     refine Ab 4 λp q=>?_
     refine Ac 9 ?_ ?_
     ·exact B
     ·refine A 8 ?_;exact xL (s:=i64.wrap (c+1)) () hX
    ·refine A 28 ?_;exact xL (s:=i64.wrap (c+1)) () hX
  ·exact B

end Go.Proofs.YtcaoepecbgggcaaGreatDoor
