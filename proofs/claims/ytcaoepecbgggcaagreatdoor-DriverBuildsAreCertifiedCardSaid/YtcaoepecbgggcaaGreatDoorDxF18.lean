/-
 The code does what its typed programs say.
-/
import Derived.Test.YtcaoepecbgggcaaGreatDoorDxF10
import Derived.Test.YtcaoepecbgggcaaGreatDoorDxF12
open List renaming replicate->aA
namespace Go.Proofs.YtcaoepecbgggcaaGreatDoor
open Go Go.Dw Go.Proofs
open Go.IntKind (i64)
set_option maxRecDepth 100000
set_option maxHeartbeats 40000000
open Go.Dw renaming OO -> bD,Qk -> cK,Vf -> sE,Qs -> cD,Rp -> xC,PY -> xL,QS -> lP,PQ -> sC,RQ -> bC,rf -> r
theorem AkI:Nr Tryz.prog 180 (fS .ground Ahi (λa=>Wo a.1 a.2) Nq):=by
 refine fn2 2 (nK 181 Anu<|nK 243 AjN<|nK 230 Aal<|Np) Tryz.func180<|?_;rintro⟨c,d⟩;unfold Wo;refine Ab 10 λb e=>?_
 refine Ac 18 ?_ ?_
 ·exact B
 ·refine Ac 10 ?_ ?_
  ·exact B
  ·refine A 14 ?_;refine lP (E:=λ(s:Int) (g:Nat)=>[oP 5 g,oM 28 b.1.Frame.Code NG,oL 29 b.1.Frame.Code,oI 30 s]) (O:=λ_ g=>[(5,dV g 5 200 (Qb b.1))]) _ hX<|?_
   rintro f h nn;dsimp only[Wp];exact B

noncomputable def AkJ:Dw.Spec:=NO [] .ground WV Aeo (λa=>ZD a) Nq noE
theorem ApE:Nr Tryz.prog 115 AkJ:=by
 refine fn2 1 (nK 150 YL<|nK 180 AkI<|nK 181 Anu<|nK 182 AjM<|Np) Tryz.func115<|?_;intro a;unfold ZD;refine A 6 ?_;refine sC (E:=λ(_s:Unit) (g:Nat)=>[oP 1 g]) (O:=λ_ g=>[(1,dV g 2 58 (.agg [Nm a.Align,.sl (a.Frames.map NW)]))]) (j:=λ_=>AaN a) ?_ ?_
 ·refine Ac 16 ?_ ?_
  ·exact B
  ·refine Ac 7 ?_ ?_
   ·exact B
   ·refine sC (E:=λ(s:Bool) (g:Nat)=>[oP 1 g,oB 18 s]) (O:=λ_ g=>[(1,dV g 2 58 (.agg [Nm a.Align,.sl (a.Frames.map NW)]))]) (j:=λs=>Yg a s) ?_ ?_
    ·exact B
    ·rintro b c nn;dsimp only[Yg];exact B
 ·rintro⟨⟩ d nn;dsimp only[AaN];refine A 10 ?_;refine lP (E:=λ(s:Int) (g:Nat)=>[oP 1 g,oL 37 a.Frames,oI 38 s]) (O:=λ_ g=>[(1,dV g 2 58 (.agg [Nm a.Align,.sl (a.Frames.map NW)]))]) _ hX<|?_
  rintro e f nn;dsimp only[Ajl];refine Ac 6 ?_ ?_
  ·exact B
  ·refine A 15 ?_;refine lP (E:=λ(s:Int) (g:Nat)=>[oP 1 g,oL 50 a.Frames,oI 51 s]) (O:=λ_ g=>[(1,dV g 2 58 (.agg [Nm a.Align,.sl (a.Frames.map NW)]))]) _ hX<|?_
   rintro h i nn;dsimp only[Aeh];exact B

theorem AoB:Nr Tryz.prog 164 (fS .ground PX (λa=>Adn a.1 a.2) WY):=by
 refine fn2 2 (nK 165 Aia<|nK 225 AmI<|Np) Tryz.func164<|?_;rintro⟨b,c⟩;unfold Adn;refine Ab 14 λd e=>?_
 refine Ac 4 ?_ ?_
 ·exact B
 ·refine A 9 ?_;refine lP (E:=λ(s:Int) (g:Nat×Nat)=>[oP 2 g.1,oP 3 g.2,oI 7 s]) (O:=λ_ g=>[(2,dV g.1 3 36 (Nz b)),(3,dV g.2 1 45 (.agg [.sl (c.Out.map (eL Av))]))]) (_,_) hX<|?_
  rintro k4 ⟨f,h⟩ nn;dsimp only[AhY];exact B

theorem AoA:Nr Tryz.prog 104 (fS .ground PX (λa=>Adm a.1 a.2) Nq):=by
 refine fn2 2 (nK 164 AoB<|nK 165 Aia<|Np) Tryz.func104<|?_;intro a;unfold Adm;exact B

abbrev AnF:=en3 Nz Rx D.bool
abbrev Axf:=de3 Rh Vb uBo
def Aei (b:(List (List Int))×Int):D:=.tup [.sl (b.1.map (eL Av)),Nm b.2]
theorem Aie:Nr Tryz.prog 197 (fS .val AnF (λa=>AaD a.1 a.2.1 a.2.2) Aei):=by
 refine fn2 3 (nK 104 AoA<|nK 143 XV<|nK 67 Zn<|Np) Tryz.func197<|?_;rintro⟨d,e,c⟩;unfold AaD;refine Ab 13 λv x=>?_
 refine Ac 10 ?_ ?_
 ·exact B
 ·refine A 7 ?_;refine cK λhq=>Adv (α:=Int) r r r hq r<|?_
  refine A 2 ?_;refine Qd (E:=[oB 2 c,oP 3 _,oP 4 _,(9,.osl 9 _ 0 ((aA (d.Slots.length:Int).toNat ([]:(List Int))).length))]) (O:=[(3,dV _ 3 36 (Nz d)),(4,dV _ 1 45 (.agg [.sl (e.Out.map (eL Av))])),(9,dW _ 1 37 ((aA (d.Slots.length:Int).toNat ([]:(List Int))).map (eL Av)))]) ((Agu (g:=9) r (AiV (l:=aA (d.Slots.length:Int).toNat ([]:(List Int))) Av (λ_ h=>List.eq_of_mem_replicate h)) hX)) λnn=>?_
  refine A 7 ?_;refine lP (E:=λ(s:(List (List Int))×Int) (g:Nat×Nat×Nat)=>[oB 2 c,oP 3 g.1,oP 4 g.2.1,oT 9 g.2.2 s.1,oI 10 s.2]) (O:=λs g=>[(3,dV g.1 3 36 (Nz d)),(4,dV g.2.1 1 45 (.agg [.sl (e.Out.map (eL Av))])),(9,dW g.2.2 1 37 (s.1.map (eL Av)))]) (_,_,_) hX<|?_
  rintro⟨m,k6⟩ ⟨z,aa,ab⟩ nn;dsimp only[Aid];refine Ac 10 ?_ ?_
  ·refine A 2 ?_;refine bC (E:=λ(s:Int×Int×Int×Int×Int×(List (List Int))) (g:Nat×Nat×Nat)=>[oB 2 c,oP 3 g.1,oP 4 g.2.1,oT 9 g.2.2 s.2.2.2.2.2,oI 10 k6]) (O:=λs g=>[(3,dV g.1 3 36 (Nz d)),(4,dV g.2.1 1 45 (.agg [.sl (e.Out.map (eL Av))])),(9,dW g.2.2 1 37 (s.2.2.2.2.2.map (eL Av)))]) (j:=λs=>TM k6 s.1 s.2.1 s.2.2.1 s.2.2.2.1 s.2.2.2.2.1 s.2.2.2.2.2) ?_ ?_
   ·refine Ab 5 λi ac=>?_
    refine Ab 9 λb ad=>?_
    refine A 8 ?_;refine sC (E:=λ(_s:Unit) (g:Nat×Nat×Nat×Nat)=>[oB 2 c,oP 3 g.1,oP 4 g.2.1,oT 9 g.2.2.1 m,oI 10 k6,oP 11 g.2.2.2,oI 12 b.1,oB 13 b.2]) (O:=λ_ g=>[(3,dV g.1 3 36 (Nz d)),(4,dV g.2.1 1 45 (.agg [.sl (e.Out.map (eL Av))])),(9,dW g.2.2.1 1 37 (m.map (eL Av))),(11,dV g.2.2.2 5 90 (NG i))]) (j:=λ_=>Xz e k6 b c i m) ?_ ?_
    ·exact B
    ·rintro⟨⟩ ⟨ae,af,ag,ah⟩ nn;dsimp only[Xz];refine A 6 ?_;refine lP (E:=λ(s:(List (List Int))×Int) (g:Nat×Nat×Nat×Nat)=>[oB 2 c,oP 3 g.1,oP 4 g.2.1,oT 9 g.2.2.1 s.1,oI 10 k6,oP 11 g.2.2.2,oI 12 b.1,oB 13 b.2,oI 14 s.2]) (O:=λs g=>[(3,dV g.1 3 36 (Nz d)),(4,dV g.2.1 1 45 (.agg [.sl (e.Out.map (eL Av))])),(9,dW g.2.2.1 1 37 (s.1.map (eL Av))),(11,dV g.2.2.2 5 90 (NG i))]) (_,_,_,_) hX<|?_
     rintro⟨f,k⟩ ⟨ai,aj,ak,ao⟩ nn;dsimp only[ZL];refine sC (E:=λ(_s:Unit) (g:Nat×Nat×Nat×Nat)=>[oB 2 c,oP 3 g.1,oP 4 g.2.1,oT 9 g.2.2.1 f,oI 10 k6,oP 11 g.2.2.2,oI 12 b.1,oB 13 b.2,oI 14 k,oB 62 b.2]) (O:=λ_ g=>[(3,dV g.1 3 36 (Nz d)),(4,dV g.2.1 1 45 (.agg [.sl (e.Out.map (eL Av))])),(9,dW g.2.2.1 1 37 (f.map (eL Av))),(11,dV g.2.2.2 5 90 (NG i))]) (j:=λ_=>ZM e k6 k b f c i) ?_ ?_
     ·exact B
     ·rintro⟨⟩ ⟨ap,aq,ar,au⟩ nn;dsimp only[ZM];refine Ab 7 λav aw=>?_
      refine Ab 3 λo ax=>?_
      refine A 5 ?_;refine sC (E:=λ(s:Bool×Bool×Bool×Bool) (g:Nat×Nat×Nat×Nat)=>[oB 2 c,oP 3 g.1,oP 4 g.2.1,oT 9 g.2.2.1 f,oI 10 k6,oP 11 g.2.2.2,oI 12 b.1,oB 13 b.2,oI 14 k,oI 15 o,oB 62 b.2,oB 78 c,(79,.bool (!c)),oB 80 s.1,oB 84 s.2.1,oB 85 s.2.2.1,oB 90 s.2.2.2]) (O:=λ_ g=>[(3,dV g.1 3 36 (Nz d)),(4,dV g.2.1 1 45 (.agg [.sl (e.Out.map (eL Av))])),(9,dW g.2.2.1 1 37 (f.map (eL Av))),(11,dV g.2.2.2 5 90 (NG i))]) (j:=λs=>SD b f o k s.1 s.2.1 s.2.2.1 s.2.2.2) ?_ ?_
      ·exact B
      ·rintro⟨ay,az,ba,bb⟩ ⟨bc,bd,bf,bg⟩ nn;dsimp only[SD];refine Ab 8 λbh bi=>?_
       refine Ab 2 λp bj=>?_
       refine Ab 4 λbk bl=>?_
       refine Ab 2 λq bm=>?_
       refine A 2 ?_;refine bD λbn t=>sE (l:=f) (en:=(eL Av)) (q':=p) r r r r r r r (by simp) t r r r (by simp[PG,cells,eL]) r<|?_
       refine A 1 ?_;refine bD λbo u=>sE (l:=f.set b.1.toNat p) (en:=(eL Av)) (q':=q) r r r r r r r (by simp) u r r r (by simp[PG,cells,eL]) r<|?_
       exact B
   ·rintro⟨x7,x8,x9,bs,bt,bu⟩ ⟨bv,bw,bx⟩ nn;dsimp only[TM];exact B
  ·exact B

theorem AoD:Nr Tryz.prog 134 (fS .val PX (λa=>Adp a.1 a.2) Aei):=by
 refine fn2 2 (nK 197 Aie<|Np) Tryz.func134<|?_;intro a;unfold Adp;exact B

theorem AnE:Nr Tryz.prog 137 (fS .val PX (λa=>Afv a.1 a.2) Aei):=by
 refine fn2 2 (nK 197 Aie<|Np) Tryz.func137<|?_;intro a;unfold Afv;exact B

theorem AlP:Nr Tryz.prog 34 (fS .val Aez (λa=>Vn a.1 a.2.1 a.2.2) PT):=by
 refine fn2 3 (nK 82 Aek<|nK 83 Ahk<|Np) Tryz.func34<|?_;rintro⟨m,o,i⟩;unfold Vn;refine Ab 11 λh p=>?_
 refine Ab 18 λe q=>?_
 refine A 13 ?_;refine lP (E:=λ(s:(List Int)×Int×Int) (g:Nat×Nat×Nat×Nat)=>[oI 2 i,oP 6 g.1,oP 8 g.2.1,oI 9 s.2.2,oM 10 e.Slots On,oI 11 s.2.1]) (O:=λs g=>[(6,dV g.1 3 39 (.agg [Nm 0,Nm 0,.osl 900 g.2.2.1 0 (([]:List Int).length)])),(8,dV g.2.1 3 39 (.agg [Nm h,Nm 0,.osl 901 g.2.2.2 0 s.1.length])),(900,dW g.2.2.1 1 3 (([]:List Int).map Av)),(901,dW g.2.2.2 1 3 (s.1.map Av))]) (_,_,_,_) ((Zg (gg:=6) (off:=2) (tt:=900) (s:=1) (tyy:=3) r r r r (Zg (gg:=8) (off:=2) (tt:=901) (s:=1) (tyy:=3) r r r r hX)))<|?_
 rintro⟨d,f,t⟩ ⟨u,v,x,z⟩ nn;dsimp only[AeB];refine Ac 9 ?_ ?_
 ·refine Ab 9 λaa ab=>?_
  refine Ab 3 λc ac=>?_
  refine A 8 ?_;refine sC (E:=λ(s:NB×NB×Int×Int×Bool) (g:Nat×Nat×Nat×Nat)=>[oI 2 i,oP 6 g.1,oP 8 g.2.1,oM 10 e.Slots On,oI 11 f,oI 12 c.1,oI 48 c.1,oM 49 e.Slots On,oI 50 f,(51,.fptr (.agg [Nm s.1.Size,Nm s.1.Align]) 0),(52,.fptr (.agg [Nm s.2.1.Size,Nm s.2.1.Align]) 0),oI 53 s.2.2.1,oI 54 s.2.2.2.1,oB 55 s.2.2.2.2]) (O:=λ_ g=>[(6,dV g.1 3 39 (.agg [Nm 0,Nm 0,.osl 900 g.2.2.1 0 (([]:List Int).length)])),(8,dV g.2.1 3 39 (.agg [Nm h,Nm 0,.osl 901 g.2.2.2 0 d.length])),(900,dW g.2.2.1 1 3 (([]:List Int).map Av)),(901,dW g.2.2.2 1 3 (d.map Av))]) (j:=λs=>Aak d c e f s.1 s.2.1 s.2.2.1 s.2.2.2.1 s.2.2.2.2) ?_ ?_
  ·refine A 5 ?_;refine QO r ?_ ?_
   ·refine A 26 ?_;refine Po (b:=((NC.mk 0 0 ([])),9)) r ?_ r r ?_ (by first|rfl|(simp only[Nu];rfl)|(simp only[Nx];rfl)|(simp only[Nu,Nx];rfl)|(simp[PT,Pv];try rfl)) (by decide)
    all_goals first|(simp;done)|(simp;omega)|rfl|(simp[OQ,OH];done)|(simp[cells];done)
   ·refine Ab 3 λad ae=>?_
    refine Ac 8 ?_ ?_
    ·refine A 14 ?_;refine Po (b:=((NC.mk 0 0 ([])),9)) r ?_ r r ?_ (by first|rfl|(simp only[Nu];rfl)|(simp only[Nx];rfl)|(simp only[Nu,Nx];rfl)|(simp[PT,Pv];try rfl)) (by decide)
     all_goals first|(simp;done)|(simp;omega)|rfl|(simp[OQ,OH];done)|(simp[cells];done)
    ·exact B
  ·rintro⟨af,ag,ah,ai,aj⟩ ⟨ak,ao,ap,aq⟩ nn;dsimp only[Aak];refine Ab 22 λk ar=>?_
   refine A 13 ?_;exact xL (s:=((([]:List Int)++d)++([c.1]:List Int),i64.wrap (f+1),i64.wrap (c.1+k.Size))) (_,_,_,_) ((XQ (E1:=[oI 2 i,oP 6 _,oP 8 _,(9,Nm (i64.wrap (c.1+k.Size))),oM 10 e.Slots On,(11,Nm (i64.wrap (f+1)))]) (O1:=[(6,dV _ 3 39 (.agg [Nm 0,Nm 0,.osl 900 _ 0 (([]:List Int).length)])),(8,dV _ 3 39 (.agg [Nm h,Nm 0,.osl 14 _ 0 (((([]:List Int)++d)++([c.1]:List Int)).length)])),(14,dW _ 1 3 (((([]:List Int)++d)++([c.1]:List Int)).map Av)),(900,dW _ 1 3 (([]:List Int).map Av))]) hX (λ_=>PR (λg=>bif Nat.beq g 14 then 901 else g) (by kernel_rfl) hX)))
 ·refine Ab 9 λl au=>?_
  refine A 14 ?_;refine QO r ?_ ?_
  ·refine A 15 ?_;refine Po (b:=((NC.mk 0 0 ([])),9)) r ?_ r r ?_ (by first|rfl|(simp only[Nu];rfl)|(simp only[Nx];rfl)|(simp only[Nu,Nx];rfl)|(simp[PT,Pv];try rfl)) (by decide)
   all_goals first|(simp;done)|(simp;omega)|rfl|(simp[OQ,OH];done)|(simp[cells];done)
  ·refine Ac 5 ?_ ?_
   ·refine A 9 ?_;refine Po (b:=((NC.mk 0 0 ([])),9)) r ?_ r r ?_ (by first|rfl|(simp only[Nu];rfl)|(simp only[Nx];rfl)|(simp only[Nu,Nx];rfl)|(simp[PT,Pv];try rfl)) (by decide)
    all_goals first|(simp;done)|(simp;omega)|rfl|(simp[OQ,OH];done)|(simp[cells];done)
   ·refine A 17 ?_;refine Po (b:=((NC.mk h l.1 d),0)) r ?_ r r ?_ (by first|rfl|(simp only[Nu];rfl)|(simp only[Nx];rfl)|(simp only[Nu,Nx];rfl)|(simp[PT,Pv];try rfl)) (by decide)
    all_goals first|(simp;done)|(simp;omega)|rfl|(simp[OQ,OH];done)|(simp[cells];done)

end Go.Proofs.YtcaoepecbgggcaaGreatDoor
