/-
 The code does what its typed programs say.
-/
import Derived.Test.YtcaoepecbgggcaaGreatDoorDg5
import Derived.Test.YtcaoepecbgggcaaGreatDoorDxF14
import Derived.Test.YtcaoepecbgggcaaGreatDoorDxF17
import Derived.Test.YtcaoepecbgggcaaGreatDoorDxF18
open List renaming replicate->aA
namespace Go.Proofs.YtcaoepecbgggcaaGreatDoor
open Go Go.Dw Go.Proofs
open Go.IntKind (i64)
set_option maxRecDepth 100000
set_option maxHeartbeats 40000000
open Go.Dw renaming ON -> bD,Qa -> cK,Ts -> bS,PL -> cD,QZ -> xC,Pn -> xL,Qb -> lP,PI -> sC,Rr -> bC,rf -> r
noncomputable def Adn:Dw.Spec:=NO [] .ground RV TH (λa=>UQ a.1 a.2.1 a.2.2) NJ noE
theorem Ajc:NK Tryz.prog 114 Adn:=by
 refine fn2 3 (nK 178 Abc<|nK 179 AtS<|NG) Tryz.func114<|?_;intro a;unfold UQ;exact B

def Zp (a:Lo):List D:=[NR a]
def Zo (ds:List D):Lo:=RD (ds.getD 0 .top)
instance:Od Zp Zo:=⟨λa=>by simp[Zo,Zp]⟩
noncomputable def Aqn:Dw.Spec:=NO [] .val Zp Zo (λa=>Abk a) Agn noE
theorem AoS:NK Tryz.prog 133 Aqn:=by
 refine fn2 1 (nK 195 Aqo<|nK 196 Aqm<|NG) Tryz.func133<|?_;intro a;unfold Abk;refine A 11 ?_;refine cK λhq=>AhP (α:=Int) r r r hq r<|?_
 refine A 4 ?_;refine Qq (E:=[(1,.optr 1 _ 0 0),(2,.optr 2 _ 0 0),(3,.optr 3 _ 0 0)]) (O:=[(1,dV _ 3 36 (NR a)),(2,dV _ 1 45 (.agg [.nils])),(3,dV _ 1 45 (.agg [.osl 8 _ 0 ((aA (a.Code.length:Int).toNat ([]:(List Int))).length)])),(8,dW _ 1 37 ((aA (a.Code.length:Int).toNat ([]:(List Int))).map (eL NF)))]) ((AkN (g:=8) r (AmP (l:=aA (a.Code.length:Int).toNat ([]:(List Int))) NF (λ_ h=>List.eq_of_mem_replicate h)) hX)) λnn=>?_
 refine A 1 ?_;refine lP (E:=λ(_s:(List (List Int))) (g:Nat×Nat×Nat)=>[(1,.optr 1 g.1 0 0),(2,.optr 2 g.2.1 0 0),(3,.optr 3 g.2.2 0 0)]) (O:=λs g=>[(1,dV g.1 3 36 (NR a)),(2,dV g.2.1 1 45 (.agg [.nils])),(3,dV g.2.2 1 45 (.agg [.sl (s.map (eL NF))]))]) (_,_,_) ((Xr [(8,some (_,⟨true,false,1,37,(aA (a.Code.length:Int).toNat ([]:(List Int))).map (eL NF)⟩))] ⟨⟨_,_,r,r,r⟩,trivial⟩ ⟨(Om r),(Om r),(Om r),trivial⟩ ⟨(.inl r),(.inl r),(.inr ⟨_,_,_,_,r,r,r,r,Vz r ⟨(WC (l:=aA (a.Code.length:Int).toNat ([]:(List Int))) (en:=(eL NF)) r r r (by first|(simp;done)|rfl|(simp;rfl))),trivial⟩⟩),trivial⟩))<|?_
 rintro b ⟨c,d,e⟩ nn;dsimp only[AdU];exact B

def Aqu (b:(List PJ)):D:=.sl (b.map UC)
noncomputable def Aqv:Dw.Spec:=NO [] (.row 2 190) Zp Zo (λa=>Abn a) Aqu noE
theorem AoX:NK Tryz.prog 198 Aqv:=by
 refine fn2 1 (NG) Tryz.func198<|?_;intro c;unfold Abn;refine A 18 ?_;refine lP (E:=λ(s:(List PJ)×Int) (g:Nat×Nat)=>[(1,.optr 1 g.1 0 0),(3,.osl 3 g.2 0 s.1.length),(4,Av s.2)]) (O:=λs g=>[(1,dV g.1 3 36 (NR c)),(3,dW g.2 2 190 (s.1.map UC))]) (_,_) hX<|?_
 rintro⟨b,k3⟩ ⟨d,e⟩ nn;dsimp only[AdV];refine Ac 10 ?_ ?_
 ·refine A 2 ?_;refine bC (E:=λ(s:(List PJ)) (g:Nat×Nat)=>[(1,.optr 1 g.1 0 0),(3,.osl 3 g.2 0 s.length),(4,Av k3)]) (O:=λs g=>[(1,dV g.1 3 36 (NR c)),(3,dW g.2 2 190 (s.map UC))]) (j:=λs=>XY k3 s) ?_ ?_
  ·refine Ab 5 λa f=>?_
   refine A 17 ?_;refine sC (E:=λ(s:Bool) (g:Nat×Nat×Nat)=>[(1,.optr 1 g.1 0 0),(3,.osl 3 g.2.1 0 b.length),(4,Av k3),(6,.optr 6 g.2.2 0 0),(7,.bool s)]) (O:=λ_ g=>[(1,dV g.1 3 36 (NR c)),(3,dW g.2.1 2 190 (b.map UC)),(6,dV g.2.2 2 190 (.agg [Av a.A,Av a.B]))]) (j:=λs=>XZ b a k3 s) ?_ ?_
   ·exact B
   ·rintro h ⟨i,k,l⟩ nn;dsimp only[XZ];refine A 7 ?_;refine lP (E:=λ(s:Bool×Int) (g:Nat×Nat×Nat)=>[(1,.optr 1 g.1 0 0),(3,.osl 3 g.2.1 0 b.length),(4,Av k3),(6,.optr 6 g.2.2 0 0),(7,.bool s.1),(8,Av s.2)]) (O:=λ_ g=>[(1,dV g.1 3 36 (NR c)),(3,dW g.2.1 2 190 (b.map UC)),(6,dV g.2.2 2 190 (.agg [Av a.A,Av a.B]))]) (_,_,_) hX<|?_
    rintro⟨m,o⟩ ⟨p,q,t⟩ nn;dsimp only[AiB];refine Ac 9 ?_ ?_
    ·exact B
    ·refine Ac 11 ?_ ?_
     ·refine A 3 ?_;refine bS ([(PJ.mk a.A a.B)]:List PJ) UC r r r (by simp) r r r<|?_
      exact B
     ·exact B
  ·rintro u ⟨v,x⟩ nn;dsimp only[XY];exact B
 ·exact B

def AaT (a:Lo×(List (List Int))):List D:=[NR a.1,.sl (a.2.map (eL NF))]
def AaS (ds:List D):Lo×(List (List Int)):=(RD (ds.getD 0 .top),(uL (uL uI)) (ds.getD 1 .top))
instance:Od AaT AaS:=⟨λa=>by simp[AaS,AaT,OE (u:=(uL uI)) (en:=(eL NF)) (OE (u:=uI) (en:=NF) (λ_=>rfl))]⟩
noncomputable def AnU:Dw.Spec:=NO [] (.row 1 3) AaT AaS (λa=>Wn a.1 a.2) OC noE
theorem AmX:NK Tryz.prog 135 AnU:=by
 refine fn2 2 (nK 198 AoX<|nK 199 Apa<|NG) Tryz.func135<|?_;rintro⟨m,b⟩;unfold Wn;refine A 18 ?_;refine lP (E:=λ(s:(List Int)×Int) (g:Nat×Nat)=>[(1,.sl (b.map (eL NF))),(2,.optr 2 g.1 0 0),(5,.osl 5 g.2 0 s.1.length),(6,Av s.2)]) (O:=λs g=>[(2,dV g.1 3 36 (NR m)),(5,dW g.2 1 3 (s.1.map NF))]) (_,_) hX<|?_
 rintro⟨p,q⟩ ⟨t,u⟩ nn;dsimp only[Ago];refine Ac 10 ?_ ?_
 ·exact B
 ·refine Ab 8 λa v=>?_
  refine A 11 ?_;refine lP (E:=λ(s:(List Int)×Int) (g:Nat×Nat)=>[(1,.sl (b.map (eL NF))),(5,.osl 5 g.1 0 s.1.length),(7,.osl 7 g.2 0 a.length),(8,Av s.2)]) (O:=λs g=>[(5,dW g.1 1 3 (s.1.map NF)),(7,dW g.2 2 190 (a.map UC))]) (_,_) hX<|?_
  rintro⟨h,e⟩ ⟨x,z⟩ nn;dsimp only[AbK];refine Ac 9 ?_ ?_
  ·refine A 2 ?_;refine bC (E:=λ(s:(List Int)) (g:Nat×Nat)=>[(1,.sl (b.map (eL NF))),(5,.osl 5 g.1 0 s.length),(7,.osl 7 g.2 0 a.length),(8,Av e)]) (O:=λs g=>[(5,dW g.1 1 3 (s.map NF)),(7,dW g.2 2 190 (a.map UC))]) (j:=λs=>RJ e s) ?_ ?_
   ·refine A 6 ?_;refine QD r r r (by decide)<|bD λaa ab=>?_
    refine Ab 2 λd ac=>?_
    refine A 5 ?_;refine QD r r r (by decide)<|bD λad ae=>?_
    refine Ab 2 λc af=>?_
    refine A 5 ?_;refine sC (E:=λ(s:Bool×Bool) (g:Nat×Nat)=>[(1,.sl (b.map (eL NF))),(5,.osl 5 g.1 0 h.length),(7,.osl 7 g.2 0 a.length),(8,Av e),(9,Av d),(10,Av c),(51,.sl (b.map (eL NF))),(52,.osl 5 g.1 0 h.length),(53,Av d),(54,Av c),(55,.bool s.1),(56,.bool s.2)]) (O:=λ_ g=>[(5,dW g.1 1 3 (h.map NF)),(7,dW g.2 2 190 (a.map UC))]) (j:=λs=>Yv d c e h s.1 s.2) ?_ ?_
    ·exact B
    ·rintro⟨k,l⟩ ⟨ag,ah⟩ nn;dsimp only[Yv];refine A 6 ?_;refine lP (E:=λ(s:(List Int)×Int) (g:Nat×Nat)=>[(1,.sl (b.map (eL NF))),(5,.osl 5 g.1 0 s.1.length),(7,.osl 7 g.2 0 a.length),(8,Av e),(9,Av d),(10,Av c),(11,Av s.2),(51,.sl (b.map (eL NF))),(52,.osl 5 g.1 0 s.1.length),(53,Av d),(54,Av c),(55,.bool k),(56,.bool l)]) (O:=λs g=>[(5,dW g.1 1 3 (s.1.map NF)),(7,dW g.2 2 190 (a.map UC))]) (_,_) hX<|?_
     rintro⟨f,i⟩ ⟨ai,aj⟩ nn;dsimp only[AbL];refine Ac 9 ?_ ?_
     ·refine A 4 ?_;refine sC (E:=λ(s:Bool) (g:Nat×Nat)=>[(1,.sl (b.map (eL NF))),(5,.osl 5 g.1 0 f.length),(7,.osl 7 g.2 0 a.length),(8,Av e),(9,Av d),(10,Av c),(11,Av i),(51,.sl (b.map (eL NF))),(52,.osl 5 g.1 0 f.length),(53,Av d),(54,Av c),(55,.bool k),(56,.bool l),(77,.bool s)]) (O:=λ_ g=>[(5,dW g.1 1 3 (f.map NF)),(7,dW g.2 2 190 (a.map UC))]) (j:=λs=>TY i f d c s) ?_ ?_
      ·refine Ab 4 λak ao=>?_
       refine A 4 ?_;refine RS r ?_ ?_
       ·refine A 8 ?_;exact xC (s:=true) (_,_) hX
       ·refine Ab 3 λo ap=>?_
        refine A 5 ?_;exact xC (s:=(o==c)) (_,_) hX
      ·rintro aq ⟨ar,au⟩ nn;dsimp only[TY];refine cD r ?_ ?_
       ·exact B
       ·refine A 8 ?_;exact xL (s:=(f,i64.wrap (i+1))) (_,_) hX
     ·exact B
   ·rintro av ⟨aw,ax⟩ nn;dsimp only[RJ];exact B
  ·exact B

noncomputable def Ana:Dw.Spec:=NO [] .val XC XB (λa=>Ua a.1 a.2.1 a.2.2) PZ noE
theorem Ame:NK Tryz.prog 34 Ana:=by
 refine fn2 3 (nK 82 Afi<|nK 83 AhL<|NG) Tryz.func34<|?_;rintro⟨l,m,h⟩;unfold Ua;refine Ab 11 λf o=>?_
 refine Ab 18 λd p=>?_
 refine A 13 ?_;refine lP (E:=λ(s:(List Int)×Int×Int) (g:Nat×Nat×Nat×Nat)=>[(2,Av h),(6,.optr 6 g.1 0 0),(8,.optr 8 g.2.1 0 0),(9,Av s.2.2),(10,.sl (d.Slots.map OH)),(11,Av s.2.1)]) (O:=λs g=>[(6,dV g.1 3 39 (.agg [Av 0,Av 0,.osl 900 g.2.2.1 0 (([]:List Int).length)])),(8,dV g.2.1 3 39 (.agg [Av f,Av 0,.osl 901 g.2.2.2 0 s.1.length])),(900,dW g.2.2.1 1 3 (([]:List Int).map NF)),(901,dW g.2.2.2 1 3 (s.1.map NF))]) (_,_,_,_) ((ZJ (gg:=6) (off:=2) (tt:=900) (s:=1) (tyy:=3) r r r r (ZJ (gg:=8) (off:=2) (tt:=901) (s:=1) (tyy:=3) r r r r hX)))<|?_
 rintro⟨c,e,q⟩ ⟨t,u,v,x⟩ nn;dsimp only[Afv];refine Ac 9 ?_ ?_
 ·refine Ab 9 λz aa=>?_
  refine Ab 3 λa ab=>?_
  refine A 8 ?_;refine sC (E:=λ(s:NS×NS×Int×Int×Bool) (g:Nat×Nat×Nat×Nat)=>[(2,Av h),(6,.optr 6 g.1 0 0),(8,.optr 8 g.2.1 0 0),(10,.sl (d.Slots.map OH)),(11,Av e),(12,Av a.1),(48,Av a.1),(49,.sl (d.Slots.map OH)),(50,Av e),(51,.fptr (.agg [Av s.1.Size,Av s.1.Align]) 0),(52,.fptr (.agg [Av s.2.1.Size,Av s.2.1.Align]) 0),(53,Av s.2.2.1),(54,Av s.2.2.2.1),(55,.bool s.2.2.2.2)]) (O:=λ_ g=>[(6,dV g.1 3 39 (.agg [Av 0,Av 0,.osl 900 g.2.2.1 0 (([]:List Int).length)])),(8,dV g.2.1 3 39 (.agg [Av f,Av 0,.osl 901 g.2.2.2 0 c.length])),(900,dW g.2.2.1 1 3 (([]:List Int).map NF)),(901,dW g.2.2.2 1 3 (c.map NF))]) (j:=λs=>AaW c a d e s.1 s.2.1 s.2.2.1 s.2.2.2.1 s.2.2.2.2) ?_ ?_
  ·refine A 5 ?_;refine RS r ?_ ?_
   ·refine A 26 ?_;refine Pu (b:=((NT.mk 0 0 ([])),9)) r ?_ r r ?_ (by first|rfl|(simp only[NN];rfl)|(simp only[NQ];rfl)|(simp only[NN,NQ];rfl)|(simp[PZ,PK];try rfl)) (by decide)
    all_goals first|(simp;done)|(simp;omega)|rfl|(simp[Pd,OU];done)|(simp[cells];done)
   ·refine Ab 3 λac ad=>?_
    refine Ac 8 ?_ ?_
    ·refine A 14 ?_;refine Pu (b:=((NT.mk 0 0 ([])),9)) r ?_ r r ?_ (by first|rfl|(simp only[NN];rfl)|(simp only[NQ];rfl)|(simp only[NN,NQ];rfl)|(simp[PZ,PK];try rfl)) (by decide)
     all_goals first|(simp;done)|(simp;omega)|rfl|(simp[Pd,OU];done)|(simp[cells];done)
    ·exact B
  ·rintro⟨ae,af,ag,ah,ai⟩ ⟨aj,ak,ao,ap⟩ nn;dsimp only[AaW];refine Ab 22 λi aq=>?_
   refine A 13 ?_;exact xL (s:=((([]:List Int)++c)++([a.1]:List Int),i64.wrap (e+1),i64.wrap (a.1+i.Size))) (_,_,_,_) ((ZK (E1:=[(2,Av h),(6,.optr 6 _ 0 0),(8,.optr 8 _ 0 0),(9,Av (i64.wrap (a.1+i.Size))),(10,.sl (d.Slots.map OH)),(11,Av (i64.wrap (e+1)))]) (O1:=[(6,dV _ 3 39 (.agg [Av 0,Av 0,.osl 900 _ 0 (([]:List Int).length)])),(8,dV _ 3 39 (.agg [Av f,Av 0,.osl 14 _ 0 (((([]:List Int)++c)++([a.1]:List Int)).length)])),(14,dW _ 1 3 (((([]:List Int)++c)++([a.1]:List Int)).map NF)),(900,dW _ 1 3 (([]:List Int).map NF))]) hX (λ_=>Qe (λg=>bif Nat.beq g 14 then 901 else g) (by kernel_rfl) hX)))
 ·refine Ab 9 λk ar=>?_
  refine A 14 ?_;refine RS r ?_ ?_
  ·refine A 15 ?_;refine Pu (b:=((NT.mk 0 0 ([])),9)) r ?_ r r ?_ (by first|rfl|(simp only[NN];rfl)|(simp only[NQ];rfl)|(simp only[NN,NQ];rfl)|(simp[PZ,PK];try rfl)) (by decide)
   all_goals first|(simp;done)|(simp;omega)|rfl|(simp[Pd,OU];done)|(simp[cells];done)
  ·refine Ac 5 ?_ ?_
   ·refine A 9 ?_;refine Pu (b:=((NT.mk 0 0 ([])),9)) r ?_ r r ?_ (by first|rfl|(simp only[NN];rfl)|(simp only[NQ];rfl)|(simp only[NN,NQ];rfl)|(simp[PZ,PK];try rfl)) (by decide)
    all_goals first|(simp;done)|(simp;omega)|rfl|(simp[Pd,OU];done)|(simp[cells];done)
   ·refine A 17 ?_;refine Pu (b:=((NT.mk f k.1 c),0)) r ?_ r r ?_ (by first|rfl|(simp only[NN];rfl)|(simp only[NQ];rfl)|(simp only[NN,NQ];rfl)|(simp[PZ,PK];try rfl)) (by decide)
    all_goals first|(simp;done)|(simp;omega)|rfl|(simp[Pd,OU];done)|(simp[cells];done)

end Go.Proofs.YtcaoepecbgggcaaGreatDoor
