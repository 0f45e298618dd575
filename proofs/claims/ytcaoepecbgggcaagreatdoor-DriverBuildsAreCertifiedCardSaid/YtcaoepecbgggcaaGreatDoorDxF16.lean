/-
 The code does what its typed programs say.
-/
import Derived.Test.YtcaoepecbgggcaaGreatDoorDg5
import Derived.Test.YtcaoepecbgggcaaGreatDoorDxF9
import Derived.Test.YtcaoepecbgggcaaGreatDoorDxF12
import Derived.Test.YtcaoepecbgggcaaGreatDoorDxF13
open List renaming replicate->aA
namespace Go.Proofs.YtcaoepecbgggcaaGreatDoor
open Go Go.Dw Go.Proofs
open Go.IntKind (i64)
set_option maxRecDepth 100000
set_option maxHeartbeats 40000000
open Go.Dw renaming OO -> bD,Qk -> cK,TR -> bS,Abq -> aP,Vf -> sE,AaJ -> iO,Qs -> cD,Rp -> xC,PY -> xL,Zf -> hE,QS -> lP,PQ -> sC,RQ -> bC,rf -> r
noncomputable def Acm:Dw.Spec:=NO [] .ground RR AfQ (λa=>UG a.1 a.2.1 a.2.2) Nq noE
theorem AiD:Nr Tryz.prog 114 Acm:=by
 refine fn2 3 (nK 178 Aat<|nK 179 AsJ<|Np) Tryz.func114<|?_;intro a;unfold UG;exact B

abbrev AgD:=en1 Nz
abbrev Axd:=de1 Rh
theorem AhX:Nr Tryz.prog 133 (fS .val AgD (λa=>Yy a) Afu):=by
 refine fn2 1 (nK 195 ApL<|nK 196 ApK<|Np) Tryz.func133<|?_;intro b;unfold Yy;refine A 11 ?_;refine cK λhq=>Adv (α:=Int) r r r hq r<|?_
 refine A 4 ?_;refine Qd (E:=[oP 1 _,oP 2 _,oP 3 _]) (O:=[(1,dV _ 3 36 (Nz b)),(2,dV _ 1 45 (.agg [.nils])),(3,dV _ 1 45 (.agg [.osl 8 _ 0 ((aA (b.Code.length:Int).toNat ([]:(List Int))).length)])),(8,dW _ 1 37 ((aA (b.Code.length:Int).toNat ([]:(List Int))).map (eL Av)))]) ((Agu (g:=8) r (AiV (l:=aA (b.Code.length:Int).toNat ([]:(List Int))) Av (λ_ h=>List.eq_of_mem_replicate h)) hX)) λnn=>?_
 refine A 1 ?_;refine lP (E:=λ(_s:(List (List Int))) (g:Nat×Nat×Nat)=>[oP 1 g.1,oP 2 g.2.1,oP 3 g.2.2]) (O:=λs g=>[(1,dV g.1 3 36 (Nz b)),(2,dV g.2.1 1 45 (.agg [.nils])),(3,dV g.2.2 1 45 (.agg [.sl (s.map (eL Av))]))]) (_,_,_) ((WI [(8,some (_,⟨true,false,1,37,(aA (b.Code.length:Int).toNat ([]:(List Int))).map (eL Av)⟩))] ⟨⟨_,_,r,r,r⟩,trivial⟩ ⟨(NY r),(NY r),(NY r),trivial⟩ ⟨(.inl r),(.inl r),(.inr ⟨_,_,_,_,r,r,r,r,Vq r ⟨(We (l:=aA (b.Code.length:Int).toNat ([]:(List Int))) (en:=(eL Av)) r r r (by first|(simp;done)|rfl|(simp;rfl))),trivial⟩⟩),trivial⟩))<|?_
 rintro c ⟨d,e,f⟩ nn;dsimp only[AcR];exact B

def ApM (b:(List PH)):D:=.sl (b.map TG)
theorem AoE:Nr Tryz.prog 198 (fS (.row 2 190) AgD (λa=>AaC a) ApM):=by
 refine fn2 1 (Np) Tryz.func198<|?_;intro d;unfold AaC;refine A 18 ?_;refine lP (E:=λ(s:(List PH)×Int) (g:Nat×Nat)=>[oP 1 g.1,oT 3 g.2 s.1,oI 4 s.2]) (O:=λs g=>[(1,dV g.1 3 36 (Nz d)),(3,dW g.2 2 190 (s.1.map TG))]) (_,_) hX<|?_
 rintro⟨c,k3⟩ ⟨e,f⟩ nn;dsimp only[AcU];refine Ac 10 ?_ ?_
 ·refine A 2 ?_;refine bC (E:=λ(s:(List PH)) (g:Nat×Nat)=>[oP 1 g.1,oT 3 g.2 s,oI 4 k3]) (O:=λs g=>[(1,dV g.1 3 36 (Nz d)),(3,dW g.2 2 190 (s.map TG))]) (j:=λs=>Xx k3 s) ?_ ?_
  ·refine Ab 5 λb h=>?_
   refine A 17 ?_;refine sC (E:=λ(s:Bool) (g:Nat×Nat×Nat)=>[oP 1 g.1,oT 3 g.2.1 c,oI 4 k3,oP 6 g.2.2,oB 7 s]) (O:=λ_ g=>[(1,dV g.1 3 36 (Nz d)),(3,dW g.2.1 2 190 (c.map TG)),(6,dV g.2.2 2 190 (.agg [Nm b.A,Nm b.B]))]) (j:=λs=>Xy c b k3 s) ?_ ?_
   ·exact B
   ·rintro i ⟨k,l,m⟩ nn;dsimp only[Xy];refine A 7 ?_;refine lP (E:=λ(s:Bool×Int) (g:Nat×Nat×Nat)=>[oP 1 g.1,oT 3 g.2.1 c,oI 4 k3,oP 6 g.2.2,oB 7 s.1,oI 8 s.2]) (O:=λ_ g=>[(1,dV g.1 3 36 (Nz d)),(3,dW g.2.1 2 190 (c.map TG)),(6,dV g.2.2 2 190 (.agg [Nm b.A,Nm b.B]))]) (_,_,_) hX<|?_
    rintro⟨o,p⟩ ⟨q,t,u⟩ nn;dsimp only[Aic];refine Ac 9 ?_ ?_
    ·exact B
    ·refine Ac 11 ?_ ?_
     ·refine A 3 ?_;refine bS ([(PH.mk b.A b.B)]:List PH) TG r r r (by simp) r r r<|?_
      exact B
     ·exact B
  ·rintro v ⟨x,z⟩ nn;dsimp only[Xx];exact B
 ·exact B

abbrev AlN:=en2 Nz (eL (eL Av))
abbrev Avq:=de2 Rh (uL (uL uI))
theorem AmJ:Nr Tryz.prog 135 (fS (.row 1 3) AlN (λa=>VX a.1 a.2) Oj):=by
 refine fn2 2 (nK 198 AoE<|nK 199 AoG<|Np) Tryz.func135<|?_;rintro⟨o,c⟩;unfold VX;refine A 18 ?_;refine lP (E:=λ(s:(List Int)×Int) (g:Nat×Nat)=>[(1,.sl (c.map (eL Av))),oP 2 g.1,oT 5 g.2 s.1,oI 6 s.2]) (O:=λs g=>[(2,dV g.1 3 36 (Nz o)),(5,dW g.2 1 3 (s.1.map Av))]) (_,_) hX<|?_
 rintro⟨q,t⟩ ⟨u,v⟩ nn;dsimp only[Afw];refine Ac 10 ?_ ?_
 ·exact B
 ·refine Ab 8 λb x=>?_
  refine A 11 ?_;refine lP (E:=λ(s:(List Int)×Int) (g:Nat×Nat)=>[(1,.sl (c.map (eL Av))),oT 5 g.1 s.1,oT 7 g.2 b,oI 8 s.2]) (O:=λs g=>[(5,dW g.1 1 3 (s.1.map Av)),(7,dW g.2 2 190 (b.map TG))]) (_,_) hX<|?_
  rintro⟨i,f⟩ ⟨z,aa⟩ nn;dsimp only[AaX];refine Ac 9 ?_ ?_
  ·refine A 2 ?_;refine bC (E:=λ(s:(List Int)) (g:Nat×Nat)=>[(1,.sl (c.map (eL Av))),oT 5 g.1 s,oT 7 g.2 b,oI 8 f]) (O:=λs g=>[(5,dW g.1 1 3 (s.map Av)),(7,dW g.2 2 190 (b.map TG))]) (j:=λs=>RB f s) ?_ ?_
   ·refine A 6 ?_;refine QG r r r (by decide)<|bD λab ac=>?_
    refine Ab 2 λe ad=>?_
    refine A 5 ?_;refine QG r r r (by decide)<|bD λae af=>?_
    refine Ab 2 λd ag=>?_
    refine A 5 ?_;refine sC (E:=λ(s:Bool×Bool) (g:Nat×Nat)=>[(1,.sl (c.map (eL Av))),oT 5 g.1 i,oT 7 g.2 b,oI 8 f,oI 9 e,oI 10 d,(51,.sl (c.map (eL Av))),oS 52 5 g.1 i,oI 53 e,oI 54 d,oB 55 s.1,oB 56 s.2]) (O:=λ_ g=>[(5,dW g.1 1 3 (i.map Av)),(7,dW g.2 2 190 (b.map TG))]) (j:=λs=>XW e d f i s.1 s.2) ?_ ?_
    ·exact B
    ·rintro⟨l,m⟩ ⟨ah,ai⟩ nn;dsimp only[XW];refine A 6 ?_;refine lP (E:=λ(s:(List Int)×Int) (g:Nat×Nat)=>[(1,.sl (c.map (eL Av))),oT 5 g.1 s.1,oT 7 g.2 b,oI 8 f,oI 9 e,oI 10 d,oI 11 s.2,(51,.sl (c.map (eL Av))),oS 52 5 g.1 s.1,oI 53 e,oI 54 d,oB 55 l,oB 56 m]) (O:=λs g=>[(5,dW g.1 1 3 (s.1.map Av)),(7,dW g.2 2 190 (b.map TG))]) (_,_) hX<|?_
     rintro⟨h,k⟩ ⟨aj,ak⟩ nn;dsimp only[AaY];refine Ac 9 ?_ ?_
     ·refine A 4 ?_;refine sC (E:=λ(s:Bool) (g:Nat×Nat)=>[(1,.sl (c.map (eL Av))),oT 5 g.1 h,oT 7 g.2 b,oI 8 f,oI 9 e,oI 10 d,oI 11 k,(51,.sl (c.map (eL Av))),oS 52 5 g.1 h,oI 53 e,oI 54 d,oB 55 l,oB 56 m,oB 77 s]) (O:=λ_ g=>[(5,dW g.1 1 3 (h.map Av)),(7,dW g.2 2 190 (b.map TG))]) (j:=λs=>TN k h e d s) ?_ ?_
      ·refine Ab 4 λao ap=>?_
       refine A 4 ?_;refine QO r ?_ ?_
       ·refine A 8 ?_;exact xC (s:=true) (_,_) hX
       ·refine Ab 3 λp aq=>?_
        refine A 5 ?_;exact xC (s:=(p==d)) (_,_) hX
      ·rintro ar ⟨au,av⟩ nn;dsimp only[TN];refine cD r ?_ ?_
       ·exact B
       ·refine A 8 ?_;exact xL (s:=(h,i64.wrap (k+1))) (_,_) hX
     ·exact B
   ·rintro aw ⟨ax,ay⟩ nn;dsimp only[RB];exact B
  ·exact B

abbrev AjC:=en2 Oh Nz
abbrev AjB:=de2 Rq Rh
def WX (b:NN×Mk):D:=Rx b.1
def Alq (b:NN×Mk):List D:=[Oh b.2]
theorem Akh:Nr Tryz.prog 145 (NO [(0,(2,114))] .val AjC AjB (λa=>Wf a.1 a.2) WX Alq):=by
 refine fn2 2 (nK 133 AhX<|nK 22 OK<|nK 67 Zn<|nK 206 AgA<|nK 47 Aag<|Np) Tryz.func145<|?_;rintro⟨c1,c⟩;unfold Wf;refine Ab 9 λr3 ai=>?_
 refine Ab 9 λr4 ak=>?_
 refine Ac 4 ?_ ?_
 ·exact B
 ·refine A 6 ?_;refine cK λhq=>aP (([]:List (List Int))) (r3.Out) (eL Av) r r r r r r r (by simp) r r r (by simp) r (λ_=>r) r hq<|?_
  refine A 5 ?_;refine sC (E:=λ(_s:(List Int)×Int×(List (List Int))) (g:Nat×Nat×Nat)=>[(0,.optr 8192 0 0 0),oP 4 g.1,oP 6 g.2.1]) (O:=λs g=>[(4,dV g.1 1 45 (.agg [.nils])),(6,dV g.2.1 1 45 (.agg [.osl 19 g.2.2 0 s.2.2.length])),(19,dW g.2.2 1 37 (s.2.2.map (eL Av))),(8192,dV 0 2 114 (.agg [.sl (s.1.map eU8),Nm s.2.1]))]) (j:=λs=>Uf s.1 s.2.1 s.2.2) ?_ ?_
  ·refine Ab 3 λao ap=>?_
   refine A 5 ?_;refine lP (E:=λ(s:(List Int)×Int×(List (List Int))×Int) (g:Nat×Nat×Nat×Nat)=>[(0,.optr 8192 0 0 0),oP 3 g.1,oP 4 g.2.1,oP 6 g.2.2.1,oI 7 s.2.2.2]) (O:=λs g=>[(3,dV g.1 3 36 (Nz c)),(4,dV g.2.1 1 45 (.agg [.nils])),(6,dV g.2.2.1 1 45 (.agg [.osl 19 g.2.2.2 0 s.2.2.1.length])),(19,dW g.2.2.2 1 37 (s.2.2.1.map (eL Av))),(8192,dV 0 2 114 (.agg [.sl (s.1.map eU8),Nm s.2.1]))]) (_,_,_,_) hX<|?_
   rintro⟨o,p,d,f⟩ ⟨aq,ar,au,av⟩ nn;dsimp only[AdH];refine sC (E:=λ(_s:Unit) (g:Nat×Nat×Nat×Nat)=>[(0,.optr 8192 0 0 0),oP 3 g.1,oP 4 g.2.1,oP 6 g.2.2.1,oI 7 f,(26,.optr 3 g.1 0 1),oM 27 c.Slots On,oL 28 c.Slots,(29,.bool (decide ((c.Slots.length:Int)>0)))]) (O:=λ_ g=>[(3,dV g.1 3 36 (Nz c)),(4,dV g.2.1 1 45 (.agg [.nils])),(6,dV g.2.2.1 1 45 (.agg [.osl 19 g.2.2.2 0 d.length])),(19,dW g.2.2.2 1 37 (d.map (eL Av))),(8192,dV 0 2 114 (.agg [.sl (o.map eU8),Nm p]))]) (j:=λ_=>Za o p c f d) ?_ ?_
   ·exact B
   ·rintro⟨⟩ ⟨aw,ax,ay,az⟩ nn;dsimp only[Za];refine bC (E:=λ(_s:(List Int)×Int×(List (List Int))) (g:Nat×Nat×Nat×Nat)=>[(0,.optr 8192 0 0 0),oP 3 g.1,oP 4 g.2.1,oP 6 g.2.2.1,oI 7 f,(26,.optr 3 g.1 0 1),oM 27 c.Slots On,oL 28 c.Slots,(29,.bool (decide ((c.Slots.length:Int)>0)))]) (O:=λs g=>[(3,dV g.1 3 36 (Nz c)),(4,dV g.2.1 1 45 (.agg [.nils])),(6,dV g.2.2.1 1 45 (.agg [.osl 19 g.2.2.2 0 s.2.2.length])),(19,dW g.2.2.2 1 37 (s.2.2.map (eL Av))),(8192,dV 0 2 114 (.agg [.sl (s.1.map eU8),Nm s.2.1]))]) (j:=λs=>Sz f s.1 s.2.1 s.2.2) ?_ ?_
    ·refine Ab 6 λac ba=>?_
     refine Ab 8 λq bb=>?_
     refine Ac 4 ?_ ?_
     ·refine A 7 ?_;refine lP (E:=λ(s:(List (List Int))×Int) (g:Nat×Nat×Nat×Nat)=>[(0,.optr 8192 0 0 0),oP 3 g.1,oP 4 g.2.1,oP 6 g.2.2.1,oI 7 f,oI 8 ac.1,oI 9 s.2,(26,.optr 3 g.1 0 1),oM 27 c.Slots On,oL 28 c.Slots,(29,.bool (decide ((c.Slots.length:Int)>0)))]) (O:=λs g=>[(3,dV g.1 3 36 (Nz c)),(4,dV g.2.1 1 45 (.agg [.nils])),(6,dV g.2.2.1 1 45 (.agg [.osl 19 g.2.2.2 0 s.1.length])),(19,dW g.2.2.2 1 37 (s.1.map (eL Av))),(8192,dV 0 2 114 (.agg [.sl (q.2.list.map eU8),Nm q.2.at_]))]) (_,_,_,_) hX<|?_
      rintro⟨k,t⟩ ⟨bc,bd,bf,bg⟩ nn;dsimp only[AdI];refine Ac 10 ?_ ?_
      ·refine Ab 12 λbh bi=>?_
       refine Ab 2 λu bj=>?_
       refine A 2 ?_;refine bD λbk ad=>sE (l:=k) (en:=(eL Av)) (q':=u) r r r r r r r (by simp) ad r r r (by simp[PG,cells,eL]) r<|?_
       refine A 8 ?_;exact xL (s:=(k.set t.toNat u,i64.wrap (t+1))) (_,_,_,_) ((hE ⟨rfl,r,r,r,r,r,r,r,r,r,r,trivial⟩ ⟨rfl,r,(Eq.trans (b:=dV _ 1 45 (.agg [.osl 19 _ 0 k.length])) r (by simp)),r,r,trivial⟩))
      ·exact B
     ·refine Ab 8 λv bl=>?_
      refine Ab 7 λh bm=>?_
      refine Ac 4 ?_ ?_
      ·refine Ab 8 λbn bo=>?_
       refine Ab 2 λx bp=>?_
       refine A 2 ?_;refine bD λbq ae=>sE (l:=d) (en:=(eL Av)) (q':=x) r r r r r r r (by simp) ae r r r (by simp[PG,cells,eL]) r<|?_
       refine A 1 ?_;exact UA (s:=(h.2.list,h.2.at_,d.set v.1.toNat x)) (_,_,_,_) ((hE ⟨rfl,r,r,r,r,r,r,r,r,trivial⟩ ⟨rfl,r,(Eq.trans (b:=dV _ 1 45 (.agg [.osl 19 _ 0 d.length])) r (by simp)),r,r,trivial⟩))
      ·refine Ab 8 λbr bs=>?_
       refine Ab 2 λz bt=>?_
       refine A 2 ?_;refine bD λbu af=>sE (l:=d) (en:=(eL Av)) (q':=z) r r r r r r r (by simp) af r r r (by simp[PG,cells,eL]) r<|?_
       refine A 1 ?_;exact UA (s:=(h.2.list,h.2.at_,d.set v.1.toNat z)) (_,_,_,_) ((hE ⟨rfl,r,r,r,r,r,r,r,r,trivial⟩ ⟨rfl,r,(Eq.trans (b:=dV _ 1 45 (.agg [.osl 19 _ 0 d.length])) r (by simp)),r,r,trivial⟩))
    ·rintro⟨bv,bw,bx⟩ ⟨bz,ca,cb,cc⟩ nn;dsimp only[Sz];exact B
  ·rintro⟨c5,c6,e⟩ ⟨ce,cf,ch⟩ nn;dsimp only[Uf];refine Ab 4 λr8 ci=>?_
   refine Ac 10 ?_ ?_
   ·refine A 3 ?_;refine cK λhq=>Ade (l:=e) r r r r r r hq<|?_
    refine A 12 ?_;refine Uy (b:=((NN.mk (e.drop ((1:Int).toNat))),r8.2)) r ?_ r r ?_ (by first|rfl|(simp only;rfl)|(simp only[Nx];rfl)|(simp only[Nu,Nx];rfl)|(simp[WX,Rx];try rfl))
    all_goals first|(simp;done)|(simp;omega)|rfl|(simp[OQ,OH];done)|(simp[cells];done)
   ·refine Ac 6 ?_ ?_
    ·refine Ab 4 λm cj=>?_
     refine Ab 2 λi ck=>?_
     refine A 1 ?_;refine bS ([m.1,i.1]:List Int) Av r r r (by simp) r r r<|cK λhq=>iO (l:=e) (en:=(eL Av)) r r r r r hq<|bD λcl ag=>sE (l:=e) (en:=(eL Av)) (q':=([m.1,i.1]:List Int)) r r r r r r r (by simp) ag r r r (by simp[PG,cells,eL]) r<|?_
     refine A 10 ?_;refine Uy (b:=((NN.mk (e.set ((0:Int).toNat) ([m.1,i.1]:List Int))),i.2)) r ?_ r r ?_ (by first|rfl|(simp only;rfl)|(simp only;rfl)|(simp only;rfl)|(simp[WX,Rx];try rfl))
     all_goals first|(simp;done)|(simp;omega)|rfl|(simp[OQ,OH];done)|(simp[cells];done)
    ·refine A 10 ?_;refine Uy (b:=((NN.mk e),r8.2)) r ?_ r r ?_ (by first|rfl|(simp only[Nu];rfl)|(simp only[Nx];rfl)|(simp only[Nu,Nx];rfl)|(simp[WX,Rx];try rfl))
     all_goals first|(simp;done)|(simp;omega)|rfl|(simp[OQ,OH];done)|(simp[cells];done)

theorem Aov:Nr Tryz.prog 27 (fS .ground WV (λa=>Yw a) Nq):=by
 refine fn2 1 (nK 68 Xu<|nK 69 AjP<|nK 70 Aox<|Np) Tryz.func27<|?_;intro b;unfold Yw;refine Ac 15 ?_ ?_
 ·exact B
 ·refine Ac 11 ?_ ?_
  ·exact B
  ·refine A 2 ?_;refine sC (E:=λ(_s:Unit) (g:Nat)=>[oP 1 g]) (O:=λ_ g=>[(1,dV g 2 58 (.agg [Nm b.Align,.sl (b.Frames.map NW)]))]) (j:=λ_=>ZI b) ?_ ?_
   ·exact B
   ·rintro⟨⟩ c nn;dsimp only[ZI];refine Ab 5 λd e=>?_
    refine Ac 6 ?_ ?_
    ·exact B
    ·refine A 9 ?_;refine lP (E:=λ(s:Int) (g:Nat)=>[oP 1 g,oI 3 s]) (O:=λ_ g=>[(1,dV g 2 58 (.agg [Nm b.Align,.sl (b.Frames.map NW)]))]) _ hX<|?_
     rintro f h nn;dsimp only[AcO];refine Ac 10 ?_ ?_
     ·exact B
     ·refine A 12 ?_;refine lP (E:=λ(s:Int) (g:Nat)=>[oP 1 g,oI 5 s]) (O:=λ_ g=>[(1,dV g 2 58 (.agg [Nm b.Align,.sl (b.Frames.map NW)]))]) _ hX<|?_
      rintro i k nn;dsimp only[AhV];exact B

end Go.Proofs.YtcaoepecbgggcaaGreatDoor
