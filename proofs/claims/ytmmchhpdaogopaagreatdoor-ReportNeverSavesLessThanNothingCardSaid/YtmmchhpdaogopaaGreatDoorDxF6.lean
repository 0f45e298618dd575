/-
 The code does what its typed programs say.
-/
import Derived.Test.YtmmchhpdaogopaaGreatDoorDxF4
import Derived.Test.YtmmchhpdaogopaaGreatDoorDxF5
open List renaming replicate->aA
namespace Go.Proofs.YtmmchhpdaogopaaGreatDoor
open Go Go.Dw Go.Proofs
open Go.IntKind (i64)
set_option maxRecDepth 100000
set_option maxHeartbeats 40000000
open Go.Dw renaming Px -> bD,Qd -> cK,Sp -> bS,AbY -> aP,UT -> sE,ZQ -> iO,QU -> cD,RO -> xC,Qx -> xL,Xh -> hE,Rq -> lP,Qq -> sC,Qk -> bC,rf -> r
def Oy (b:Int):D:=Mk b
theorem WT:NM Tryz.prog 116 (fS .ground Sx (λa=>UQ a.1 a.2) Oy):=by
 refine fn2 2 (nK 178 Amu<|nK 179 Agm<|NK) Tryz.func116<|?_;intro a;unfold UQ;exact B

abbrev Alz:=en3 NU Un D.bool
abbrev Auu:=de3 RP Yj uBo
def Adf (b:(List (List Int))×Int):D:=.tup [.sl (b.1.map (eL Av)),Mk b.2]
theorem Agq:NM Tryz.prog 191 (fS .val Alz (λa=>ZL a.1 a.2.1 a.2.2) Adf):=by
 refine fn2 3 (nK 116 WT<|nK 185 Tt<|nK 66 WQ<|NK) Tryz.func191<|?_;rintro⟨d,e,c⟩;unfold ZL;refine Ab 13 λv x=>?_
 refine Ac 10 ?_ ?_
 ·exact B
 ·refine A 7 ?_;refine cK λhq=>Acq (α:=Int) r r r hq r<|?_
  refine A 2 ?_;refine RE (E:=[oB 2 c,oP 3 _,oP 4 _,(9,.osl 9 _ 0 ((aA (d.Slots.length:Int).toNat ([]:(List Int))).length))]) (O:=[(3,dV _ 3 57 (NU d)),(4,dV _ 1 60 (.agg [.sl (e.Out.map (eL Av))])),(9,dW _ 1 38 ((aA (d.Slots.length:Int).toNat ([]:(List Int))).map (eL Av)))]) ((AeQ (g:=9) r (Ahi (l:=aA (d.Slots.length:Int).toNat ([]:(List Int))) Av (λ_ h=>List.eq_of_mem_replicate h)) hX)) λnn=>?_
  refine A 7 ?_;refine lP (E:=λ(s:(List (List Int))×Int) (g:Nat×Nat×Nat)=>[oB 2 c,oP 3 g.1,oP 4 g.2.1,oT 9 g.2.2 s.1,oI 10 s.2]) (O:=λs g=>[(3,dV g.1 3 57 (NU d)),(4,dV g.2.1 1 60 (.agg [.sl (e.Out.map (eL Av))])),(9,dW g.2.2 1 38 (s.1.map (eL Av)))]) (_,_,_) hX<|?_
  rintro⟨m,k6⟩ ⟨z,aa,ab⟩ nn;dsimp only[Agp];refine Ac 10 ?_ ?_
  ·refine A 2 ?_;refine bC (E:=λ(s:Int×Int×Int×Int×Int×(List (List Int))) (g:Nat×Nat×Nat)=>[oB 2 c,oP 3 g.1,oP 4 g.2.1,oT 9 g.2.2 s.2.2.2.2.2,oI 10 k6]) (O:=λs g=>[(3,dV g.1 3 57 (NU d)),(4,dV g.2.1 1 60 (.agg [.sl (e.Out.map (eL Av))])),(9,dW g.2.2 1 38 (s.2.2.2.2.2.map (eL Av)))]) (j:=λs=>Tu k6 s.1 s.2.1 s.2.2.1 s.2.2.2.1 s.2.2.2.2.1 s.2.2.2.2.2) ?_ ?_
   ·refine Ab 5 λi ac=>?_
    refine Ab 9 λb ad=>?_
    refine A 8 ?_;refine sC (E:=λ(_s:Unit) (g:Nat×Nat×Nat×Nat)=>[oB 2 c,oP 3 g.1,oP 4 g.2.1,oT 9 g.2.2.1 m,oI 10 k6,oP 11 g.2.2.2,oI 12 b.1,oB 13 b.2]) (O:=λ_ g=>[(3,dV g.1 3 57 (NU d)),(4,dV g.2.1 1 60 (.agg [.sl (e.Out.map (eL Av))])),(9,dW g.2.2.1 1 38 (m.map (eL Av))),(11,dV g.2.2.2 5 53 (Oj i))]) (j:=λ_=>WX e k6 b c i m) ?_ ?_
    ·exact B
    ·rintro⟨⟩ ⟨ae,af,ag,ah⟩ nn;dsimp only[WX];refine A 6 ?_;refine lP (E:=λ(s:(List (List Int))×Int) (g:Nat×Nat×Nat×Nat)=>[oB 2 c,oP 3 g.1,oP 4 g.2.1,oT 9 g.2.2.1 s.1,oI 10 k6,oP 11 g.2.2.2,oI 12 b.1,oB 13 b.2,oI 14 s.2]) (O:=λs g=>[(3,dV g.1 3 57 (NU d)),(4,dV g.2.1 1 60 (.agg [.sl (e.Out.map (eL Av))])),(9,dW g.2.2.1 1 38 (s.1.map (eL Av))),(11,dV g.2.2.2 5 53 (Oj i))]) (_,_,_,_) hX<|?_
     rintro⟨f,k⟩ ⟨ai,aj,ak,ao⟩ nn;dsimp only[YU];refine sC (E:=λ(_s:Unit) (g:Nat×Nat×Nat×Nat)=>[oB 2 c,oP 3 g.1,oP 4 g.2.1,oT 9 g.2.2.1 f,oI 10 k6,oP 11 g.2.2.2,oI 12 b.1,oB 13 b.2,oI 14 k,oB 62 b.2]) (O:=λ_ g=>[(3,dV g.1 3 57 (NU d)),(4,dV g.2.1 1 60 (.agg [.sl (e.Out.map (eL Av))])),(9,dW g.2.2.1 1 38 (f.map (eL Av))),(11,dV g.2.2.2 5 53 (Oj i))]) (j:=λ_=>YV e k6 k b f c i) ?_ ?_
     ·exact B
     ·rintro⟨⟩ ⟨ap,aq,ar,au⟩ nn;dsimp only[YV];refine Ab 7 λav aw=>?_
      refine Ab 3 λo ax=>?_
      refine A 5 ?_;refine sC (E:=λ(s:Bool×Bool×Bool×Bool) (g:Nat×Nat×Nat×Nat)=>[oB 2 c,oP 3 g.1,oP 4 g.2.1,oT 9 g.2.2.1 f,oI 10 k6,oP 11 g.2.2.2,oI 12 b.1,oB 13 b.2,oI 14 k,oI 15 o,oB 62 b.2,oB 78 c,(79,.bool (!c)),oB 80 s.1,oB 84 s.2.1,oB 85 s.2.2.1,oB 90 s.2.2.2]) (O:=λ_ g=>[(3,dV g.1 3 57 (NU d)),(4,dV g.2.1 1 60 (.agg [.sl (e.Out.map (eL Av))])),(9,dW g.2.2.1 1 38 (f.map (eL Av))),(11,dV g.2.2.2 5 53 (Oj i))]) (j:=λs=>Sy b f o k s.1 s.2.1 s.2.2.1 s.2.2.2) ?_ ?_
      ·exact B
      ·rintro⟨ay,az,ba,bb⟩ ⟨bc,bd,bf,bg⟩ nn;dsimp only[Sy];refine Ab 8 λbh bi=>?_
       refine Ab 2 λp bj=>?_
       refine Ab 4 λbk bl=>?_
       refine Ab 2 λq bm=>?_
       refine A 2 ?_;refine bD λbn t=>sE (l:=f) (en:=(eL Av)) (q':=p) r r r r r r r (by simp) t r r r (by simp[PV,cells,eL]) r<|?_
       refine A 1 ?_;refine bD λbo u=>sE (l:=f.set b.1.toNat p) (en:=(eL Av)) (q':=q) r r r r r r r (by simp) u r r r (by simp[PV,cells,eL]) r<|?_
       exact B
   ·rintro⟨x7,x8,x9,bs,bt,bu⟩ ⟨bv,bw,bx⟩ nn;dsimp only[Tu];exact B
  ·exact B

abbrev AaZ:=en2 NU XM
abbrev Aux:=de2 RP Aas
theorem AbQ:NM Tryz.prog 118 (fS .ground AaZ (λa=>Wv a.1 a.2) Oy):=by
 refine fn2 2 (nK 181 Amy<|nK 182 AcO<|NK) Tryz.func118<|?_;rintro⟨c,b⟩;unfold Wv;refine A 7 ?_;refine sC (E:=λ(_s:Unit) (g:Nat×Nat)=>[oP 2 g.1,oP 3 g.2]) (O:=λ_ g=>[(2,dV g.1 3 57 (NU c)),(3,dV g.2 2 63 (.agg [.sl (b.To.map Av),.sl (b.Keep.map D.bool)]))]) (j:=λ_=>YY c b) ?_ ?_
 ·exact B
 ·rintro⟨⟩ ⟨d,e⟩ nn;dsimp only[YY];refine A 7 ?_;refine lP (E:=λ(s:Int) (g:Nat×Nat)=>[oP 2 g.1,oP 3 g.2,oI 5 s]) (O:=λ_ g=>[(2,dV g.1 3 57 (NU c)),(3,dV g.2 2 63 (.agg [.sl (b.To.map Av),.sl (b.Keep.map D.bool)]))]) (_,_) hX<|?_
  rintro k3 ⟨f,h⟩ nn;dsimp only[AbP];exact B

abbrev AjK:=en2 Av (eL Av)
abbrev AsO:=de2 uI (uL uI)
theorem Akz:NM Tryz.prog 186 (fS .ground AjK (λa=>SY a.1 a.2) Oy):=by
 refine fn2 2 (NK) Tryz.func186<|?_;intro a;unfold SY;exact B

abbrev Ve:=en2 PQ Av
abbrev Avo:=de2 QM uI
theorem ZW:NM Tryz.prog 112 (fS .ground Ve (λa=>SN a.1 a.2) Oy):=by
 refine fn2 2 (NK) Tryz.func112<|?_;rintro⟨c,h⟩;unfold SN;refine Ab 16 λd i=>?_
 refine A 13 ?_;refine lP (E:=λ(s:Int×Int) (g:Nat)=>[oP 2 g,oI 5 s.1,oM 6 d.Code Oj,oI 7 s.2]) (O:=λ_ g=>[(2,dV g 1 28 (.agg [.sl (c.Funcs.map NU)]))]) _ hX<|?_
 rintro⟨b,k5⟩ j nn;dsimp only[AhC];refine Ac 9 ?_ ?_
 ·refine Ab 8 λk l=>?_
  refine Ac 12 ?_ ?_
  ·refine Ab 4 λe m=>?_
   refine A 15 ?_;exact xL (s:=(Ph b (i64.wrap (e.A+1)),i64.wrap (k5+1))) _ hX
  ·refine Ac 6 ?_ ?_
   ·refine Ab 6 λo p=>?_
    refine Ab 3 λf q=>?_
    refine A 14 ?_;exact xL (s:=(Ph b f.Params,i64.wrap (k5+1))) _ hX
   ·refine A 9 ?_;exact xL (s:=(b,i64.wrap (k5+1))) _ hX
 ·exact B

abbrev AhI:=en2 OX NU
abbrev AhH:=de2 Rr RP
def WA (b:Ox×Lo):D:=Un b.1
def Aju (b:Ox×Lo):List D:=[OX b.2]
theorem Ail:NM Tryz.prog 79 (Ow [(0,(2,103))] .val AhI AhH (λa=>VN a.1 a.2) WA Aju):=by
 refine fn2 2 (nK 126 Agj<|nK 19 Pp<|nK 66 WQ<|nK 134 AeX<|nK 22 Zm<|NK) Tryz.func79<|?_;rintro⟨c1,c⟩;unfold VN;refine Ab 9 λr3 ai=>?_
 refine Ab 9 λr4 ak=>?_
 refine Ac 4 ?_ ?_
 ·exact B
 ·refine A 6 ?_;refine cK λhq=>aP (([]:List (List Int))) (r3.Out) (eL Av) r r r r r r r (by simp) r r r (by simp) r (λ_=>r) r hq<|?_
  refine A 5 ?_;refine sC (E:=λ(_s:(List Int)×Int×(List (List Int))) (g:Nat×Nat×Nat)=>[(0,.optr 8192 0 0 0),oP 4 g.1,oP 6 g.2.1]) (O:=λs g=>[(4,dV g.1 1 60 (.agg [.nils])),(6,dV g.2.1 1 60 (.agg [.osl 19 g.2.2 0 s.2.2.length])),(19,dW g.2.2 1 38 (s.2.2.map (eL Av))),(8192,dV 0 2 103 (.agg [.sl (s.1.map eU8),Mk s.2.1]))]) (j:=λs=>TT s.1 s.2.1 s.2.2) ?_ ?_
  ·refine Ab 3 λao ap=>?_
   refine A 5 ?_;refine lP (E:=λ(s:(List Int)×Int×(List (List Int))×Int) (g:Nat×Nat×Nat×Nat)=>[(0,.optr 8192 0 0 0),oP 3 g.1,oP 4 g.2.1,oP 6 g.2.2.1,oI 7 s.2.2.2]) (O:=λs g=>[(3,dV g.1 3 57 (NU c)),(4,dV g.2.1 1 60 (.agg [.nils])),(6,dV g.2.2.1 1 60 (.agg [.osl 19 g.2.2.2 0 s.2.2.1.length])),(19,dW g.2.2.2 1 38 (s.2.2.1.map (eL Av))),(8192,dV 0 2 103 (.agg [.sl (s.1.map eU8),Mk s.2.1]))]) (_,_,_,_) hX<|?_
   rintro⟨o,p,d,f⟩ ⟨aq,ar,au,av⟩ nn;dsimp only[Acy];refine sC (E:=λ(_s:Unit) (g:Nat×Nat×Nat×Nat)=>[(0,.optr 8192 0 0 0),oP 3 g.1,oP 4 g.2.1,oP 6 g.2.2.1,oI 7 f,(26,.optr 3 g.1 0 1),oM 27 c.Slots OW,oL 28 c.Slots,(29,.bool (decide ((c.Slots.length:Int)>0)))]) (O:=λ_ g=>[(3,dV g.1 3 57 (NU c)),(4,dV g.2.1 1 60 (.agg [.nils])),(6,dV g.2.2.1 1 60 (.agg [.osl 19 g.2.2.2 0 d.length])),(19,dW g.2.2.2 1 38 (d.map (eL Av))),(8192,dV 0 2 103 (.agg [.sl (o.map eU8),Mk p]))]) (j:=λ_=>Yq o p c f d) ?_ ?_
   ·exact B
   ·rintro⟨⟩ ⟨aw,ax,ay,az⟩ nn;dsimp only[Yq];refine bC (E:=λ(_s:(List Int)×Int×(List (List Int))) (g:Nat×Nat×Nat×Nat)=>[(0,.optr 8192 0 0 0),oP 3 g.1,oP 4 g.2.1,oP 6 g.2.2.1,oI 7 f,(26,.optr 3 g.1 0 1),oM 27 c.Slots OW,oL 28 c.Slots,(29,.bool (decide ((c.Slots.length:Int)>0)))]) (O:=λs g=>[(3,dV g.1 3 57 (NU c)),(4,dV g.2.1 1 60 (.agg [.nils])),(6,dV g.2.2.1 1 60 (.agg [.osl 19 g.2.2.2 0 s.2.2.length])),(19,dW g.2.2.2 1 38 (s.2.2.map (eL Av))),(8192,dV 0 2 103 (.agg [.sl (s.1.map eU8),Mk s.2.1]))]) (j:=λs=>Su f s.1 s.2.1 s.2.2) ?_ ?_
    ·refine Ab 6 λac ba=>?_
     refine Ab 8 λq bb=>?_
     refine Ac 4 ?_ ?_
     ·refine A 7 ?_;refine lP (E:=λ(s:(List (List Int))×Int) (g:Nat×Nat×Nat×Nat)=>[(0,.optr 8192 0 0 0),oP 3 g.1,oP 4 g.2.1,oP 6 g.2.2.1,oI 7 f,oI 8 ac.1,oI 9 s.2,(26,.optr 3 g.1 0 1),oM 27 c.Slots OW,oL 28 c.Slots,(29,.bool (decide ((c.Slots.length:Int)>0)))]) (O:=λs g=>[(3,dV g.1 3 57 (NU c)),(4,dV g.2.1 1 60 (.agg [.nils])),(6,dV g.2.2.1 1 60 (.agg [.osl 19 g.2.2.2 0 s.1.length])),(19,dW g.2.2.2 1 38 (s.1.map (eL Av))),(8192,dV 0 2 103 (.agg [.sl (q.2.list.map eU8),Mk q.2.at_]))]) (_,_,_,_) hX<|?_
      rintro⟨k,t⟩ ⟨bc,bd,bf,bg⟩ nn;dsimp only[Acz];refine Ac 10 ?_ ?_
      ·refine Ab 12 λbh bi=>?_
       refine Ab 2 λu bj=>?_
       refine A 2 ?_;refine bD λbk ad=>sE (l:=k) (en:=(eL Av)) (q':=u) r r r r r r r (by simp) ad r r r (by simp[PV,cells,eL]) r<|?_
       refine A 8 ?_;exact xL (s:=(k.set t.toNat u,i64.wrap (t+1))) (_,_,_,_) ((hE ⟨rfl,r,r,r,r,r,r,r,r,r,r,trivial⟩ ⟨rfl,r,(Eq.trans (b:=dV _ 1 60 (.agg [.osl 19 _ 0 k.length])) r (by simp)),r,r,trivial⟩))
      ·exact B
     ·refine Ab 8 λv bl=>?_
      refine Ab 7 λh bm=>?_
      refine Ac 4 ?_ ?_
      ·refine Ab 8 λbn bo=>?_
       refine Ab 2 λx bp=>?_
       refine A 2 ?_;refine bD λbq ae=>sE (l:=d) (en:=(eL Av)) (q':=x) r r r r r r r (by simp) ae r r r (by simp[PV,cells,eL]) r<|?_
       refine A 1 ?_;exact Uu (s:=(h.2.list,h.2.at_,d.set v.1.toNat x)) (_,_,_,_) ((hE ⟨rfl,r,r,r,r,r,r,r,r,trivial⟩ ⟨rfl,r,(Eq.trans (b:=dV _ 1 60 (.agg [.osl 19 _ 0 d.length])) r (by simp)),r,r,trivial⟩))
      ·refine Ab 8 λbr bs=>?_
       refine Ab 2 λz bt=>?_
       refine A 2 ?_;refine bD λbu af=>sE (l:=d) (en:=(eL Av)) (q':=z) r r r r r r r (by simp) af r r r (by simp[PV,cells,eL]) r<|?_
       refine A 1 ?_;exact Uu (s:=(h.2.list,h.2.at_,d.set v.1.toNat z)) (_,_,_,_) ((hE ⟨rfl,r,r,r,r,r,r,r,r,trivial⟩ ⟨rfl,r,(Eq.trans (b:=dV _ 1 60 (.agg [.osl 19 _ 0 d.length])) r (by simp)),r,r,trivial⟩))
    ·rintro⟨bv,bw,bx⟩ ⟨bz,ca,cb,cc⟩ nn;dsimp only[Su];exact B
  ·rintro⟨c5,c6,e⟩ ⟨ce,cf,ch⟩ nn;dsimp only[TT];refine Ab 4 λr8 ci=>?_
   refine Ac 10 ?_ ?_
   ·refine A 3 ?_;refine cK λhq=>Aca (l:=e) r r r r r r hq<|?_
    refine A 12 ?_;refine Tz (b:=((Ox.mk (e.drop ((1:Int).toNat))),r8.2)) r ?_ r r ?_ (by first|rfl|(simp only;rfl)|(simp only[NP];rfl)|(simp only[NN,NP];rfl)|(simp[WA,Un];try rfl))
    all_goals first|(simp;done)|(simp;omega)|rfl|(simp[Pc,OT];done)|(simp[cells];done)
   ·refine Ac 6 ?_ ?_
    ·refine Ab 4 λm cj=>?_
     refine Ab 2 λi ck=>?_
     refine A 1 ?_;refine bS ([m.1,i.1]:List Int) Av r r r (by simp) r r r<|cK λhq=>iO (l:=e) (en:=(eL Av)) r r r r r hq<|bD λcl ag=>sE (l:=e) (en:=(eL Av)) (q':=([m.1,i.1]:List Int)) r r r r r r r (by simp) ag r r r (by simp[PV,cells,eL]) r<|?_
     refine A 10 ?_;refine Tz (b:=((Ox.mk (e.set ((0:Int).toNat) ([m.1,i.1]:List Int))),i.2)) r ?_ r r ?_ (by first|rfl|(simp only;rfl)|(simp only;rfl)|(simp only;rfl)|(simp[WA,Un];try rfl))
     all_goals first|(simp;done)|(simp;omega)|rfl|(simp[Pc,OT];done)|(simp[cells];done)
    ·refine A 10 ?_;refine Tz (b:=((Ox.mk e),r8.2)) r ?_ r r ?_ (by first|rfl|(simp only[NN];rfl)|(simp only[NP];rfl)|(simp only[NN,NP];rfl)|(simp[WA,Un];try rfl))
     all_goals first|(simp;done)|(simp;omega)|rfl|(simp[Pc,OT];done)|(simp[cells];done)

end Go.Proofs.YtmmchhpdaogopaaGreatDoor
