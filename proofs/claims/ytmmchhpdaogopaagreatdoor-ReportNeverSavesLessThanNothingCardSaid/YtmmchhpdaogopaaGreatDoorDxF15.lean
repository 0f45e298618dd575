/-
 The code does what its typed programs say.
-/
import Derived.Test.YtmmchhpdaogopaaGreatDoorDxF14
namespace Go.Proofs.YtmmchhpdaogopaaGreatDoor
open Go Go.Dw Go.Proofs
open Go.IntKind (i64)
set_option maxRecDepth 100000
set_option maxHeartbeats 40000000
open Go.Dw renaming Px -> bD,Qd -> cK,Sp -> bS,AbY -> aP,QU -> cD,RO -> xC,Qx -> xL,Xh -> hE,Rq -> lP,Qq -> sC,Qk -> bC,rf -> r
abbrev Aan:=en3 OX PQ Av
abbrev Aam:=de3 Rr QM uI
def Abn (b:Oi×Lo):D:=XM b.1
def AhJ (b:Oi×Lo):List D:=[OX b.2]
theorem Ahe:NM Tryz.prog 80 (Ow [(0,(2,103))] .val Aan Aam (λa=>UB a.1 a.2.1 a.2.2) Abn AhJ):=by
 refine fn2 3 (nK 76 Xu<|nK 19 Pp<|nK 133 AcC<|nK 22 Zm<|NK) Tryz.func80<|?_;rintro⟨c1,p2,i3⟩;unfold UB;refine Ab 11 λe ak=>?_
 refine Ab 10 λh ao=>?_
 refine A 10 ?_;refine cK λhq=>aP (([]:List Int)) (h.Rename.To) Av r r r r r r r (by simp) r r r (by simp) r (λ_=>r) r hq<|?_
 refine A 2 ?_;refine cK λhq=>aP (([]:List Bool)) (h.Rename.Keep) D.bool r r r r r r r (by simp) r r r (by simp) r (λ_=>r) r hq<|?_
 refine A 5 ?_;refine sC (E:=λ(_s:(List Int)×Int×(List Int)×(List Bool)) (g:Nat×Nat×Nat×Nat×Nat)=>[(0,.optr 8192 0 0 0),oP 6 g.1,oP 7 g.2.1,oP 9 g.2.2.1]) (O:=λs g=>[(6,dV g.1 2 63 (.agg [.nils,.nils])),(7,dV g.2.1 3 57 (NU e)),(9,dV g.2.2.1 2 63 (.agg [.osl 29 g.2.2.2.1 0 s.2.2.1.length,.osl 32 g.2.2.2.2 0 s.2.2.2.length])),(29,dW g.2.2.2.1 1 3 (s.2.2.1.map Av)),(32,dW g.2.2.2.2 1 4 (s.2.2.2.map D.bool)),(8192,dV 0 2 103 (.agg [.sl (s.1.map eU8),Mk s.2.1]))]) (j:=λs=>SD e s.1 s.2.1 s.2.2.1 s.2.2.2) ?_ ?_
 ·refine Ab 3 λl ap=>?_
  refine Ac 4 ?_ ?_
  ·refine A 7 ?_;refine lP (E:=λ(s:(List Int)×Int) (g:Nat×Nat×Nat×Nat×Nat)=>[(0,.optr 8192 0 0 0),oP 6 g.1,oP 7 g.2.1,oP 9 g.2.2.1,oI 10 s.2]) (O:=λs g=>[(6,dV g.1 2 63 (.agg [.nils,.nils])),(7,dV g.2.1 3 57 (NU e)),(9,dV g.2.2.1 2 63 (.agg [.osl 29 g.2.2.2.1 0 s.1.length,.osl 32 g.2.2.2.2 0 ((([]:List Bool)++h.Rename.Keep).length)])),(29,dW g.2.2.2.1 1 3 (s.1.map Av)),(32,dW g.2.2.2.2 1 4 ((([]:List Bool)++h.Rename.Keep).map D.bool)),(8192,dV 0 2 103 (.agg [.sl (l.2.list.map eU8),Mk l.2.at_]))]) (_,_,_,_,_) hX<|?_
   rintro⟨i,o⟩ ⟨aq,ar,au,av,aw⟩ nn;dsimp only[AaH];refine Ac 10 ?_ ?_
   ·refine Ab 10 λax ay=>?_
    refine A 9 ?_;exact xL (s:=(i.set o.toNat o,i64.wrap (o+1))) (_,_,_,_,_) ((hE ⟨rfl,r,r,r,r,trivial⟩ ⟨rfl,r,(Eq.trans (b:=dV _ 2 63 (.agg [.osl 29 _ 0 i.length,.osl 32 _ 0 ((([]:List Bool)++h.Rename.Keep).length)])) r (by simp)),r,r,r,trivial⟩))
   ·refine A 11 ?_;refine lP (E:=λ(s:(List Bool)×Int) (g:Nat×Nat×Nat×Nat×Nat)=>[(0,.optr 8192 0 0 0),oP 6 g.1,oP 7 g.2.1,oP 9 g.2.2.1,oI 11 s.2]) (O:=λs g=>[(6,dV g.1 2 63 (.agg [.nils,.nils])),(7,dV g.2.1 3 57 (NU e)),(9,dV g.2.2.1 2 63 (.agg [.osl 29 g.2.2.2.1 0 i.length,.osl 32 g.2.2.2.2 0 s.1.length])),(29,dW g.2.2.2.1 1 3 (i.map Av)),(32,dW g.2.2.2.2 1 4 (s.1.map D.bool)),(8192,dV 0 2 103 (.agg [.sl (l.2.list.map eU8),Mk l.2.at_]))]) (_,_,_,_,_) hX<|?_
    rintro⟨q,t⟩ ⟨az,ba,bb,bc,bd⟩ nn;dsimp only[AaI];refine Ac 10 ?_ ?_
    ·refine Ab 9 λbf bg=>?_
     refine A 9 ?_;exact xL (s:=(q.set t.toNat true,i64.wrap (t+1))) (_,_,_,_,_) ((hE ⟨rfl,r,r,r,r,trivial⟩ ⟨rfl,r,(Eq.trans (b:=dV _ 2 63 (.agg [.osl 29 _ 0 i.length,.osl 32 _ 0 q.length])) r (by simp)),r,r,r,trivial⟩))
    ·exact B
  ·exact B
 ·rintro⟨c6,c7,x8,x9⟩ ⟨bl,bm,bn,bo,bp⟩ nn;dsimp only[SD];refine Ab 4 λbq br=>?_
  refine A 5 ?_;refine lP (E:=λ(s:(List Int)×Int×(List Int)×(List Bool)×Int) (g:Nat×Nat×Nat×Nat×Nat)=>[(0,.optr 8192 0 0 0),oP 6 g.1,oP 7 g.2.1,oP 9 g.2.2.1,oI 12 s.2.2.2.2]) (O:=λs g=>[(6,dV g.1 2 63 (.agg [.nils,.nils])),(7,dV g.2.1 3 57 (NU e)),(9,dV g.2.2.1 2 63 (.agg [.osl 29 g.2.2.2.1 0 s.2.2.1.length,.osl 32 g.2.2.2.2 0 s.2.2.2.1.length])),(29,dW g.2.2.2.1 1 3 (s.2.2.1.map Av)),(32,dW g.2.2.2.2 1 4 (s.2.2.2.1.map D.bool)),(8192,dV 0 2 103 (.agg [.sl (s.1.map eU8),Mk s.2.1]))]) (_,_,_,_,_) hX<|?_
  rintro⟨aa,ab,d,c,f⟩ ⟨bs,bt,bu,bv,bw⟩ nn;dsimp only[AaF];refine Ac 7 ?_ ?_
  ·refine A 2 ?_;refine bC (E:=λ(_s:(List Int)×Int×(List Int)×(List Bool)) (g:Nat×Nat×Nat×Nat×Nat)=>[(0,.optr 8192 0 0 0),oP 6 g.1,oP 7 g.2.1,oP 9 g.2.2.1,oI 12 f]) (O:=λs g=>[(6,dV g.1 2 63 (.agg [.nils,.nils])),(7,dV g.2.1 3 57 (NU e)),(9,dV g.2.2.1 2 63 (.agg [.osl 29 g.2.2.2.1 0 s.2.2.1.length,.osl 32 g.2.2.2.2 0 s.2.2.2.length])),(29,dW g.2.2.2.1 1 3 (s.2.2.1.map Av)),(32,dW g.2.2.2.2 1 4 (s.2.2.2.map D.bool)),(8192,dV 0 2 103 (.agg [.sl (s.1.map eU8),Mk s.2.1]))]) (j:=λs=>PH f s.1 s.2.1 s.2.2.1 s.2.2.2) ?_ ?_
   ·refine Ab 6 λk bx=>?_
    refine Ab 7 λm bz=>?_
    refine A 4 ?_;refine sC (E:=λ(s:Bool) (g:Nat×Nat×Nat×Nat×Nat)=>[(0,.optr 8192 0 0 0),oP 6 g.1,oP 7 g.2.1,oP 9 g.2.2.1,oI 12 f,oI 13 k.1,oI 72 m.1,oB 73 s]) (O:=λ_ g=>[(6,dV g.1 2 63 (.agg [.nils,.nils])),(7,dV g.2.1 3 57 (NU e)),(9,dV g.2.2.1 2 63 (.agg [.osl 29 g.2.2.2.1 0 d.length,.osl 32 g.2.2.2.2 0 c.length])),(29,dW g.2.2.2.1 1 3 (d.map Av)),(32,dW g.2.2.2.2 1 4 (c.map D.bool)),(8192,dV 0 2 103 (.agg [.sl (m.2.list.map eU8),Mk m.2.at_]))]) (j:=λs=>SE e k c f d m s) ?_ ?_
    ·exact B
    ·rintro ca ⟨cb,cc,cd,ce,cf⟩ nn;dsimp only[SE];refine cD r ?_ ?_
     ·refine Ab 5 λch ci=>?_
      refine A 6 ?_;refine sC (E:=λ(s:(List Int)×Int×Bool) (g:Nat×Nat×Nat×Nat×Nat)=>[(0,.optr 8192 0 0 0),oP 6 g.1,oP 7 g.2.1,oP 9 g.2.2.1,oI 12 f,oI 13 k.1,oB 92 s.2.2]) (O:=λs g=>[(6,dV g.1 2 63 (.agg [.nils,.nils])),(7,dV g.2.1 3 57 (NU e)),(9,dV g.2.2.1 2 63 (.agg [.osl 29 g.2.2.2.1 0 d.length,.osl 32 g.2.2.2.2 0 c.length])),(29,dW g.2.2.2.1 1 3 (d.map Av)),(32,dW g.2.2.2.2 1 4 (c.map D.bool)),(8192,dV 0 2 103 (.agg [.sl (s.1.map eU8),Mk s.2.1]))]) (j:=λs=>RI k c f d s.1 s.2.1 s.2.2) ?_ ?_
      ·exact B
      ·rintro⟨ac,ad,cj⟩ ⟨ck,cl,cm,cn,co⟩ nn;dsimp only[RI];refine cD r ?_ ?_
       ·refine Ab 8 λae cp=>?_
        refine Ab 3 λcq cr=>?_
        refine A 3 ?_;exact Uu (s:=(ac,ad,d,c.set k.1.toNat (!ae))) (_,_,_,_,_) ((hE ⟨rfl,r,r,r,r,trivial⟩ ⟨rfl,r,(Eq.trans (b:=dV _ 2 63 (.agg [.osl 29 _ 0 d.length,.osl 32 _ 0 c.length])) r (by simp)),r,r,r,trivial⟩))
       ·exact B
     ·refine Ac 6 ?_ ?_
      ·refine Ac 8 ?_ ?_
       ·refine Ab 6 λaf cs=>?_
        refine Ab 11 λu ct=>?_
        refine Ab 2 λv cu=>?_
        refine A 10 ?_;refine lP (E:=λ(s:(List Int)×Int) (g:Nat×Nat×Nat×Nat×Nat)=>[(0,.optr 8192 0 0 0),oP 6 g.1,oP 7 g.2.1,oP 9 g.2.2.1,oI 12 f,oI 15 af.1,oI 16 v,oI 17 s.2]) (O:=λs g=>[(6,dV g.1 2 63 (.agg [.nils,.nils])),(7,dV g.2.1 3 57 (NU e)),(9,dV g.2.2.1 2 63 (.agg [.osl 29 g.2.2.2.1 0 s.1.length,.osl 32 g.2.2.2.2 0 c.length])),(29,dW g.2.2.2.1 1 3 (s.1.map Av)),(32,dW g.2.2.2.2 1 4 (c.map D.bool)),(8192,dV 0 2 103 (.agg [.sl (u.2.list.map eU8),Mk u.2.at_]))]) (_,_,_,_,_) hX<|?_
        rintro⟨x,z⟩ ⟨cv,cw,cx,cy,cz⟩ nn;dsimp only[AaG];refine Ac 10 ?_ ?_
        ·refine Ab 10 λda db=>?_
         refine Ac 5 ?_ ?_
         ·refine Ab 6 λdc dd=>?_
          refine A 9 ?_;exact xL (s:=(x.set z.toNat v,i64.wrap (z+1))) (_,_,_,_,_) ((hE ⟨rfl,r,r,r,r,r,r,r,trivial⟩ ⟨rfl,r,(Eq.trans (b:=dV _ 2 63 (.agg [.osl 29 _ 0 x.length,.osl 32 _ 0 c.length])) r (by simp)),r,r,r,trivial⟩))
         ·exact B
        ·exact B
       ·exact B
      ·refine Ac 6 ?_ ?_
       ·refine sC (E:=λ(s:(List Int)×Int×Bool) (g:Nat×Nat×Nat×Nat×Nat)=>[(0,.optr 8192 0 0 0),oP 6 g.1,oP 7 g.2.1,oP 9 g.2.2.1,oI 12 f,oB 151 s.2.2]) (O:=λs g=>[(6,dV g.1 2 63 (.agg [.nils,.nils])),(7,dV g.2.1 3 57 (NU e)),(9,dV g.2.2.1 2 63 (.agg [.osl 29 g.2.2.2.1 0 d.length,.osl 32 g.2.2.2.2 0 c.length])),(29,dW g.2.2.2.1 1 3 (d.map Av)),(32,dW g.2.2.2.2 1 4 (c.map D.bool)),(8192,dV 0 2 103 (.agg [.sl (s.1.map eU8),Mk s.2.1]))]) (j:=λs=>SF e d f c s.1 s.2.1 s.2.2) ?_ ?_
        ·exact B
        ·rintro⟨de,df,dg⟩ ⟨dh,di,dj,dk,dl⟩ nn;dsimp only[SF];refine cD r ?_ ?_
         ·refine Ab 7 λag dm=>?_
          refine Ab 2 λp dn=>?_
          refine Ab 2 λdp dq=>?_
          refine A 3 ?_;exact Uu (s:=(p.2.list,p.2.at_,d.set ag.1.toNat p.1,c)) (_,_,_,_,_) ((hE ⟨rfl,r,r,r,r,trivial⟩ ⟨rfl,r,(Eq.trans (b:=dV _ 2 63 (.agg [.osl 29 _ 0 d.length,.osl 32 _ 0 c.length])) r (by simp)),r,r,r,trivial⟩))
         ·exact B
       ·exact B
   ·rintro⟨dr,ds,dt,du⟩ ⟨dv,dw,dx,dy,dz⟩ nn;dsimp only[PH];exact B
  ·refine A 12 ?_;refine Tz (b:=((Oi.mk d c),(Lo.mk aa ab))) r ?_ r r ?_ (by first|rfl|(simp only[NN];rfl)|(simp only[NP];rfl)|(simp only[NN,NP];rfl)|(simp[Abn,XM];try rfl))
   all_goals first|(simp;done)|(simp;omega)|rfl|(simp[Pc,OT];done)|(simp[cells];done)

def ApD (b:(List Oc)):D:=.sl (b.map OB)
theorem AoT:NM Tryz.prog 46 (fS (.row 7 67) RV (λa=>AcQ a) ApD):=by
 refine fn2 1 (nK 76 Xu<|NK) Tryz.func46<|?_;intro b;unfold AcQ;refine A 18 ?_;refine lP (E:=λ(s:(List Oc)×Int) (g:Nat×Nat)=>[oP 1 g.1,oT 3 g.2 s.1,oI 4 s.2]) (O:=λs g=>[(1,dV g.1 1 28 (.agg [.sl (b.Funcs.map NU)])),(3,dW g.2 7 67 (s.1.map OB))]) (_,_) hX<|?_
 rintro⟨d,e⟩ ⟨f,h⟩ nn;dsimp only[Aeq];refine Ac 10 ?_ ?_
 ·refine Ab 8 λc i=>?_
  refine A 1 ?_;refine bS ([c]:List Oc) OB r r r (by simp) r r r<|?_
  exact B
 ·exact B

theorem AiR:NM Tryz.prog 63 (fS .ground Ve (λa=>SM a.1 a.2) Oy):=by
 refine fn2 2 (nK 106 AaT<|nK 107 AbF<|nK 108 AhU<|nK 109 AhV<|NK) Tryz.func63<|?_;rintro⟨b,c⟩;unfold SM;refine Ab 13 λe f=>?_
 refine Ac 4 ?_ ?_
 ·exact B
 ·refine Ab 7 λd h=>?_
  refine Ac 15 ?_ ?_
  ·exact B
  ·refine Ab 7 λi k=>?_
   refine Ac 10 ?_ ?_
   ·exact B
   ·refine A 2 ?_;refine sC (E:=λ(_s:Unit) (g:Nat×Nat)=>[oI 1 c,oP 2 g.1,oP 5 g.2]) (O:=λ_ g=>[(2,dV g.1 1 28 (.agg [.sl (b.Funcs.map NU)])),(5,dV g.2 3 57 (NU d))]) (j:=λ_=>YC d b c) ?_ ?_
    ·exact B
    ·rintro⟨⟩ ⟨l,m⟩ nn;dsimp only[YC];refine A 7 ?_;refine lP (E:=λ(s:Int) (g:Nat×Nat)=>[oI 1 c,oP 2 g.1,oP 5 g.2,oI 7 s]) (O:=λ_ g=>[(2,dV g.1 1 28 (.agg [.sl (b.Funcs.map NU)])),(5,dV g.2 3 57 (NU d))]) (_,_) hX<|?_
     rintro k6 ⟨o,p⟩ nn;dsimp only[Rx];exact B

theorem AmD:NM Tryz.prog 72 (fS .ground Abf (λa=>ZM a.1 a.2.1 a.2.2.1 a.2.2.2.1 a.2.2.2.2) Oy):=by
 refine fn2 5 (nK 124 Agz<|nK 116 WT<|nK 125 AmE<|NK) Tryz.func72<|?_;intro a;unfold ZM;exact B

abbrev Aer:=en3 PQ Av OB
abbrev AkJ:=de3 QM uI AcT
def Zg (b:NI×NT×Int×Int):D:=.tup [NU b.1,OR b.2.1,Mk b.2.2.1,Mk b.2.2.2]
theorem AlL:NM Tryz.prog 39 (fS .val Aer (λa=>Rh a.1 a.2.1 a.2.2) Zg):=by
 refine fn2 3 (nK 36 YR<|nK 68 WB<|nK 70 AmB<|nK 71 AbO<|nK 41 ZZ<|nK 72 AmD<|NK) Tryz.func39<|?_;rintro⟨d,e,f⟩;unfold Rh;refine Ab 15 λh l=>?_
 refine Ab 3 λi m=>?_
 refine Ab 11 λc o=>?_
 refine Ac 16 ?_ ?_
 ·refine A 13 ?_;refine Pu (b:=((NI.mk 0 ([]) ([])),(NT.mk 0 0 ([])),0,c.2)) r ?_ r r ?_ (by first|rfl|(simp only[NN];rfl)|(simp only[NP];rfl)|(simp only[NN,NP];rfl)|(simp[Zg,NU,OR];try rfl)) (by decide)
  all_goals first|(simp;done)|(simp;omega)|rfl|(simp[Pc,OT];done)|(simp[cells];done)
 ·refine A 2 ?_;refine sC (E:=λ(_s:Unit) (g:Nat×Nat×Nat×Nat×Nat×Nat)=>[oI 1 e,oP 3 g.1,oP 5 g.2.1,oP 6 g.2.2.1,oP 7 g.2.2.2.1,oP 10 g.2.2.2.2.1,oI 11 i,oP 12 g.2.2.2.2.2]) (O:=λ_ g=>[(3,dV g.1 1 28 (.agg [.sl (d.Funcs.map NU)])),(5,dV g.2.1 7 67 (OB f)),(6,dV g.2.2.1 3 57 (.agg [Mk 0,.nils,.nils])),(7,dV g.2.2.2.1 3 65 (.agg [Mk 0,Mk 0,.nils])),(10,dV g.2.2.2.2.1 3 57 (NU h)),(12,dV g.2.2.2.2.2 3 65 (OR c.1))]) (j:=λ_=>Ur d e i f h c) ?_ ?_
  ·refine Ab 7 λp q=>?_
   refine Ac 4 ?_ ?_
   ·refine Ab 5 λk t=>?_
    refine A 9 ?_;refine sC (E:=λ(s:Bool) (g:Nat×Nat×Nat×Nat×Nat×Nat×Nat)=>[oI 1 e,oP 3 g.1,oP 5 g.2.1,oP 6 g.2.2.1,oP 7 g.2.2.2.1,oP 10 g.2.2.2.2.1,oI 11 i,oP 12 g.2.2.2.2.2.1,oP 14 g.2.2.2.2.2.2,oB 68 s]) (O:=λ_ g=>[(3,dV g.1 1 28 (.agg [.sl (d.Funcs.map NU)])),(5,dV g.2.1 7 67 (OB f)),(6,dV g.2.2.1 3 57 (.agg [Mk 0,.nils,.nils])),(7,dV g.2.2.2.1 3 65 (.agg [Mk 0,Mk 0,.nils])),(10,dV g.2.2.2.2.1 3 57 (NU h)),(12,dV g.2.2.2.2.2.1 3 65 (OR c.1)),(14,dV g.2.2.2.2.2.2 3 57 (NU k.1))]) (j:=λs=>Us k f d e i h c s) ?_ ?_
    ·exact B
    ·rintro u ⟨v,x,z,aa,ab,ac,ad⟩ nn;dsimp only[Us];exact B
   ·exact B
  ·rintro⟨⟩ ⟨ae,af,ag,ah,ai,aj⟩ nn;dsimp only[Ur];exact B

abbrev Aea:=en2 SG Un
abbrev AoA:=de2 Wi Yj
theorem AeB:NM Tryz.prog 158 (fS .ground Aea (λa=>UG a.1 a.2) Oy):=by
 refine fn2 2 (nK 216 AeC<|nK 149 AcH<|NK) Tryz.func158<|?_;intro a;unfold UG;exact B

end Go.Proofs.YtmmchhpdaogopaaGreatDoor
