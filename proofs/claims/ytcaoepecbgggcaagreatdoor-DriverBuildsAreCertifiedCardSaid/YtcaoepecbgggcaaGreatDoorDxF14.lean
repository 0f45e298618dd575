/-
 The code does what its typed programs say.
-/
import Derived.Test.YtcaoepecbgggcaaGreatDoorDxF13
namespace Go.Proofs.YtcaoepecbgggcaaGreatDoor
open Go Go.Dw Go.Proofs
open Go.IntKind (i64)
set_option maxRecDepth 100000
set_option maxHeartbeats 40000000
open Go.Dw renaming OO -> bD,Qk -> cK,TR -> bS,Abq -> aP,Vf -> sE,Qs -> cD,Rp -> xC,PY -> xL,QS -> lP,PQ -> sC,RQ -> bC,rf -> r
abbrev AjG:=en4 Oh Nz Av (eL Av)
abbrev AjF:=de4 Rq Rh uI (uL uI)
def Aly (b:(List Lo)×Mk):D:=.sl (b.1.map NG)
def Alx (b:(List Lo)×Mk):List D:=[Oh b.2]
theorem Akl:Nr Tryz.prog 132 (NO [(0,(2,114))] (.row 5 90) AjG AjF (λa=>Wj a.1 a.2.1 a.2.2.1 a.2.2.2) Aly Alx):=by
 refine fn2 4 (nK 22 OK<|nK 194 AdL<|nK 48 AdJ<|Np) Tryz.func132<|?_;rintro⟨c1,e,d,f⟩;unfold Wj;refine Ab 9 λc ab=>?_
 refine Ab 15 λb ac=>?_
 refine A 4 ?_;refine bC (E:=λ(_s:Unit) (_g:Unit)=>[oI 9 c.1]) (O:=λ_ _=>[(8192,dV 0 2 114 (.agg [.sl (b.2.list.map eU8),Nm b.2.at_]))]) (j:=λ_=>Zc c b) ?_ ?_
 ·refine sC (E:=λ(s:Bool) (g:Nat)=>[(0,.optr 8192 0 0 0),oI 2 d,oM 3 f Av,oP 5 g,oI 9 c.1,oL 10 e.Slots,oI 11 b.1,oB 23 s]) (O:=λ_ g=>[(5,dV g 3 36 (Nz e)),(8192,dV 0 2 114 (.agg [.sl (b.2.list.map eU8),Nm b.2.at_]))]) (j:=λs=>Ug b e c f d s) ?_ ?_
  ·exact B
  ·rintro x7 ae nn;dsimp only[Ug];refine cD r ?_ ?_
   ·refine Ab 4 λi af=>?_
    refine A 3 ?_;refine bS ([(Lo.mk 16 i.1 c.1 0 0)]:List Lo) NG r r r (by simp) r r r<|?_
    exact B
   ·refine sC (E:=λ(s:Bool) (g:Nat)=>[(0,.optr 8192 0 0 0),oI 2 d,oM 3 f Av,oP 5 g,oI 9 c.1,oL 10 e.Slots,oI 11 b.1,oB 36 s]) (O:=λ_ g=>[(5,dV g 3 36 (Nz e)),(8192,dV 0 2 114 (.agg [.sl (b.2.list.map eU8),Nm b.2.at_]))]) (j:=λs=>Uh b e c f d s) ?_ ?_
    ·exact B
    ·rintro x9 ah nn;dsimp only[Uh];refine cD r ?_ ?_
     ·refine Ab 5 λk ai=>?_
      refine A 2 ?_;refine bS ([(Lo.mk 15 c.1 k.1 0 0)]:List Lo) NG r r r (by simp) r r r<|?_
      exact B
     ·refine sC (E:=λ(s:Bool) (g:Nat)=>[(0,.optr 8192 0 0 0),oI 2 d,oM 3 f Av,oP 5 g,oI 9 c.1,oL 10 e.Slots,oI 11 b.1,oB 49 s]) (O:=λ_ g=>[(5,dV g 3 36 (Nz e)),(8192,dV 0 2 114 (.agg [.sl (b.2.list.map eU8),Nm b.2.at_]))]) (j:=λs=>Ui b e c f d s) ?_ ?_
      ·exact B
      ·rintro aj ak nn;dsimp only[Ui];refine cD r ?_ ?_
       ·refine Ab 4 λl ao=>?_
        refine Ab 9 λm ap=>?_
        refine A 3 ?_;refine bS ([(Lo.mk 17 m.1 l.1 0 0)]:List Lo) NG r r r (by simp) r r r<|?_
        exact B
       ·refine Ac 7 ?_ ?_
        ·refine Ab 4 λo aq=>?_
         refine A 2 ?_;refine bS ([(Lo.mk 0 c.1 0 0 o.1)]:List Lo) NG r r r (by simp) r r r<|?_
         exact B
        ·refine Ac 7 ?_ ?_
         ·refine Ab 3 λp ar=>?_
          refine Ab 4 λq au=>?_
          refine Ab 2 λt av=>?_
          refine A 2 ?_;refine bS ([(Lo.mk (i64.wrap (2+p.1)) c.1 q.1 t.1 0)]:List Lo) NG r r r (by simp) r r r<|?_
          exact B
         ·refine Ac 7 ?_ ?_
          ·refine A 4 ?_;refine bS ([(Lo.mk 14 c.1 0 0 0)]:List Lo) NG r r r (by simp) r r r<|?_
           exact B
          ·refine Ac 7 ?_ ?_
           ·refine A 2 ?_;refine bS ([13,12,1]:List Int) Av r r r (by simp) r r r<|?_
            refine Ab 1 λaw ax=>?_
            refine Ab 2 λu ay=>?_
            refine A 3 ?_;refine bS ([(Lo.mk u c.1 0 0 0)]:List Lo) NG r r r (by simp) r r r<|?_
            exact B
           ·refine sC (E:=λ(s:Bool) (g:Nat)=>[(0,.optr 8192 0 0 0),oI 2 d,oM 3 f Av,oP 5 g,oI 9 c.1,oI 11 b.1,oB 104 s]) (O:=λ_ g=>[(5,dV g 3 36 (Nz e)),(8192,dV 0 2 114 (.agg [.sl (b.2.list.map eU8),Nm b.2.at_]))]) (j:=λs=>Uj b e c f d s) ?_ ?_
            ·exact B
            ·rintro az ba nn;dsimp only[Uj];refine cD r ?_ ?_
             ·refine Ab 6 λv bb=>?_
              refine A 2 ?_;refine bS ([(Lo.mk 19 c.1 v.1 0 0)]:List Lo) NG r r r (by simp) r r r<|?_
              exact B
             ·refine sC (E:=λ(s:Bool) (_g:Unit)=>[(0,.optr 8192 0 0 0),oI 2 d,oM 3 f Av,oI 9 c.1,oB 119 s]) (O:=λ_ _=>[(8192,dV 0 2 114 (.agg [.sl (b.2.list.map eU8),Nm b.2.at_]))]) (j:=λs=>Uk b f d c s) ?_ ?_
              ·exact B
              ·rintro bc ⟨⟩ nn;dsimp only[Uk];refine cD r ?_ ?_
               ·refine Ab 10 λh bd=>?_
                refine A 17 ?_;refine lP (E:=λ(s:(List Int)×Int×(List Lo)×Int) (g:Nat)=>[(0,.optr 8192 0 0 0),oM 3 f Av,(13,Nm (i64.wrap ((i64.wrap (d+1))+h.1))),oT 14 g s.2.2.1,oI 15 s.2.2.2]) (O:=λs g=>[(14,dW g 5 90 (s.2.2.1.map NG)),(8192,dV 0 2 114 (.agg [.sl (s.1.map eU8),Nm s.2.1]))]) _ hX<|?_
                rintro⟨bf,bg,bh,x⟩ bi nn;dsimp only[Zb];refine Ab 6 λbj bk=>?_
                refine Ac 5 ?_ ?_
                ·refine Ab 7 λbl bm=>?_
                 refine Ac 4 ?_ ?_
                 ·refine Ab 4 λz bn=>?_
                  refine A 2 ?_;refine bS ([(Lo.mk 18 x z.1 0 0)]:List Lo) NG r r r (by simp) r r r<|?_
                  exact B
                 ·exact B
                ·refine A 10 ?_;refine bS ([(Lo.mk 22 (i64.wrap ((i64.wrap (d+1))+h.1)) 0 0 0)]:List Lo) NG r r r (by simp) r r r<|?_
                 exact B
               ·exact B
 ·rintro⟨⟩ ⟨⟩ nn;dsimp only[Zc];refine A 4 ?_;refine bS ([(Lo.mk 14 c.1 0 0 0)]:List Lo) NG r r r (by simp) r r r<|?_
  exact B

abbrev AfT:=en4 Oh Av (eL Av) Av
abbrev AfS:=de4 Rq uI (uL uI) uI
def Abl (b:Nn×Mk):D:=Nz b.1
def AhF (b:Nn×Mk):List D:=[Oh b.2]
theorem Ahf:Nr Tryz.prog 73 (NO [(0,(2,114))] .val AfT AfS (λa=>VK a.1 a.2.1 a.2.2.1 a.2.2.2) Abl AhF):=by
 refine fn2 4 (nK 131 AjE<|nK 22 OK<|nK 132 Akl<|nK 48 AdJ<|Np) Tryz.func73<|?_;rintro⟨c1,q,t,x⟩;unfold VK;refine Ab 9 λd ai=>?_
 refine Ab 3 λh aj=>?_
 refine A 18 ?_;refine lP (E:=λ(s:(List Int)×Int×(List Lo)×Int) (g:Nat×Nat×Nat×Nat)=>[(0,.optr 8192 0 0 0),oI 1 q,oM 2 t Av,oI 3 x,oP 8 g.1,oP 9 g.2.1,oT 10 g.2.2.1 s.2.2.1,oI 11 s.2.2.2]) (O:=λs g=>[(8,dV g.1 3 36 (.agg [Nm 0,.nils,.nils])),(9,dV g.2.1 3 36 (.agg [Nm d,.osl 21 g.2.2.2 0 h.1.length,.nils])),(10,dW g.2.2.1 5 90 (s.2.2.1.map NG)),(21,dW g.2.2.2 2 87 (h.1.map On)),(8192,dV 0 2 114 (.agg [.sl (s.1.map eU8),Nm s.2.1]))]) (_,_,_,_) hX<|?_
 rintro⟨c7,c8,ap,z⟩ ⟨aq,ar,au,av⟩ nn;dsimp only[Aau];refine Ac 10 ?_ ?_
 ·refine Ab 7 λaw ax=>?_
  refine Ac 4 ?_ ?_
  ·refine Ab 4 λaa ay=>?_
   refine A 2 ?_;refine bS ([(Lo.mk 16 z aa.1 0 0)]:List Lo) NG r r r (by simp) r r r<|?_
   exact B
  ·exact B
 ·refine Ab 11 λaz ba=>?_
  refine A 5 ?_;refine lP (E:=λ(s:(List Int)×Int×(List Lo)×(List NB)×Int) (g:Nat×Nat×Nat)=>[(0,.optr 8192 0 0 0),oI 1 q,oM 2 t Av,oP 8 g.1,oP 9 g.2.1,oT 10 g.2.2 s.2.2.1,oI 12 s.2.2.2.2]) (O:=λs g=>[(8,dV g.1 3 36 (.agg [Nm 0,.nils,.nils])),(9,dV g.2.1 3 36 (.agg [Nm d,.sl (s.2.2.2.1.map On),.nils])),(10,dW g.2.2 5 90 (s.2.2.1.map NG)),(8192,dV 0 2 114 (.agg [.sl (s.1.map eU8),Nm s.2.1]))]) (_,_,_) ((WI [(21,some (_,⟨true,false,2,87,h.1.map On⟩))] ⟨⟨_,_,r,r,r⟩,trivial⟩ ⟨(NY r),(NY r),(NY r),(NY r),(NY r),(NY r),(NY r),trivial⟩ ⟨(.inl r),(.inr ⟨_,_,_,_,r,r,r,r,Vq r ⟨(Ol r),(We (l:=h.1) (en:=On) r r r (by first|(simp;done)|rfl|(simp;rfl))),(Ol r),trivial⟩⟩),(.inl r),(.inl r),trivial⟩))<|?_
  rintro⟨bb,bc,i,e,bd⟩ ⟨bf,bg,bh⟩ nn;dsimp only[Aav];refine Ac 7 ?_ ?_
  ·refine Ab 11 λbi bj=>?_
   refine Ab 8 λbk bl=>?_
   refine Ac 10 ?_ ?_
   ·refine Ab 3 λab bm=>?_
    refine A 2 ?_;refine bS ([(Lo.mk 21 ab.1 (-1) 0 0)]:List Lo) NG r r r (by simp) r r r<|?_
    exact B
   ·refine Ac 6 ?_ ?_
    ·refine Ab 3 λbn bo=>?_
     refine Ac 4 ?_ ?_
     ·refine A 3 ?_;refine bS ([(Lo.mk 20 (-1) 0 0 0)]:List Lo) NG r r r (by simp) r r r<|?_
      exact B
     ·exact B
    ·exact B
  ·refine A 12 ?_;refine sC (E:=λ(_s:(List Int)×Int×Int×Int) (g:Nat×Nat×Nat×Nat)=>[(0,.optr 8192 0 0 0),oP 8 g.1,oP 9 g.2.1,oT 10 g.2.2.1 i,oP 13 g.2.2.2]) (O:=λs g=>[(8,dV g.1 3 36 (.agg [Nm 0,.nils,.nils])),(9,dV g.2.1 3 36 (.agg [Nm d,.sl (e.map On),.nils])),(10,dW g.2.2.1 5 90 (i.map NG)),(13,dV g.2.2.2 5 90 (.agg [Nm s.2.2.1,Nm 0,Nm 0,Nm 0,Aoc s.2.2.2])),(8192,dV 0 2 114 (.agg [.sl (s.1.map eU8),Nm s.2.1]))]) (j:=λs=>Rm i d e s.1 s.2.1 s.2.2.1 s.2.2.2) ?_ ?_
   ·exact B
   ·rintro⟨bp,bq,u,v⟩ ⟨br,bs,bt,bu⟩ nn;dsimp only[Rm];refine A 4 ?_;refine bS ([(Lo.mk u 0 0 0 v)]:List Lo) NG r r r (by simp) r r r<|cK λhq=>aP (i) (([(Lo.mk u 0 0 0 v)]:List Lo)) NG r r r r r r r (by simp) (YR _ _ r) r r (by simp) (Wb _ _ r) (λ_=>r) r hq<|?_
    refine A 10 ?_;refine lP (E:=λ(s:(List Int)×Int×(List Lo)×Int) (g:Nat×Nat×Nat)=>[(0,.optr 8192 0 0 0),oP 8 g.1,oP 9 g.2.1,oT 10 g.2.2 s.2.2.1,oI 14 s.2.2.2]) (O:=λs g=>[(8,dV g.1 3 36 (.agg [Nm 0,.nils,.nils])),(9,dV g.2.1 3 36 (.agg [Nm d,.sl (e.map On),.nils])),(10,dW g.2.2 5 90 (s.2.2.1.map NG)),(8192,dV 0 2 114 (.agg [.sl (s.1.map eU8),Nm s.2.1]))]) (_,_,_) hX<|?_
    rintro⟨ac,ad,c,k⟩ ⟨bv,bw,bx⟩ nn;dsimp only[WG];refine Ac 9 ?_ ?_
    ·refine Ab 8 λf bz=>?_
     refine A 6 ?_;refine sC (E:=λ(s:Int) (g:Nat×Nat×Nat)=>[(0,.optr 8192 0 0 0),oP 8 g.1,oP 9 g.2.1,oT 10 g.2.2 c,oI 14 k,oI 15 s]) (O:=λ_ g=>[(8,dV g.1 3 36 (.agg [Nm 0,.nils,.nils])),(9,dV g.2.1 3 36 (.agg [Nm d,.sl (e.map On),.nils])),(10,dW g.2.2 5 90 (c.map NG)),(8192,dV 0 2 114 (.agg [.sl (f.2.list.map eU8),Nm f.2.at_]))]) (j:=λs=>PZ k c f s) ?_ ?_
     ·exact B
     ·rintro m ⟨ca,cb,cc⟩ nn;dsimp only[PZ];refine A 1 ?_;refine sC (E:=λ(s:Bool) (g:Nat×Nat×Nat)=>[(0,.optr 8192 0 0 0),oP 8 g.1,oP 9 g.2.1,oT 10 g.2.2 c,oI 14 k,oI 15 m,oB 107 s]) (O:=λ_ g=>[(8,dV g.1 3 36 (.agg [Nm 0,.nils,.nils])),(9,dV g.2.1 3 36 (.agg [Nm d,.sl (e.map On),.nils])),(10,dW g.2.2 5 90 (c.map NG)),(8192,dV 0 2 114 (.agg [.sl (f.2.list.map eU8),Nm f.2.at_]))]) (j:=λs=>Sh k c f m s) ?_ ?_
      ·refine Ab 5 λcd ce=>?_
       refine A 3 ?_;refine QO r ?_ ?_
       ·refine Ab 4 λae cf=>?_
        refine A 5 ?_;exact xC (s:=(decide (ae.A<0))) (_,_,_) hX
       ·refine A 9 ?_;exact xC (s:=false) (_,_,_) hX
      ·rintro ch ⟨ci,cj,ck⟩ nn;dsimp only[Sh];refine cD r ?_ ?_
       ·refine A 6 ?_;refine bD λo af=>sE (l:=c) (en:=NG) (q':=(Lo.mk o.Op m o.B o.C o.Imm)) r r r r r r r (by simp) af r r r r r<|?_
        exact B
       ·refine Ab 6 λcl cm=>?_
        refine A 3 ?_;refine QO r ?_ ?_
        ·refine Ab 4 λcn co=>?_
         refine Ac 6 ?_ ?_
         ·refine A 6 ?_;refine bD λp ag=>sE (l:=c) (en:=NG) (q':=(Lo.mk p.Op p.A m p.C p.Imm)) r r r r r r r (by simp) ag r r r r r<|?_
          exact B
         ·exact B
        ·exact B
    ·refine A 19 ?_;refine Uy (b:=((Nn.mk d e c),(Mk.mk ac ad))) r ?_ r r ?_ (by first|rfl|(simp only[Nu];rfl)|(simp only[Nx];rfl)|(simp only[Nu,Nx];rfl)|(simp[Abl,Nz];try rfl))
     all_goals first|(simp;done)|(simp;omega)|rfl|(simp[OQ,OH];done)|(simp[cells];done)

end Go.Proofs.YtcaoepecbgggcaaGreatDoor
