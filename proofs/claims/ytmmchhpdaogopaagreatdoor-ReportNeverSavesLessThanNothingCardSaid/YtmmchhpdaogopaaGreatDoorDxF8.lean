/-
 The code does what its typed programs say.
-/
import Derived.Test.YtmmchhpdaogopaaGreatDoorDxF4
namespace Go.Proofs.YtmmchhpdaogopaaGreatDoor
open Go Go.Dw Go.Proofs
open Go.IntKind (i64)
set_option maxRecDepth 100000
set_option maxHeartbeats 40000000
open Go.Dw renaming Px -> bD,Qd -> cK,Sp -> bS,AbY -> aP,UT -> sE,QU -> cD,RO -> xC,Qx -> xL,Rq -> lP,Qq -> sC,Qk -> bC,rf -> r
abbrev AhM:=en4 OX NU Av (eL Av)
abbrev AhL:=de4 Rr RP uI (uL uI)
def AjB (b:(List NJ)×Lo):D:=.sl (b.1.map Oj)
def AjA (b:(List NJ)×Lo):List D:=[OX b.2]
theorem Aip:NM Tryz.prog 78 (Ow [(0,(2,103))] (.row 5 53) AhM AhL (λa=>VR a.1 a.2.1 a.2.2.1 a.2.2.2) AjB AjA):=by
 refine fn2 4 (nK 19 Pp<|nK 133 AcC<|nK 23 AcA<|NK) Tryz.func78<|?_;rintro⟨c1,e,d,f⟩;unfold VR;refine Ab 9 λc ab=>?_
 refine Ab 15 λb ac=>?_
 refine A 4 ?_;refine bC (E:=λ(_s:Unit) (_g:Unit)=>[oI 9 c.1]) (O:=λ_ _=>[(8192,dV 0 2 103 (.agg [.sl (b.2.list.map eU8),Mk b.2.at_]))]) (j:=λ_=>Ys c b) ?_ ?_
 ·refine sC (E:=λ(s:Bool) (g:Nat)=>[(0,.optr 8192 0 0 0),oI 2 d,oM 3 f Av,oP 5 g,oI 9 c.1,oL 10 e.Slots,oI 11 b.1,oB 23 s]) (O:=λ_ g=>[(5,dV g 3 57 (NU e)),(8192,dV 0 2 103 (.agg [.sl (b.2.list.map eU8),Mk b.2.at_]))]) (j:=λs=>TU b e c f d s) ?_ ?_
  ·exact B
  ·rintro x7 ae nn;dsimp only[TU];refine cD r ?_ ?_
   ·refine Ab 4 λi af=>?_
    refine A 3 ?_;refine bS ([(NJ.mk 16 i.1 c.1 0 0)]:List NJ) Oj r r r (by simp) r r r<|?_
    exact B
   ·refine sC (E:=λ(s:Bool) (g:Nat)=>[(0,.optr 8192 0 0 0),oI 2 d,oM 3 f Av,oP 5 g,oI 9 c.1,oL 10 e.Slots,oI 11 b.1,oB 36 s]) (O:=λ_ g=>[(5,dV g 3 57 (NU e)),(8192,dV 0 2 103 (.agg [.sl (b.2.list.map eU8),Mk b.2.at_]))]) (j:=λs=>TV b e c f d s) ?_ ?_
    ·exact B
    ·rintro x9 ah nn;dsimp only[TV];refine cD r ?_ ?_
     ·refine Ab 5 λk ai=>?_
      refine A 2 ?_;refine bS ([(NJ.mk 15 c.1 k.1 0 0)]:List NJ) Oj r r r (by simp) r r r<|?_
      exact B
     ·refine sC (E:=λ(s:Bool) (g:Nat)=>[(0,.optr 8192 0 0 0),oI 2 d,oM 3 f Av,oP 5 g,oI 9 c.1,oL 10 e.Slots,oI 11 b.1,oB 49 s]) (O:=λ_ g=>[(5,dV g 3 57 (NU e)),(8192,dV 0 2 103 (.agg [.sl (b.2.list.map eU8),Mk b.2.at_]))]) (j:=λs=>TW b e c f d s) ?_ ?_
      ·exact B
      ·rintro aj ak nn;dsimp only[TW];refine cD r ?_ ?_
       ·refine Ab 4 λl ao=>?_
        refine Ab 9 λm ap=>?_
        refine A 3 ?_;refine bS ([(NJ.mk 17 m.1 l.1 0 0)]:List NJ) Oj r r r (by simp) r r r<|?_
        exact B
       ·refine Ac 7 ?_ ?_
        ·refine Ab 4 λo aq=>?_
         refine A 2 ?_;refine bS ([(NJ.mk 0 c.1 0 0 o.1)]:List NJ) Oj r r r (by simp) r r r<|?_
         exact B
        ·refine Ac 7 ?_ ?_
         ·refine Ab 3 λp ar=>?_
          refine Ab 4 λq au=>?_
          refine Ab 2 λt av=>?_
          refine A 2 ?_;refine bS ([(NJ.mk (i64.wrap (2+p.1)) c.1 q.1 t.1 0)]:List NJ) Oj r r r (by simp) r r r<|?_
          exact B
         ·refine Ac 7 ?_ ?_
          ·refine A 4 ?_;refine bS ([(NJ.mk 14 c.1 0 0 0)]:List NJ) Oj r r r (by simp) r r r<|?_
           exact B
          ·refine Ac 7 ?_ ?_
           ·refine A 2 ?_;refine bS ([13,12,1]:List Int) Av r r r (by simp) r r r<|?_
            refine Ab 1 λaw ax=>?_
            refine Ab 2 λu ay=>?_
            refine A 3 ?_;refine bS ([(NJ.mk u c.1 0 0 0)]:List NJ) Oj r r r (by simp) r r r<|?_
            exact B
           ·refine sC (E:=λ(s:Bool) (g:Nat)=>[(0,.optr 8192 0 0 0),oI 2 d,oM 3 f Av,oP 5 g,oI 9 c.1,oI 11 b.1,oB 104 s]) (O:=λ_ g=>[(5,dV g 3 57 (NU e)),(8192,dV 0 2 103 (.agg [.sl (b.2.list.map eU8),Mk b.2.at_]))]) (j:=λs=>TX b e c f d s) ?_ ?_
            ·exact B
            ·rintro az ba nn;dsimp only[TX];refine cD r ?_ ?_
             ·refine Ab 6 λv bb=>?_
              refine A 2 ?_;refine bS ([(NJ.mk 19 c.1 v.1 0 0)]:List NJ) Oj r r r (by simp) r r r<|?_
              exact B
             ·refine sC (E:=λ(s:Bool) (_g:Unit)=>[(0,.optr 8192 0 0 0),oI 2 d,oM 3 f Av,oI 9 c.1,oB 119 s]) (O:=λ_ _=>[(8192,dV 0 2 103 (.agg [.sl (b.2.list.map eU8),Mk b.2.at_]))]) (j:=λs=>TY b f d c s) ?_ ?_
              ·exact B
              ·rintro bc ⟨⟩ nn;dsimp only[TY];refine cD r ?_ ?_
               ·refine Ab 10 λh bd=>?_
                refine A 17 ?_;refine lP (E:=λ(s:(List Int)×Int×(List NJ)×Int) (g:Nat)=>[(0,.optr 8192 0 0 0),oM 3 f Av,(13,Mk (i64.wrap ((i64.wrap (d+1))+h.1))),oT 14 g s.2.2.1,oI 15 s.2.2.2]) (O:=λs g=>[(14,dW g 5 53 (s.2.2.1.map Oj)),(8192,dV 0 2 103 (.agg [.sl (s.1.map eU8),Mk s.2.1]))]) _ hX<|?_
                rintro⟨bf,bg,bh,x⟩ bi nn;dsimp only[Yr];refine Ab 6 λbj bk=>?_
                refine Ac 5 ?_ ?_
                ·refine Ab 7 λbl bm=>?_
                 refine Ac 4 ?_ ?_
                 ·refine Ab 4 λz bn=>?_
                  refine A 2 ?_;refine bS ([(NJ.mk 18 x z.1 0 0)]:List NJ) Oj r r r (by simp) r r r<|?_
                  exact B
                 ·exact B
                ·refine A 10 ?_;refine bS ([(NJ.mk 22 (i64.wrap ((i64.wrap (d+1))+h.1)) 0 0 0)]:List NJ) Oj r r r (by simp) r r r<|?_
                 exact B
               ·exact B
 ·rintro⟨⟩ ⟨⟩ nn;dsimp only[Ys];refine A 4 ?_;refine bS ([(NJ.mk 14 c.1 0 0 0)]:List NJ) Oj r r r (by simp) r r r<|?_
  exact B

abbrev AeA:=en4 OX Av (eL Av) Av
abbrev Aez:=de4 Rr uI (uL uI) uI
def Aao (b:NI×Lo):D:=NU b.1
def AfU (b:NI×Lo):List D:=[OX b.2]
theorem Afz:NM Tryz.prog 47 (Ow [(0,(2,103))] .val AeA Aez (λa=>Vy a.1 a.2.1 a.2.2.1 a.2.2.2) Aao AfU):=by
 refine fn2 4 (nK 77 AhK<|nK 19 Pp<|nK 78 Aip<|nK 23 AcA<|NK) Tryz.func47<|?_;rintro⟨c1,q,t,x⟩;unfold Vy;refine Ab 9 λd ai=>?_
 refine Ab 3 λh aj=>?_
 refine A 18 ?_;refine lP (E:=λ(s:(List Int)×Int×(List NJ)×Int) (g:Nat×Nat×Nat×Nat)=>[(0,.optr 8192 0 0 0),oI 1 q,oM 2 t Av,oI 3 x,oP 8 g.1,oP 9 g.2.1,oT 10 g.2.2.1 s.2.2.1,oI 11 s.2.2.2]) (O:=λs g=>[(8,dV g.1 3 57 (.agg [Mk 0,.nils,.nils])),(9,dV g.2.1 3 57 (.agg [Mk d,.osl 21 g.2.2.2 0 h.1.length,.nils])),(10,dW g.2.2.1 5 53 (s.2.2.1.map Oj)),(21,dW g.2.2.2 2 75 (h.1.map OW)),(8192,dV 0 2 103 (.agg [.sl (s.1.map eU8),Mk s.2.1]))]) (_,_,_,_) hX<|?_
 rintro⟨c7,c8,ap,z⟩ ⟨aq,ar,au,av⟩ nn;dsimp only[ZE];refine Ac 10 ?_ ?_
 ·refine Ab 7 λaw ax=>?_
  refine Ac 4 ?_ ?_
  ·refine Ab 4 λaa ay=>?_
   refine A 2 ?_;refine bS ([(NJ.mk 16 z aa.1 0 0)]:List NJ) Oj r r r (by simp) r r r<|?_
   exact B
  ·exact B
 ·refine Ab 11 λaz ba=>?_
  refine A 5 ?_;refine lP (E:=λ(s:(List Int)×Int×(List NJ)×(List Og)×Int) (g:Nat×Nat×Nat)=>[(0,.optr 8192 0 0 0),oI 1 q,oM 2 t Av,oP 8 g.1,oP 9 g.2.1,oT 10 g.2.2 s.2.2.1,oI 12 s.2.2.2.2]) (O:=λs g=>[(8,dV g.1 3 57 (.agg [Mk 0,.nils,.nils])),(9,dV g.2.1 3 57 (.agg [Mk d,.sl (s.2.2.2.1.map OW),.nils])),(10,dW g.2.2 5 53 (s.2.2.1.map Oj)),(8192,dV 0 2 103 (.agg [.sl (s.1.map eU8),Mk s.2.1]))]) (_,_,_) ((Vm [(21,some (_,⟨true,false,2,75,h.1.map OW⟩))] ⟨⟨_,_,r,r,r⟩,trivial⟩ ⟨(OA r),(OA r),(OA r),(OA r),(OA r),(OA r),(OA r),trivial⟩ ⟨(.inl r),(.inr ⟨_,_,_,_,r,r,r,r,Uw r ⟨(OJ r),(VM (l:=h.1) (en:=OW) r r r (by first|(simp;done)|rfl|(simp;rfl))),(OJ r),trivial⟩⟩),(.inl r),(.inl r),trivial⟩))<|?_
  rintro⟨bb,bc,i,e,bd⟩ ⟨bf,bg,bh⟩ nn;dsimp only[ZF];refine Ac 7 ?_ ?_
  ·refine Ab 11 λbi bj=>?_
   refine Ab 8 λbk bl=>?_
   refine Ac 10 ?_ ?_
   ·refine Ab 3 λab bm=>?_
    refine A 2 ?_;refine bS ([(NJ.mk 21 ab.1 (-1) 0 0)]:List NJ) Oj r r r (by simp) r r r<|?_
    exact B
   ·refine Ac 6 ?_ ?_
    ·refine Ab 3 λbn bo=>?_
     refine Ac 4 ?_ ?_
     ·refine A 3 ?_;refine bS ([(NJ.mk 20 (-1) 0 0 0)]:List NJ) Oj r r r (by simp) r r r<|?_
      exact B
     ·exact B
    ·exact B
  ·refine A 12 ?_;refine sC (E:=λ(_s:(List Int)×Int×Int×Int) (g:Nat×Nat×Nat×Nat)=>[(0,.optr 8192 0 0 0),oP 8 g.1,oP 9 g.2.1,oT 10 g.2.2.1 i,oP 13 g.2.2.2]) (O:=λs g=>[(8,dV g.1 3 57 (.agg [Mk 0,.nils,.nils])),(9,dV g.2.1 3 57 (.agg [Mk d,.sl (e.map OW),.nils])),(10,dW g.2.2.1 5 53 (i.map Oj)),(13,dV g.2.2.2 5 53 (.agg [Mk s.2.2.1,Mk 0,Mk 0,Mk 0,Aqz s.2.2.2])),(8192,dV 0 2 103 (.agg [.sl (s.1.map eU8),Mk s.2.1]))]) (j:=λs=>Rn i d e s.1 s.2.1 s.2.2.1 s.2.2.2) ?_ ?_
   ·exact B
   ·rintro⟨bp,bq,u,v⟩ ⟨br,bs,bt,bu⟩ nn;dsimp only[Rn];refine A 4 ?_;refine bS ([(NJ.mk u 0 0 0 v)]:List NJ) Oj r r r (by simp) r r r<|cK λhq=>aP (i) (([(NJ.mk u 0 0 0 v)]:List NJ)) Oj r r r r r r r (by simp) (Yi _ _ r) r r (by simp) (VK _ _ r) (λ_=>r) r hq<|?_
    refine A 10 ?_;refine lP (E:=λ(s:(List Int)×Int×(List NJ)×Int) (g:Nat×Nat×Nat)=>[(0,.optr 8192 0 0 0),oP 8 g.1,oP 9 g.2.1,oT 10 g.2.2 s.2.2.1,oI 14 s.2.2.2]) (O:=λs g=>[(8,dV g.1 3 57 (.agg [Mk 0,.nils,.nils])),(9,dV g.2.1 3 57 (.agg [Mk d,.sl (e.map OW),.nils])),(10,dW g.2.2 5 53 (s.2.2.1.map Oj)),(8192,dV 0 2 103 (.agg [.sl (s.1.map eU8),Mk s.2.1]))]) (_,_,_) hX<|?_
    rintro⟨ac,ad,c,k⟩ ⟨bv,bw,bx⟩ nn;dsimp only[Ws];refine Ac 9 ?_ ?_
    ·refine Ab 8 λf bz=>?_
     refine A 6 ?_;refine sC (E:=λ(s:Int) (g:Nat×Nat×Nat)=>[(0,.optr 8192 0 0 0),oP 8 g.1,oP 9 g.2.1,oT 10 g.2.2 c,oI 14 k,oI 15 s]) (O:=λ_ g=>[(8,dV g.1 3 57 (.agg [Mk 0,.nils,.nils])),(9,dV g.2.1 3 57 (.agg [Mk d,.sl (e.map OW),.nils])),(10,dW g.2.2 5 53 (c.map Oj)),(8192,dV 0 2 103 (.agg [.sl (f.2.list.map eU8),Mk f.2.at_]))]) (j:=λs=>Qg k c f s) ?_ ?_
     ·exact B
     ·rintro m ⟨ca,cb,cc⟩ nn;dsimp only[Qg];refine A 1 ?_;refine sC (E:=λ(s:Bool) (g:Nat×Nat×Nat)=>[(0,.optr 8192 0 0 0),oP 8 g.1,oP 9 g.2.1,oT 10 g.2.2 c,oI 14 k,oI 15 m,oB 107 s]) (O:=λ_ g=>[(8,dV g.1 3 57 (.agg [Mk 0,.nils,.nils])),(9,dV g.2.1 3 57 (.agg [Mk d,.sl (e.map OW),.nils])),(10,dW g.2.2 5 53 (c.map Oj)),(8192,dV 0 2 103 (.agg [.sl (f.2.list.map eU8),Mk f.2.at_]))]) (j:=λs=>Sh k c f m s) ?_ ?_
      ·refine Ab 5 λcd ce=>?_
       refine A 3 ?_;refine Qy r ?_ ?_
       ·refine Ab 4 λae cf=>?_
        refine A 5 ?_;exact xC (s:=(decide (ae.A<0))) (_,_,_) hX
       ·refine A 9 ?_;exact xC (s:=false) (_,_,_) hX
      ·rintro ch ⟨ci,cj,ck⟩ nn;dsimp only[Sh];refine cD r ?_ ?_
       ·refine A 6 ?_;refine bD λo af=>sE (l:=c) (en:=Oj) (q':=(NJ.mk o.Op m o.B o.C o.Imm)) r r r r r r r (by simp) af r r r r r<|?_
        exact B
       ·refine Ab 6 λcl cm=>?_
        refine A 3 ?_;refine Qy r ?_ ?_
        ·refine Ab 4 λcn co=>?_
         refine Ac 6 ?_ ?_
         ·refine A 6 ?_;refine bD λp ag=>sE (l:=c) (en:=Oj) (q':=(NJ.mk p.Op p.A m p.C p.Imm)) r r r r r r r (by simp) ag r r r r r<|?_
          exact B
         ·exact B
        ·exact B
    ·refine A 19 ?_;refine Tz (b:=((NI.mk d e c),(Lo.mk ac ad))) r ?_ r r ?_ (by first|rfl|(simp only[NN];rfl)|(simp only[NP];rfl)|(simp only[NN,NP];rfl)|(simp[Aao,NU];try rfl))
     all_goals first|(simp;done)|(simp;omega)|rfl|(simp[Pc,OT];done)|(simp[cells];done)

abbrev AnG:=en4 (eL Qr) Av Av Av
abbrev AvH:=de4 (uL UU) uI uI uI
theorem AoO:NM Tryz.prog 197 (fS .ground AnG (λa=>AcM a.1 a.2.1 a.2.2.1 a.2.2.2) YP):=by
 refine fn2 4 (nK 176 Va<|nK 173 AbE<|nK 198 YO<|nK 113 AfA<|nK 235 AnH<|NK) Tryz.func197<|?_;rintro⟨c,b,d,e⟩;unfold AcM;refine A 6 ?_;refine sC (E:=λ(_s:Unit) (_g:Unit)=>[oM 0 c Qr,oI 1 b,oI 2 d,oI 3 e]) (O:=λ_ _=>[]) (j:=λ_=>Aee c e d b) ?_ ?_
 ·exact B
 ·rintro⟨⟩ ⟨⟩ nn;dsimp only[Aee];refine A 7 ?_;refine lP (E:=λ(s:Int) (_g:Unit)=>[oM 0 c Qr,oI 1 b,oI 2 d,oI 3 e,oI 10 s]) (O:=λ_ _=>[]) () hX<|?_
  rintro l ⟨⟩ nn;dsimp only[AiP];refine Ac 9 ?_ ?_
  ·exact B
  ·refine A 18 ?_;refine lP (E:=λ(s:Int×Bool×Int) (_g:Unit)=>[oM 0 c Qr,oI 1 b,oI 2 d,oI 3 e,oI 11 s.1,oB 12 s.2.1,oI 13 s.2.2]) (O:=λ_ _=>[]) () hX<|?_
   rintro⟨f,g,h⟩ ⟨⟩ nn;dsimp only[AiQ];refine Ac 9 ?_ ?_
   ·refine A 10 ?_;refine sC (E:=λ(s:Int) (_g:Unit)=>[oM 0 c Qr,oI 1 b,oI 2 d,oI 3 e,oI 11 f,oB 12 g,oI 13 h,oI 14 s]) (O:=λ_ _=>[]) (j:=λs=>WN e d c g h f s) ?_ ?_
    ·refine Ac 6 ?_ ?_
     ·refine Ab 4 λi m=>?_
      refine Ab 5 λk o=>?_
      refine A 7 ?_;exact xC (s:=Ph b (i64.wrap (i.Off+k.Size))) () hX
     ·refine A 1 ?_;exact xC (s:=b) () hX
    ·rintro p ⟨⟩ nn;dsimp only[WN];exact B
   ·exact B

end Go.Proofs.YtmmchhpdaogopaaGreatDoor
