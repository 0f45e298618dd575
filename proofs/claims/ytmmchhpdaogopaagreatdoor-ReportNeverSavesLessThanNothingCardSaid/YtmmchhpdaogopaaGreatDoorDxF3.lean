/-
 The code does what its typed programs say.
-/
import Derived.Test.YtmmchhpdaogopaaGreatDoorDxF2
namespace Go.Proofs.YtmmchhpdaogopaaGreatDoor
open Go Go.Dw Go.Proofs
open Go.IntKind (i64)
set_option maxRecDepth 100000
set_option maxHeartbeats 40000000
open Go.Dw renaming Px -> bD,Qd -> cK,Sp -> bS,QU -> cD,RO -> xC,Qx -> xL,Rq -> lP,Qq -> sC,Qk -> bC,rf -> r
abbrev Tp:=en2 (eL Av) Av
abbrev Akw:=de2 (uL uI) uI
theorem AeX:NM Tryz.prog 134 (fS (.row 1 3) Tp (λa=>WR a.1 a.2) PN):=by
 refine fn2 2 (NK) Tryz.func134<|?_;rintro⟨d,e⟩;unfold WR;refine A 17 ?_;refine lP (E:=λ(s:(List Int)×Int) (g:Nat)=>[oM 0 d Av,oI 1 e,oT 5 g s.1,oI 6 s.2]) (O:=λs g=>[(5,dW g 1 3 (s.1.map Av))]) _ hX<|?_
 rintro⟨b,c⟩ h nn;dsimp only[Up];refine Ac 9 ?_ ?_
 ·refine Ab 8 λi j=>?_
  refine Ac 6 ?_ ?_
  ·refine Ab 4 λf k=>?_
   refine A 13 ?_;exact xL (s:=(b++([f]:List Int),i64.wrap (c+1))) _ hX
  ·refine A 8 ?_;exact xL (s:=(b,i64.wrap (c+1))) _ hX
 ·exact B

theorem Ahz:NM Tryz.prog 184 (fS (.row 1 3) Td (λa=>UN a) PN):=by
 refine fn2 1 (NK) Tryz.func184<|?_;intro a;unfold UN;exact B

theorem WQ:NM Tryz.prog 66 (fS (.row 1 3) Tp (λa=>Sw a.1 a.2) PN):=by
 refine fn2 2 (nK 111 Ahx<|NK) Tryz.func66<|?_;rintro⟨b,c⟩;unfold Sw;refine Ab 13 λh i=>?_
 refine A 12 ?_;refine lP (E:=λ(s:(List Int)×Bool×Int) (g:Nat)=>[oM 0 b Av,oI 1 c,oT 5 g s.1,oB 6 s.2.1,oI 7 s.2.2]) (O:=λs g=>[(5,dW g 1 3 (s.1.map Av))]) _ hX<|?_
 rintro⟨e,f,d⟩ k nn;dsimp only[Sj];refine Ac 9 ?_ ?_
 ·refine A 4 ?_;refine sC (E:=λ(s:(List Int)×Bool) (g:Nat)=>[oM 0 b Av,oI 1 c,oT 5 g s.1,oB 6 s.2,oI 7 d]) (O:=λs g=>[(5,dW g 1 3 (s.1.map Av))]) (j:=λs=>SL b d s.1 s.2) ?_ ?_
  ·refine sC (E:=λ(s:Bool) (g:Nat)=>[oM 0 b Av,oI 1 c,oT 5 g e,oB 6 f,oI 7 d,oB 26 s]) (O:=λ_ g=>[(5,dW g 1 3 (e.map Av))]) (j:=λs=>Ue b d c e f s) ?_ ?_
   ·exact B
   ·rintro l m nn;dsimp only[Ue];exact B
  ·rintro⟨o,p⟩ q nn;dsimp only[SL];exact B
 ·exact B

theorem Vq:NM Tryz.prog 64 (fS .ground Tp (λa=>Uf a.1 a.2) Od):=by
 refine fn2 2 (NK) Tryz.func64<|?_;rintro⟨b,c⟩;unfold Uf;refine A 12 ?_;refine lP (E:=λ(s:Int) (_g:Unit)=>[oM 0 b Av,oI 1 c,oI 5 s]) (O:=λ_ _=>[]) () hX<|?_
 rintro d ⟨⟩ nn;dsimp only[YA];exact B

theorem Aem:NM Tryz.prog 120 (fS (.row 1 3) Tp (λa=>VI a.1 a.2) PN):=by
 refine fn2 2 (NK) Tryz.func120<|?_;rintro⟨b,c⟩;unfold VI;refine A 17 ?_;refine lP (E:=λ(s:(List Int)×Int) (g:Nat)=>[oM 0 b Av,oI 1 c,oT 5 g s.1,oI 6 s.2]) (O:=λs g=>[(5,dW g 1 3 (s.1.map Av))]) _ hX<|?_
 rintro⟨d,e⟩ f nn;dsimp only[Ael];exact B

abbrev AjN:=en2 XM (eL Av)
abbrev AsR:=de2 Aas (uL uI)
theorem AkE:NM Tryz.prog 121 (fS (.row 1 3) AjN (λa=>XJ a.1 a.2) PN):=by
 refine fn2 2 (NK) Tryz.func121<|?_;rintro⟨b,c⟩;unfold XJ;refine A 18 ?_;refine lP (E:=λ(s:(List Int)×Int) (g:Nat×Nat)=>[oM 1 c Av,oP 2 g.1,oT 5 g.2 s.1,oI 6 s.2]) (O:=λs g=>[(2,dV g.1 2 63 (.agg [.sl (b.To.map Av),.sl (b.Keep.map D.bool)])),(5,dW g.2 1 3 (s.1.map Av))]) (_,_) hX<|?_
 rintro⟨e,d⟩ ⟨f,h⟩ nn;dsimp only[Aen];refine Ac 10 ?_ ?_
 ·refine A 2 ?_;refine bC (E:=λ(s:(List Int)) (g:Nat×Nat)=>[oM 1 c Av,oP 2 g.1,oT 5 g.2 s,oI 6 d]) (O:=λs g=>[(2,dV g.1 2 63 (.agg [.sl (b.To.map Av),.sl (b.Keep.map D.bool)])),(5,dW g.2 1 3 (s.map Av))]) (j:=λs=>Xt d s) ?_ ?_
  ·refine A 12 ?_;refine lP (E:=λ(s:Int×Int) (g:Nat×Nat)=>[oM 1 c Av,oP 2 g.1,oT 5 g.2 e,oI 6 d,oI 7 s.1,oI 8 s.2]) (O:=λ_ g=>[(2,dV g.1 2 63 (.agg [.sl (b.To.map Av),.sl (b.Keep.map D.bool)])),(5,dW g.2 1 3 (e.map Av))]) (_,_) hX<|?_
   rintro⟨i,k⟩ ⟨l,m⟩ nn;dsimp only[Aeo];exact B
  ·rintro o ⟨p,q⟩ nn;dsimp only[Xt];exact B
 ·exact B

theorem AaT:NM Tryz.prog 106 (fS .ground Ud (λa=>PZ a.1 a.2) Od):=by
 refine fn2 2 (NK) Tryz.func106<|?_;intro a;unfold PZ;exact B

abbrev AcN:=en3 PQ NU Oj
abbrev Asj:=de3 QM RP Sl
theorem AjI:NM Tryz.prog 175 (fS .ground AcN (λa=>Om a.1 a.2.1 a.2.2) Od):=by
 refine fn2 3 (nK 227 AjJ<|nK 106 AaT<|NK) Tryz.func175<|?_;rintro⟨c,d,b⟩;unfold Om;refine A 16 ?_;refine sC (E:=λ(s:Bool) (g:Nat×Nat×Nat)=>[oP 3 g.1,oP 4 g.2.1,oP 5 g.2.2,oI 8 b.Op,oB 9 s]) (O:=λ_ g=>[(3,dV g.1 1 28 (.agg [.sl (c.Funcs.map NU)])),(4,dV g.2.1 3 57 (NU d)),(5,dV g.2.2 5 53 (Oj b))]) (j:=λs=>Ob b d c s) ?_ ?_
 ·exact B
 ·rintro e ⟨f,h,i⟩ nn;dsimp only[Ob];refine cD r ?_ ?_
  ·exact B
  ·refine sC (E:=λ(s:Bool) (g:Nat×Nat×Nat)=>[oP 3 g.1,oP 4 g.2.1,oP 5 g.2.2,oI 8 b.Op,oB 16 s]) (O:=λ_ g=>[(3,dV g.1 1 28 (.agg [.sl (c.Funcs.map NU)])),(4,dV g.2.1 3 57 (NU d)),(5,dV g.2.2 5 53 (Oj b))]) (j:=λs=>Oe b d c s) ?_ ?_
   ·exact B
   ·rintro k ⟨l,m,o⟩ nn;dsimp only[Oe];refine cD r ?_ ?_
    ·exact B
    ·refine sC (E:=λ(s:Bool) (g:Nat×Nat×Nat)=>[oP 3 g.1,oP 4 g.2.1,oP 5 g.2.2,oI 8 b.Op,oB 27 s]) (O:=λ_ g=>[(3,dV g.1 1 28 (.agg [.sl (c.Funcs.map NU)])),(4,dV g.2.1 3 57 (NU d)),(5,dV g.2.2 5 53 (Oj b))]) (j:=λs=>NW b d c s) ?_ ?_
     ·exact B
     ·rintro p ⟨q,t,u⟩ nn;dsimp only[NW];exact B

abbrev AlH:=en4 NU Un OR Av
abbrev AuA:=de4 RP Yj Zh uI
theorem AmF:NM Tryz.prog 188 (fS .ground AlH (λa=>ZN a.1 a.2.1 a.2.2.1 a.2.2.2) AaU):=by
 refine fn2 4 (nK 185 Tt<|nK 230 Aeg<|NK) Tryz.func188<|?_;rintro⟨b,c,d,k4⟩;unfold ZN;refine Ab 14 λh i=>?_
 refine Ab 9 λe k=>?_
 refine A 8 ?_;refine sC (E:=λ(_s:Unit) (g:Nat×Nat×Nat)=>[oI 3 k4,oP 4 g.1,oP 5 g.2.1,oP 6 g.2.2,oI 11 e.1]) (O:=λ_ g=>[(4,dV g.1 3 57 (NU b)),(5,dV g.2.1 1 60 (.agg [.sl (c.Out.map (eL Av))])),(6,dV g.2.2 3 65 (OR d))]) (j:=λ_=>Xa c k4 e d b) ?_ ?_
 ·exact B
 ·rintro⟨⟩ ⟨l,m,o⟩ nn;dsimp only[Xa];refine A 7 ?_;refine lP (E:=λ(s:Int) (g:Nat×Nat×Nat)=>[oI 3 k4,oP 4 g.1,oP 5 g.2.1,oP 6 g.2.2,oI 11 e.1,oI 13 s]) (O:=λ_ g=>[(4,dV g.1 3 57 (NU b)),(5,dV g.2.1 1 60 (.agg [.sl (c.Out.map (eL Av))])),(6,dV g.2.2 3 65 (OR d))]) (_,_,_) hX<|?_
  rintro f ⟨p,q,t⟩ nn;dsimp only[AbT];refine Ab 7 λu v=>?_
  refine Ac 6 ?_ ?_
  ·refine Ab 9 λx z=>?_
   refine Ab 3 λaa ab=>?_
   refine A 11 ?_;refine Qy r ?_ ?_
   ·refine Ab 3 λac ad=>?_
    refine Ab 5 λae af=>?_
    refine Ab 7 λag ah=>?_
    refine Ab 5 λai aj=>?_
    refine Ab 4 λak ao=>?_
    refine Ac 4 ?_ ?_
    ·exact B
    ·refine A 8 ?_;exact xL (s:=i64.wrap (f+1)) (_,_,_) hX
   ·refine A 37 ?_;exact xL (s:=i64.wrap (f+1)) (_,_,_) hX
  ·exact B

abbrev Zu:=en1 Aap
abbrev Adv:=de1 Aat
theorem AkI:NM Tryz.prog 42 (fS (.row 1 3) Zu (λa=>ZY a) PN):=by
 refine fn2 1 (NK) Tryz.func42<|?_;intro b;unfold ZY;refine A 18 ?_;refine lP (E:=λ(s:(List Int)×Int) (g:Nat×Nat)=>[oP 1 g.1,oT 3 g.2 s.1,oI 4 s.2]) (O:=λs g=>[(1,dV g.1 2 37 (.agg [Mk b.Align,.sl (b.Frames.map OV)])),(3,dW g.2 1 3 (s.1.map Av))]) (_,_) hX<|?_
 rintro⟨c,d⟩ ⟨e,f⟩ nn;dsimp only[Vs];exact B

theorem AhD:NM Tryz.prog 135 (fS .ground Ud (λa=>Wf a.1 a.2) Od):=by
 refine fn2 2 (NK) Tryz.func135<|?_;intro a;unfold Wf;exact B

abbrev Ady:=en2 (fpE OP) Av
abbrev AnV:=de2 (fpU Re) uI
theorem AdU:NM Tryz.prog 142 (fS .ground Ady (λa=>Sq a.1 a.2) Od):=by
 refine fn2 2 (nK 204 UD<|NK) Tryz.func142<|?_;rintro⟨b,c⟩;unfold Sq;refine Ab 8 λf g=>?_
 refine A 2 ?_;refine Qy r ?_ ?_
 ·refine A 4 ?_;refine cK λhq=>Asy r r r hq<|bD λd e=>Apg (q:=d) (l:=b.toList) (en:=Ahf) (j:=(i64.wrap (c.tdiv 64)).toNat) (by simp) r r e (λ_=>r)<|?_
  exact B
 ·exact B

def Wp (a:Int×Oh):List D:=[Mk a.1,.fptr (.fptr (OP a.2) 0) 0]
def Zy (ds:List D):Int×Oh:=(uI (ds.getD 0 .top),Re (fpD (fpD (ds.getD 1 .top))))
instance:PT Wp Zy:=⟨λa=>by simp[Zy,Wp,uI,fpD]⟩
theorem AfI:NM Tryz.prog 144 (fS .ground Wp (λa=>TP a.1 a.2) Od):=by
 refine fn2 2 (nK 142 AdU<|NK) Tryz.func144<|?_;intro a;unfold TP;exact B

noncomputable def AeM:Dw.Spec:=Ow [] (.row 1 3) Zu Adv (λa=>VD a) PN noE
theorem Akj:NM Tryz.prog 60 AeM:=by
 refine fn2 1 (NK) Tryz.func60<|?_;intro a;unfold VD;refine A 21 ?_;refine lP (E:=λ(s:(List Int)×Int) (g:Nat)=>[oT 3 g s.1,oM 7 a.Frames OV,oL 8 a.Frames,oI 9 s.2]) (O:=λs g=>[(3,dW g 1 3 (s.1.map Av))]) _ hX<|?_
 rintro⟨b,c⟩ d nn;dsimp only[Vj];exact B

theorem Aby:NM Tryz.prog 169 (fS .ground Ud (λa=>Ro a.1 a.2) Od):=by
 refine fn2 2 (NK) Tryz.func169<|?_;intro a;unfold Ro;exact B

abbrev AjZ:=en2 Aap Av
abbrev AwA:=de2 Aat uI
def Ang (b:Pg×Bool):D:=.tup [Qh b.1,.bool b.2]
theorem Alp:NM Tryz.prog 104 (fS .val AjZ (λa=>AdM a.1 a.2) Ang):=by
 refine fn2 2 (nK 169 Aby<|nK 102 Yc<|NK) Tryz.func104<|?_;rintro⟨c,d⟩;unfold AdM;refine Ab 14 λe f=>?_
 refine Ac 4 ?_ ?_
 ·refine A 9 ?_;refine Pu (b:=((Pg.mk (OD.mk 0 0 ([])) 0 0),false)) r ?_ r r ?_ (by first|rfl|(simp only[NN];rfl)|(simp only[NP];rfl)|(simp only[NN,NP];rfl)|(simp[Ang,Qh];try rfl)) (by decide)
  all_goals first|(simp;done)|(simp;omega)|rfl|(simp[Pc,OT];done)|(simp[cells];done)
 ·exact B

theorem AjE:NM Tryz.prog 220 (fS (.row 1 3) Td (λa=>PR a) PN):=by
 refine fn2 1 (NK) Tryz.func220<|?_;intro b;unfold PR;refine A 8 ?_;refine sC (E:=λ(s:Bool) (g:Nat)=>[oP 1 g,oB 3 s]) (O:=λ_ g=>[(1,dV g 5 53 (Oj b))]) (j:=λs=>Pk b s) ?_ ?_
 ·exact B
 ·rintro c d nn;dsimp only[Pk];refine cD r ?_ ?_
  ·refine A 8 ?_;refine bS ([b.A,b.B,b.C]:List Int) Av r r r (by simp) r r r<|?_
   exact B
  ·refine sC (E:=λ(s:Bool) (g:Nat)=>[oP 1 g,oB 19 s]) (O:=λ_ g=>[(1,dV g 5 53 (Oj b))]) (j:=λs=>Pn b s) ?_ ?_
   ·exact B
   ·rintro e f nn;dsimp only[Pn];refine cD r ?_ ?_
    ·refine A 6 ?_;refine bS ([b.A,b.B]:List Int) Av r r r (by simp) r r r<|?_
     exact B
    ·refine sC (E:=λ(s:Bool) (g:Nat)=>[oP 1 g,oB 31 s]) (O:=λ_ g=>[(1,dV g 5 53 (Oj b))]) (j:=λs=>Pa b s) ?_ ?_
     ·exact B
     ·rintro h i nn;dsimp only[Pa];exact B

theorem Agc:NM Tryz.prog 221 (fS .ground Pd (λa=>Ub a) Od):=by
 refine fn2 1 (nK 169 Aby<|NK) Tryz.func221<|?_;intro a;unfold Ub;exact B

end Go.Proofs.YtmmchhpdaogopaaGreatDoor
