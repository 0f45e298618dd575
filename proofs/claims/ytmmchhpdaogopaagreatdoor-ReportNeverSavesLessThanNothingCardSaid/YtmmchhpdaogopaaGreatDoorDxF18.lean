/-
 The code does what its typed programs say.
-/
import Derived.Test.YtmmchhpdaogopaaGreatDoorDg5
import Derived.Test.YtmmchhpdaogopaaGreatDoorDxF15
open List renaming replicate->aA
namespace Go.Proofs.YtmmchhpdaogopaaGreatDoor
open Go Go.Dw Go.Proofs
open Go.IntKind (i64)
set_option maxRecDepth 100000
set_option maxHeartbeats 40000000
open Go.Dw renaming Px -> bD,Sp -> bS,QU -> cD,RO -> xC,Qx -> xL,Rq -> lP,Qq -> sC,Qk -> bC,rf -> r
theorem Amr:NM Tryz.prog 33 (fS .ground RV (λa=>TK a) Oy):=by
 refine fn2 1 (nK 63 AiR<|NK) Tryz.func33<|?_;intro b;unfold TK;refine Ac 15 ?_ ?_
 ·exact B
 ·refine Ac 11 ?_ ?_
  ·exact B
  ·refine Ab 7 λc d=>?_
   refine Ac 6 ?_ ?_
   ·exact B
   ·refine A 9 ?_;refine lP (E:=λ(s:Int) (g:Nat)=>[oP 1 g,oI 3 s]) (O:=λ_ g=>[(1,dV g 1 28 (.agg [.sl (b.Funcs.map NU)]))]) _ hX<|?_
    rintro e f nn;dsimp only[Ts];exact B

theorem AoS:NM Tryz.prog 69 (fS .val Abh (λa=>Xi a.1 a.2) Vc):=by
 refine fn2 2 (nK 114 AmJ<|nK 34 AgA<|nK 115 AoN<|NK) Tryz.func69<|?_;rintro⟨b,c⟩;unfold Xi;refine Ab 11 λm o=>?_
 refine Ac 4 ?_ ?_
 ·exact B
 ·refine Ab 5 λd p=>?_
  refine Ac 15 ?_ ?_
  ·exact B
  ·refine A 17 ?_;refine lP (E:=λ(s:(List Int)×Int) (g:Nat)=>[(0,.sl (b.map (eL Av))),oM 1 c Av,oM 6 d.1 Av,oT 8 g s.1,oI 9 s.2]) (O:=λs g=>[(8,dW g 1 3 (s.1.map Av))]) _ hX<|?_
   rintro⟨f,e⟩ q nn;dsimp only[AiX];refine Ac 9 ?_ ?_
   ·refine A 2 ?_;refine bC (E:=λ(s:(List Int)) (g:Nat)=>[(0,.sl (b.map (eL Av))),oM 1 c Av,oM 6 d.1 Av,oT 8 g s,oI 9 e]) (O:=λs g=>[(8,dW g 1 3 (s.map Av))]) (j:=λs=>Abg e s) ?_ ?_
    ·refine Ab 4 λh r=>?_
     refine A 17 ?_;refine lP (E:=λ(s:Int×Int) (g:Nat)=>[(0,.sl (b.map (eL Av))),oM 1 c Av,oM 6 d.1 Av,oT 8 g f,oI 9 e,oI 10 h,oI 11 s.1,oI 12 s.2]) (O:=λ_ g=>[(8,dW g 1 3 (f.map Av))]) _ hX<|?_
     rintro⟨i,k⟩ t nn;dsimp only[Aep];refine Ab 6 λu v=>?_
     refine Ac 6 ?_ ?_
     ·refine Ab 9 λx z=>?_
      refine Ab 3 λaa ab=>?_
      refine Ab 3 λl ac=>?_
      refine A 11 ?_;exact xL (s:=(Ph i l,i64.wrap (k+1))) _ hX
     ·exact B
    ·rintro ad ae nn;dsimp only[Abg];exact B
   ·exact B

abbrev AkK:=en2 PQ (eL Av)
abbrev AtP:=de2 QM (uL uI)
theorem AlM:NM Tryz.prog 38 (fS .val AkK (λa=>Xc a.1 a.2) Vc):=by
 refine fn2 2 (nK 35 Akd<|nK 69 AoS<|NK) Tryz.func38<|?_;intro a;unfold Xc;exact B

abbrev Afg:=en2 PQ (eL OB)
abbrev AuC:=de2 QM (uL AcT)
def RD (b:OQ×Int):D:=.tup [XA b.1,Mk b.2]
theorem AgC:NM Tryz.prog 10 (fS .val Afg (λa=>Sz a.1 a.2) RD):=by
 refine fn2 2 (nK 33 Amr<|nK 35 Akd<|nK 34 AgA<|nK 36 YR<|nK 37 AiW<|nK 38 AlM<|nK 39 AlL<|nK 41 ZZ<|nK 40 AmG<|nK 42 AkI<|NK) Tryz.func10<|?_;rintro⟨c,d⟩;unfold Sz;refine Ab 11 λl q=>?_
 refine Ac 10 ?_ ?_
 ·refine A 10 ?_;refine Pu (b:=((OQ.mk (Pb.mk 0 ([])) 0 ([]) ([])),l)) r ?_ r r ?_ (by first|rfl|(simp only[NN];rfl)|(simp only[NP];rfl)|(simp only[NN,NP];rfl)|(simp[RD,XA];try rfl)) (by decide)
  all_goals first|(simp;done)|(simp;omega)|rfl|(simp[Pc,OT];done)|(simp[cells];done)
 ·refine Ab 6 λt u=>?_
  refine Ab 1 λm v=>?_
  refine Ac 14 ?_ ?_
  ·refine A 10 ?_;refine Pu (b:=((OQ.mk (Pb.mk 0 ([])) 0 ([]) ([])),m.2)) r ?_ r r ?_ (by first|rfl|(simp only[NN];rfl)|(simp only[NP];rfl)|(simp only[NN,NP];rfl)|(simp[RD,XA];try rfl)) (by decide)
   all_goals first|(simp;done)|(simp;omega)|rfl|(simp[Pc,OT];done)|(simp[cells];done)
  ·refine Ab 5 λe x=>?_
   refine Ab 8 λf z=>?_
   refine Ac 15 ?_ ?_
   ·refine A 10 ?_;refine Pu (b:=((OQ.mk (Pb.mk 0 ([])) 0 ([]) ([])),f.2)) r ?_ r r ?_ (by first|rfl|(simp only[NN];rfl)|(simp only[NP];rfl)|(simp only[NN,NP];rfl)|(simp[RD,XA];try rfl)) (by decide)
    all_goals first|(simp;done)|(simp;omega)|rfl|(simp[Pc,OT];done)|(simp[cells];done)
   ·refine A 14 ?_;refine lP (E:=λ(s:(List Int)×Int) (g:Nat×Nat×Nat)=>[oM 1 d OB,oP 2 g.1,oP 4 g.2.1,oI 9 e,oM 10 f.1 OR,oT 12 g.2.2 s.1,oI 13 s.2]) (O:=λs g=>[(2,dV g.1 1 28 (.agg [.sl (c.Funcs.map NU)])),(4,dV g.2.1 5 40 (.agg [Mk 0,.nils,Mk 0,.nils,.nils])),(12,dW g.2.2 1 3 (s.1.map Av))]) (_,_,_) hX<|?_
    rintro⟨w8,i9⟩ ⟨ac,ad,ae⟩ nn;dsimp only[Tx];refine Ac 9 ?_ ?_
    ·exact B
    ·refine Ab 10 λo af=>?_
     refine Ac 14 ?_ ?_
     ·refine A 10 ?_;refine Pu (b:=((OQ.mk (Pb.mk 0 ([])) 0 ([]) ([])),o.2)) r ?_ r r ?_ (by first|rfl|(simp only[NN];rfl)|(simp only[NP];rfl)|(simp only[NN,NP];rfl)|(simp[RD,XA];try rfl)) (by decide)
      all_goals first|(simp;done)|(simp;omega)|rfl|(simp[Pc,OT];done)|(simp[cells];done)
     ·refine A 18 ?_;refine lP (E:=λ(s:(List OD)×(List Int)×Int) (g:Nat×Nat×Nat)=>[oM 1 d OB,oP 2 g.1,oP 4 g.2.1,oP 16 g.2.2,oI 17 s.2.2]) (O:=λs g=>[(2,dV g.1 1 28 (.agg [.sl (c.Funcs.map NU)])),(4,dV g.2.1 5 40 (.agg [Mk 0,.nils,Mk 0,.nils,.nils])),(16,dV g.2.2 5 40 (.agg [Mk e,.sl (s.1.map OV),Mk 0,.nils,.sl (s.2.1.map Av)]))]) (_,_,_) ((Vm [] trivial ⟨(OA r),(OA r),(OA r),(OA r),(OA r),trivial⟩ ⟨(.inl r),(.inl r),(.inr ⟨_,_,_,_,r,r,r,r,Uw r ⟨(OJ r),(SU OV r),(OJ r),(OJ r),(SU Av r),trivial⟩⟩),trivial⟩))<|?_
      rintro⟨h,i,k⟩ ⟨ag,ah,ai⟩ nn;dsimp only[Ty];refine Ac 10 ?_ ?_
      ·refine A 9 ?_;refine sC (E:=λ(_s:(List (List Int))×(List Int)×(List Bool)×(List (List Int))×Int×Int×(List Int)) (g:Nat×Nat×Nat×Nat)=>[oM 1 d OB,oP 2 g.1,oP 4 g.2.1,oP 16 g.2.2.1,oI 17 k,oP 18 g.2.2.2]) (O:=λs g=>[(2,dV g.1 1 28 (.agg [.sl (c.Funcs.map NU)])),(4,dV g.2.1 5 40 (.agg [Mk 0,.nils,Mk 0,.nils,.nils])),(16,dV g.2.2.1 5 40 (.agg [Mk e,.sl (h.map OV),Mk 0,.nils,.sl (i.map Av)])),(18,dV g.2.2.2 7 67 (.agg [.sl (s.1.map (eL Av)),.sl (s.2.1.map Av),.sl (s.2.2.1.map D.bool),.sl (s.2.2.2.1.map (eL Av)),Mk s.2.2.2.2.1,Mk s.2.2.2.2.2.1,.sl (s.2.2.2.2.2.2.map Av)]))]) (j:=λs=>Vg c k h i s.1 s.2.1 s.2.2.1 s.2.2.2.1 s.2.2.2.2.1 s.2.2.2.2.2.1 s.2.2.2.2.2.2) ?_ ?_
       ·refine Ac 8 ?_ ?_
        ·exact B
        ·refine A 1 ?_;exact wf [] λ_=>B
       ·rintro⟨aj,ak,ao,ap,aq,ar,au⟩ ⟨av,aw,ax,ay⟩ nn;dsimp only[Vg];refine Ab 5 λaz ba=>?_
        refine Ab 23 λbb bc=>?_
        refine Ab 3 λp bd=>?_
        refine A 1 ?_;refine bS ([p]:List OD) OV r r r (by simp) r r r<|?_
        refine A 25 ?_;exact wf [23,122] λ_=>B
      ·exact B

theorem AmK:NM Tryz.prog 13 (fS .val RV (λa=>Acp a) RD):=by
 refine fn2 1 (nK 10 AgC<|NK) Tryz.func13<|?_;intro a;unfold Acp;exact B

noncomputable def Afq:Dw.Spec:=Ow [] .val Abh AlK (λa=>TR a.1 a.2) Vc noE
theorem Aie:NM Tryz.prog 56 Afq:=by
 refine fn2 2 (nK 92 Acx<|nK 53 AfO<|nK 93 AfM<|NK) Tryz.func56<|?_;rintro⟨a,b⟩;unfold TR;refine A 6 ?_;refine sC (E:=λ(_s:Unit) (_g:Unit)=>[(0,.sl (a.map (eL Av))),oM 1 b Av]) (O:=λ_ _=>[]) (j:=λ_=>AdV b a) ?_ ?_
 ·exact B
 ·rintro⟨⟩ ⟨⟩ nn;dsimp only[AdV];refine A 9 ?_;refine lP (E:=λ(s:Int) (_g:Unit)=>[(0,.sl (a.map (eL Av))),oM 1 b Av,oM 24 b Av,oL 25 b,oI 26 s]) (O:=λ_ _=>[]) () hX<|?_
  rintro h ⟨⟩ nn;dsimp only[Aic];refine Ac 6 ?_ ?_
  ·exact B
  ·refine Ab 9 λk m=>?_
   refine Ac 14 ?_ ?_
   ·exact B
   ·refine A 26 ?_;refine lP (E:=λ(s:(List (List Int))×(List Int)×(List Bool)×(List Int)×Int) (g:Nat)=>[(10,.optr 4150 g 0 0),oL 56 a,oI 57 s.2.2.2.2]) (O:=λs g=>[(4150,dV g 4 137 (.agg [.sl (s.1.map (eL Av)),.sl (s.2.1.map Av),.row 1 4 (s.2.2.1.map D.bool),.row 1 3 (s.2.2.2.1.map Av)]))]) _ (((AqJ (g:=54) (g2:=4150) (es':=[.agg [.sl (a.map (eL Av)),.sl (b.map Av),.osl 49 _ 0 ((aA (a.length:Int).toNat false).length),.osl 52 _ 0 ((aA (a.length:Int).toNat (0:Int)).length)]]) r r r (AuO (by repeat' first|exact AdR.nil|apply AdR.same rfl|apply AdR.row (by decide))) (Aar (g:=4150) (i:=0) (off:=2) (g':=49) (l:=aA (a.length:Int).toNat false) (en:=D.bool) r r r (.inr ⟨rfl,r⟩) r r (λ_=>r) r (Aar (g:=4150) (i:=0) (off:=3) (g':=52) (l:=aA (a.length:Int).toNat (0:Int)) (en:=Av) r r r (.inr ⟨rfl,r⟩) r r (λ_=>r) r hX)))))<|?_
    rintro⟨d,e,f,c,o⟩ p nn;dsimp only[Aid];refine Ac 6 ?_ ?_
    ·exact B
    ·refine A 6 ?_;refine AdH (E:=[(10,.optr 4150 _ 0 0)]) (O:=[(4150,dV _ 4 137 (.agg [.sl (d.map (eL Av)),.sl (e.map Av),.row 1 4 (f.map D.bool),.osl 4697 _ 0 c.length])),(4697,dW _ 1 3 (c.map Av))]) ((AfX (g:=4150) (off:=3) 601 (c) Av r r r hX)) λnn=>?_
     exact B

theorem Aln:NM Tryz.prog 96 (fS .ground Abf (λa=>Yw a.1 a.2.1 a.2.2.1 a.2.2.2.1 a.2.2.2.2) Oy):=by
 refine fn2 5 (nK 158 AeB<|NK) Tryz.func96<|?_;rintro⟨b,c,d,e,f⟩;unfold Yw;refine Ab 16 λg h=>?_
 refine Ab 13 λi j=>?_
 refine Ac 10 ?_ ?_
 ·exact B
 ·refine A 7 ?_;exact AbZ

noncomputable def AeO:Dw.Spec:=Ow [] .val Aer AkJ (λa=>Rf a.1 a.2.1 a.2.2) Zg noE
theorem Ako:NM Tryz.prog 57 AeO:=by
 refine fn2 3 (nK 55 Aet<|nK 54 Aae<|nK 94 AjS<|nK 96 Aln<|NK) Tryz.func57<|?_;rintro⟨c,d,e⟩;unfold Rf;refine Ab 13 λf i=>?_
 refine Ab 9 λa k=>?_
 refine Ac 16 ?_ ?_
 ·refine A 13 ?_;refine Pu (b:=((NI.mk 0 ([]) ([])),(NT.mk 0 0 ([])),0,a.2)) r ?_ r r ?_ (by first|rfl|(simp only[NN];rfl)|(simp only[NP];rfl)|(simp only[NN,NP];rfl)|(simp[Zg,NU,OR];try rfl)) (by decide)
  all_goals first|(simp;done)|(simp;omega)|rfl|(simp[Pc,OT];done)|(simp[cells];done)
 ·refine Ab 7 λh l=>?_
  refine A 6 ?_;refine sC (E:=λ(_s:Unit) (g:Nat×Nat×Nat×Nat×Nat×Nat)=>[oI 1 d,oP 3 g.1,oP 5 g.2.1,oP 6 g.2.2.1,oP 7 g.2.2.2.1,oI 10 f,oP 11 g.2.2.2.2.1,oP 13 g.2.2.2.2.2]) (O:=λ_ g=>[(3,dV g.1 1 28 (.agg [.sl (c.Funcs.map NU)])),(5,dV g.2.1 7 67 (OB e)),(6,dV g.2.2.1 3 57 (.agg [Mk 0,.nils,.nils])),(7,dV g.2.2.2.1 3 65 (.agg [Mk 0,Mk 0,.nils])),(11,dV g.2.2.2.2.1 3 65 (OR a.1)),(13,dV g.2.2.2.2.2 3 57 (NU h))]) (j:=λ_=>Xm c d f e h a) ?_ ?_
  ·refine Ab 7 λm o=>?_
   refine Ac 4 ?_ ?_
   ·refine A 5 ?_;exact AbZ
   ·exact B
  ·rintro⟨⟩ ⟨p,q,s,t,u,v⟩ nn;dsimp only[Xm];exact B

noncomputable def Abj:Dw.Spec:=Ow [] .ground Vz Aex (λa=>Uz a.1 a.2.1 a.2.2) Oy noE
theorem AgQ:NM Tryz.prog 61 Abj:=by
 refine fn2 3 (nK 100 ZC<|nK 101 Aql<|NK) Tryz.func61<|?_;intro a;unfold Uz;exact B

end Go.Proofs.YtmmchhpdaogopaaGreatDoor
