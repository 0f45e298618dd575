/-
 The code does what its typed programs say.
-/
import Derived.Test.YtmmchhpdaogopaaGreatDoorDxF12
import Derived.Test.YtmmchhpdaogopaaGreatDoorDxF13
namespace Go.Proofs.YtmmchhpdaogopaaGreatDoor
open Go Go.Dw Go.Proofs
open Go.IntKind (i64)
set_option maxRecDepth 100000
set_option maxHeartbeats 40000000
open Go.Dw renaming Px -> bD,Sp -> bS,QU -> cD,RO -> xC,Qx -> xL,Rq -> lP,Qq -> sC,Qk -> bC,rf -> r
noncomputable section
abbrev Aoo:=en2 (eL eU8) Av
abbrev Awa:=de2 (uL uI) uI
def AqD (b:Lo):D:=OX b
theorem Apo:NM Tryz.prog 17 (fS (.ptr 2 103) Aoo (λa=>AdY a.1 a.2) AqD):=by
 refine fn2 2 (NK) Tryz.func17<|?_;intro a;unfold AdY;exact B

abbrev Afv:=en3 OX Av Av
abbrev Afu:=de3 Rr uI uI
def Ahd (b:NL×Lo):D:=PQ b.1
def Ahc (b:NL×Lo):List D:=[OX b.2]
theorem AfR:NM Tryz.prog 18 (Ow [(0,(2,103))] .val Afv Afu (λa=>VP a.1 a.2.1 a.2.2) Ahd Ahc):=by
 refine fn2 3 (nK 19 Pp<|nK 47 Afz<|NK) Tryz.func18<|?_;rintro⟨e,f,b⟩;unfold VP;refine Ab 16 λh i=>?_
 refine A 5 ?_;refine lP (E:=λ(s:(List Int)×Int×(List Int)×Int) (g:Nat×Nat)=>[(0,.optr 8192 0 0 0),oI 2 b,oP 6 g.1,oT 7 g.2 s.2.2.1,oI 8 s.2.2.2]) (O:=λs g=>[(6,dV g.1 1 28 (.agg [.nils])),(7,dW g.2 1 3 (s.2.2.1.map Av)),(8192,dV 0 2 103 (.agg [.sl (s.1.map eU8),Mk s.2.1]))]) (_,_) hX<|?_
 rintro⟨c5,j,c,k⟩ ⟨m,o⟩ nn;dsimp only[Aal];refine Ac 7 ?_ ?_
 ·exact B
 ·refine A 17 ?_;refine lP (E:=λ(s:(List Int)×Int×(List NI)×Int×(List Int)) (g:Nat×Nat)=>[(0,.optr 8192 0 0 0),oI 2 b,oP 6 g.1,oM 7 s.2.2.2.2 Av,oP 9 g.2,oI 10 s.2.2.2.1]) (O:=λs g=>[(6,dV g.1 1 28 (.agg [.nils])),(9,dV g.2 1 28 (.agg [.sl (s.2.2.1.map NU)])),(8192,dV 0 2 103 (.agg [.sl (s.1.map eU8),Mk s.2.1]))]) (_,_) ((Vm [(7,some (_,⟨true,false,1,3,c.map Av⟩))] ⟨⟨_,_,r,r,r⟩,trivial⟩ ⟨(OA r),(OA r),(OA r),(Aak (VM (l:=c) (en:=Av) r r r (by first|(simp;done)|rfl|(simp;rfl)))),(OA r),(OA r),trivial⟩ ⟨(.inl r),(.inr ⟨_,_,_,_,r,r,r,r,Uw r ⟨(SU NU r),trivial⟩⟩),(.inl r),trivial⟩))<|?_
  rintro⟨p,q,t,u,v⟩ ⟨x,z⟩ nn;dsimp only[WG];refine Ac 9 ?_ ?_
  ·refine Ab 13 λd aa=>?_
   refine A 1 ?_;refine bS ([d.1]:List NI) NU r r r (by simp) r r r<|?_
   refine A 16 ?_;exact wf [11] λ_=>B
  ·exact B

abbrev Yg:=en1 (eL (eL Av))
abbrev AlJ:=de1 (uL (uL uI))
theorem AgA:NM Tryz.prog 34 (fS .val Yg (λa=>US a) Vc):=by
 refine fn2 1 (nK 64 Vq<|nK 65 Alw<|nK 66 WQ<|NK) Tryz.func34<|?_;intro d;unfold US;refine A 12 ?_;refine bC (E:=λ(s:(List Int)) (g:Nat)=>[oT 4 g s]) (O:=λs g=>[(4,dW g 1 3 (s.map Av))]) (j:=λs=>AbX s) ?_ ?_
 ·refine lP (E:=λ(s:(List Int)×(List Int)) (g:Nat×Nat)=>[(0,.sl (d.map (eL Av))),oT 4 g.1 s.1,oT 5 g.2 s.2]) (O:=λs g=>[(4,dW g.1 1 3 (s.1.map Av)),(5,dW g.2 1 3 (s.2.map Av))]) (_,_) hX<|?_
  rintro⟨c,b⟩ ⟨h,i⟩ nn;dsimp only[Ze];refine Ac 10 ?_ ?_
  ·refine A 8 ?_;refine sC (E:=λ(s:Int) (g:Nat×Nat)=>[(0,.sl (d.map (eL Av))),oT 4 g.1 c,oT 5 g.2 b,oI 6 s]) (O:=λ_ g=>[(4,dW g.1 1 3 (c.map Av)),(5,dW g.2 1 3 (b.map Av))]) (j:=λs=>Vf c b s) ?_ ?_
   ·refine A 6 ?_;refine lP (E:=λ(s:Int×Int) (g:Nat×Nat)=>[(0,.sl (d.map (eL Av))),oT 4 g.1 c,oT 5 g.2 b,oI 6 s.1,oI 7 s.2]) (O:=λ_ g=>[(4,dW g.1 1 3 (c.map Av)),(5,dW g.2 1 3 (b.map Av))]) (_,_) hX<|?_
    rintro⟨e,f⟩ ⟨k,l⟩ nn;dsimp only[RM];refine sC (E:=λ(_s:Unit) (g:Nat×Nat)=>[(0,.sl (d.map (eL Av))),oT 4 g.1 c,oT 5 g.2 b,oI 6 e,oI 7 f,oI 18 e,(19,.bool (decide (e<0)))]) (O:=λ_ g=>[(4,dW g.1 1 3 (c.map Av)),(5,dW g.2 1 3 (b.map Av))]) (j:=λ_=>Xb b f d e) ?_ ?_
    ·exact B
    ·rintro⟨⟩ ⟨m,o⟩ nn;dsimp only[Xb];exact B
   ·rintro p ⟨q,r⟩ nn;dsimp only[Vf];exact B
  ·exact B
 ·rintro t u nn;dsimp only[AbX];exact B

theorem AmI:NM Tryz.prog 177 (fS .ground Yg (λa=>XS a) Od):=by
 refine fn2 1 (nK 228 AbG<|NK) Tryz.func177<|?_;intro b;unfold XS;refine A 5 ?_;refine sC (E:=λ(_s:Unit) (_g:Unit)=>[(0,.sl (b.map (eL Av)))]) (O:=λ_ _=>[]) (j:=λ_=>Zd b) ?_ ?_
 ·exact B
 ·rintro⟨⟩ ⟨⟩ nn;dsimp only[Zd];refine A 7 ?_;refine lP (E:=λ(s:Int) (_g:Unit)=>[(0,.sl (b.map (eL Av))),oI 3 s]) (O:=λ_ _=>[]) () hX<|?_
  rintro c ⟨⟩ nn;dsimp only[AbV];refine Ac 9 ?_ ?_
  ·refine Ab 8 λd e=>?_
   refine Ab 2 λf g=>?_
   refine A 3 ?_;refine Qy r ?_ ?_
   ·exact B
   ·refine Ab 2 λh i=>?_
    refine A 5 ?_;refine Qy r ?_ ?_
    ·refine Ab 2 λk l=>?_
     refine Ab 4 λm o=>?_
     refine Ab 4 λp q=>?_
     refine Ac 9 ?_ ?_
     ·exact B
     ·refine A 8 ?_;exact xL (s:=i64.wrap (c+1)) () hX
    ·refine A 28 ?_;exact xL (s:=i64.wrap (c+1)) () hX
  ·exact B

abbrev Abh:=en2 (eL (eL Av)) (eL Av)
abbrev AlK:=de2 (uL (uL uI)) (uL uI)
theorem AmJ:NM Tryz.prog 114 (fS .ground Abh (λa=>ZO a.1 a.2) Od):=by
 refine fn2 2 (nK 177 AmI<|nK 176 Va<|NK) Tryz.func114<|?_;rintro⟨c,b⟩;unfold ZO;refine A 5 ?_;refine sC (E:=λ(_s:Unit) (_g:Unit)=>[oM 1 b Av]) (O:=λ_ _=>[]) (j:=λ_=>Zf b) ?_ ?_
 ·exact B
 ·rintro⟨⟩ ⟨⟩ nn;dsimp only[Zf];refine A 7 ?_;refine lP (E:=λ(s:Int) (_g:Unit)=>[oM 1 b Av,oI 5 s]) (O:=λ_ _=>[]) () hX<|?_
  rintro d ⟨⟩ nn;dsimp only[AgB];exact B

theorem AkN:NM Tryz.prog 82 (fS .ground Ve (λa=>XK a.1 a.2) Oy):=by
 refine fn2 2 (nK 135 AhD<|nK 136 AeP<|nK 137 Apb<|nK 138 Adw<|NK) Tryz.func82<|?_;rintro⟨c,d⟩;unfold XK;refine Ab 13 λe f=>?_
 refine Ac 4 ?_ ?_
 ·exact B
 ·refine Ab 7 λb h=>?_
  refine Ac 15 ?_ ?_
  ·exact B
  ·refine Ab 7 λi j=>?_
   refine Ac 10 ?_ ?_
   ·exact B
   ·refine Ab 7 λk l=>?_
    refine Ac 4 ?_ ?_
    ·exact B
    ·refine A 12 ?_;refine lP (E:=λ(s:Int) (g:Nat×Nat)=>[oP 2 g.1,oP 5 g.2,oM 37 b.Code Oj,oL 38 b.Code,oI 39 s]) (O:=λ_ g=>[(2,dV g.1 1 28 (.agg [.sl (c.Funcs.map NU)])),(5,dV g.2 3 57 (NU b))]) (_,_) hX<|?_
     rintro m ⟨o,p⟩ nn;dsimp only[TA];exact B

def Ake:Dw.Spec:=Ow [] .ground RV AeY (λa=>YG a) Oy noE
theorem Apa:NM Tryz.prog 51 Ake:=by
 refine fn2 1 (nK 82 AkN<|NK) Tryz.func51<|?_;intro a;unfold YG;refine Ac 23 ?_ ?_
 ·exact B
 ·refine Ac 7 ?_ ?_
  ·exact B
  ·refine Ab 4 λb c=>?_
   refine Ac 7 ?_ ?_
   ·exact B
   ·refine A 13 ?_;refine lP (E:=λ(s:Int) (g:Nat)=>[oP 1 g,oL 24 a.Funcs,oI 25 s]) (O:=λ_ g=>[(1,dV g 1 28 (.agg [.sl (a.Funcs.map NU)]))]) _ hX<|?_
    rintro d e nn;dsimp only[Xe];exact B

def Aht:Dw.Spec:=Ow [] .val Yg AlJ (λa=>QG a) Vc noE
theorem AfO:NM Tryz.prog 53 Aht:=by
 refine fn2 1 (nK 85 Anx<|nK 86 Aki<|nK 84 Ahs<|NK) Tryz.func53<|?_;intro a;unfold QG;refine A 12 ?_;refine bC (E:=λ(s:(List Int)) (g:Nat)=>[oT 4 g s]) (O:=λs g=>[(4,dW g 1 3 (s.map Av))]) (j:=λs=>Abt s) ?_ ?_
 ·refine lP (E:=λ(s:(List Int)×(List Int)) (g:Nat×Nat)=>[(0,.sl (a.map (eL Av))),oT 4 g.1 s.1,oT 5 g.2 s.2]) (O:=λs g=>[(4,dW g.1 1 3 (s.1.map Av)),(5,dW g.2 1 3 (s.2.map Av))]) (_,_) hX<|?_
  rintro⟨b,c⟩ ⟨d,e⟩ nn;dsimp only[UY];refine Ac 10 ?_ ?_
  ·refine A 8 ?_;refine sC (E:=λ(s:Int) (g:Nat×Nat)=>[(0,.sl (a.map (eL Av))),oT 4 g.1 b,oT 5 g.2 c,oI 6 s]) (O:=λ_ g=>[(4,dW g.1 1 3 (b.map Av)),(5,dW g.2 1 3 (c.map Av))]) (j:=λs=>Th b c s) ?_ ?_
   ·refine A 8 ?_;refine lP (E:=λ(s:Int) (g:Nat×Nat)=>[(0,.sl (a.map (eL Av))),oT 4 g.1 b,oT 5 g.2 c,(6,Mk (-1)),(14,.sl (a.map (eL Av))),oL 15 a,oI 16 s]) (O:=λ_ g=>[(4,dW g.1 1 3 (b.map Av)),(5,dW g.2 1 3 (c.map Av))]) (_,_) hX<|?_
    rintro f ⟨h,i⟩ nn;dsimp only[Ss];exact B
   ·rintro k ⟨l,m⟩ nn;dsimp only[Th];exact B
  ·exact B
 ·rintro o p nn;dsimp only[Abt];exact B

theorem Acx:NM Tryz.prog 92 (fS .ground Yg (λa=>Ul a) Od):=by
 refine fn2 1 (nK 148 AkW<|NK) Tryz.func92<|?_;intro b;unfold Ul;refine A 14 ?_;refine lP (E:=λ(s:Int) (_g:Unit)=>[(0,.sl (b.map (eL Av))),(5,.sl (b.map (eL Av))),oL 6 b,oI 7 s]) (O:=λ_ _=>[]) () hX<|?_
 rintro c ⟨⟩ nn;dsimp only[Acw];exact B

abbrev Vz:=en3 (eL (eL Av)) (eL Av) (eL Av)
abbrev Aex:=de3 (uL (uL uI)) (uL uI) (uL uI)
theorem ZC:NM Tryz.prog 100 (fS .ground Vz (λa=>RZ a.1 a.2.1 a.2.2) Od):=by
 refine fn2 3 (nK 92 Acx<|nK 166 AaE<|NK) Tryz.func100<|?_;rintro⟨c,b,d⟩;unfold RZ;refine A 5 ?_;refine sC (E:=λ(_s:Unit) (_g:Unit)=>[oM 1 b Av]) (O:=λ_ _=>[]) (j:=λ_=>Se b) ?_ ?_
 ·exact B
 ·rintro⟨⟩ ⟨⟩ nn;dsimp only[Se];refine A 9 ?_;refine lP (E:=λ(s:Int) (_g:Unit)=>[oM 26 b Av,oL 27 b,oI 28 s]) (O:=λ_ _=>[]) () hX<|?_
  rintro e ⟨⟩ nn;dsimp only[Wq];exact B

theorem AiI:NM Tryz.prog 103 (fS .ground AjZ (λa=>VW a.1 a.2) Oy):=by
 refine fn2 2 (nK 104 Alp<|nK 168 AhT<|nK 138 Adw<|NK) Tryz.func103<|?_;rintro⟨c,d⟩;unfold VW;refine Ab 10 λb e=>?_
 refine Ac 18 ?_ ?_
 ·exact B
 ·refine Ac 10 ?_ ?_
  ·exact B
  ·refine A 14 ?_;refine lP (E:=λ(s:Int) (g:Nat)=>[oP 5 g,oM 28 b.1.Frame.Code Oj,oL 29 b.1.Frame.Code,oI 30 s]) (O:=λ_ g=>[(5,dV g 5 149 (Qh b.1))]) _ hX<|?_
   rintro f h nn;dsimp only[VX];exact B

def AiJ:Dw.Spec:=Ow [] .ground Zu Adv (λa=>YM a) Oy noE
theorem AnC:NM Tryz.prog 62 AiJ:=by
 refine fn2 1 (nK 102 Yc<|nK 103 AiI<|nK 104 Alp<|nK 105 AhS<|NK) Tryz.func62<|?_;intro a;unfold YM;refine A 6 ?_;refine sC (E:=λ(_s:Unit) (g:Nat)=>[oP 1 g]) (O:=λ_ g=>[(1,dV g 2 37 (.agg [Mk a.Align,.sl (a.Frames.map OV)]))]) (j:=λ_=>ZS a) ?_ ?_
 ·refine Ac 16 ?_ ?_
  ·exact B
  ·refine Ac 7 ?_ ?_
   ·exact B
   ·refine sC (E:=λ(s:Bool) (g:Nat)=>[oP 1 g,oB 18 s]) (O:=λ_ g=>[(1,dV g 2 37 (.agg [Mk a.Align,.sl (a.Frames.map OV)]))]) (j:=λs=>XC a s) ?_ ?_
    ·exact B
    ·rintro b c nn;dsimp only[XC];exact B
 ·rintro⟨⟩ d nn;dsimp only[ZS];refine A 10 ?_;refine lP (E:=λ(s:Int) (g:Nat)=>[oP 1 g,oL 37 a.Frames,oI 38 s]) (O:=λ_ g=>[(1,dV g 2 37 (.agg [Mk a.Align,.sl (a.Frames.map OV)]))]) _ hX<|?_
  rintro e f nn;dsimp only[Ahv];refine Ac 6 ?_ ?_
  ·exact B
  ·refine A 15 ?_;refine lP (E:=λ(s:Int) (g:Nat)=>[oP 1 g,oL 50 a.Frames,oI 51 s]) (O:=λ_ g=>[(1,dV g 2 37 (.agg [Mk a.Align,.sl (a.Frames.map OV)]))]) _ hX<|?_
   rintro h i nn;dsimp only[Adc];exact B

noncomputable def AcY:Pv:=(Tryz.f26.body.bind (PU Tryz.prog Tryz.f26.ntmps)).getD .skip
theorem Aii:(Tryz.f26.body.bind (PU Tryz.prog Tryz.f26.ntmps))=some AcY:=by kernel_rfl
theorem Aij:Tryz.f26.results.toList.mapM (Vk Tryz.prog)=some []:=by kernel_rfl

noncomputable def Atl:Pv:=(Tryz.f27.body.bind (PU Tryz.prog Tryz.f27.ntmps)).getD .skip
theorem AvO:(Tryz.f27.body.bind (PU Tryz.prog Tryz.f27.ntmps))=some Atl:=by kernel_rfl
theorem AvP:Tryz.f27.results.toList.mapM (Vk Tryz.prog)=some [(.t 2)]:=by kernel_rfl

noncomputable def Atm:Pv:=(Tryz.f28.body.bind (PU Tryz.prog Tryz.f28.ntmps)).getD .skip
theorem AvQ:(Tryz.f28.body.bind (PU Tryz.prog Tryz.f28.ntmps))=some Atm:=by kernel_rfl
theorem AvR:Tryz.f28.results.toList.mapM (Vk Tryz.prog)=some [(.t 2)]:=by kernel_rfl

noncomputable def Atn:Pv:=(Tryz.f29.body.bind (PU Tryz.prog Tryz.f29.ntmps)).getD .skip
theorem AvS:(Tryz.f29.body.bind (PU Tryz.prog Tryz.f29.ntmps))=some Atn:=by kernel_rfl
theorem AvT:Tryz.f29.results.toList.mapM (Vk Tryz.prog)=some [(.t 2)]:=by kernel_rfl

noncomputable def AqA:Pv:=(Tryz.f30.body.bind (PU Tryz.prog Tryz.f30.ntmps)).getD .skip
theorem AvU:(Tryz.f30.body.bind (PU Tryz.prog Tryz.f30.ntmps))=some AqA:=by kernel_rfl
theorem AvV:Tryz.f30.results.toList.mapM (Vk Tryz.prog)=some [(.t 3)]:=by kernel_rfl

noncomputable def AqB:Pv:=(Tryz.f31.body.bind (PU Tryz.prog Tryz.f31.ntmps)).getD .skip
theorem AvW:(Tryz.f31.body.bind (PU Tryz.prog Tryz.f31.ntmps))=some AqB:=by kernel_rfl
theorem AvX:Tryz.f31.results.toList.mapM (Vk Tryz.prog)=some [(.t 6)]:=by kernel_rfl

noncomputable def Ato:Pv:=(Tryz.f32.body.bind (PU Tryz.prog Tryz.f32.ntmps)).getD .skip
theorem AvY:(Tryz.f32.body.bind (PU Tryz.prog Tryz.f32.ntmps))=some Ato:=by kernel_rfl
theorem AvZ:Tryz.f32.results.toList.mapM (Vk Tryz.prog)=some [(.t 2)]:=by kernel_rfl

noncomputable def AvN:Pv:=(Tryz.f25.body.bind (PU Tryz.prog Tryz.f25.ntmps)).getD .skip
theorem Axc:(Tryz.f25.body.bind (PU Tryz.prog Tryz.f25.ntmps))=some AvN:=by kernel_rfl
theorem Axd:Tryz.f25.results.toList.mapM (Vk Tryz.prog)=some []:=by kernel_rfl

end
end Go.Proofs.YtmmchhpdaogopaaGreatDoor
