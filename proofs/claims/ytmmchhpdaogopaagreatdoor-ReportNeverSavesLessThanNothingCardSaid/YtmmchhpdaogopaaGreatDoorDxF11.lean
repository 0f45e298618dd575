/-
 The code does what its typed programs say.
-/
import Derived.Test.YtmmchhpdaogopaaGreatDoorDxF6
import Derived.Test.YtmmchhpdaogopaaGreatDoorDxF8
import Derived.Test.YtmmchhpdaogopaaGreatDoorDxF9
open List renaming replicate->aA
namespace Go.Proofs.YtmmchhpdaogopaaGreatDoor
open Go Go.Dw Go.Proofs
open Go.IntKind (i64)
set_option maxRecDepth 100000
set_option maxHeartbeats 40000000
open Go.Dw renaming Px -> bD,Qd -> cK,Sp -> bS,Wh -> cG,AbY -> aP,UT -> sE,QU -> cD,RO -> xC,Qx -> xL,Rq -> lP,Qq -> sC,Qk -> bC,rf -> r
abbrev VZ:=en1 (eL OW)
abbrev Aup:=de1 (uL Xw)
theorem AbF:NM Tryz.prog 107 (fS .ground VZ (λa=>UP a) Oy):=by
 refine fn2 1 (nK 172 AnF<|nK 173 AbE<|NK) Tryz.func107<|?_;intro b;unfold UP;refine Ac 13 ?_ ?_
 ·exact B
 ·refine A 9 ?_;refine lP (E:=λ(s:Int) (_g:Unit)=>[oM 0 b OW,oI 3 s]) (O:=λ_ _=>[]) () hX<|?_
  rintro c ⟨⟩ nn;dsimp only[Agh];refine Ac 9 ?_ ?_
  ·refine Ab 8 λd e=>?_
   refine Ab 3 λf g=>?_
   refine A 3 ?_;refine Qy r ?_ ?_
   ·exact B
   ·refine Ab 2 λh i=>?_
    refine Ab 3 λj k=>?_
    refine Ac 5 ?_ ?_
    ·exact B
    ·refine A 8 ?_;exact xL (s:=i64.wrap (c+1)) () hX
  ·exact B

theorem AmC:NM Tryz.prog 196 (fS (.row 1 3) VZ (λa=>Acm a) PN):=by
 refine fn2 1 (nK 234 AlE<|NK) Tryz.func196<|?_;intro d;unfold Acm;refine A 17 ?_;refine lP (E:=λ(s:(List Int)×Int) (g:Nat)=>[oM 0 d OW,oT 3 g s.1,oI 4 s.2]) (O:=λs g=>[(3,dW g 1 3 (s.1.map Av))]) _ hX<|?_
 rintro⟨b,c⟩ e nn;dsimp only[Agw];refine Ac 9 ?_ ?_
 ·refine A 2 ?_;refine bC (E:=λ(s:(List Int)) (g:Nat)=>[oM 0 d OW,oT 3 g s,oI 4 c]) (O:=λs g=>[(3,dW g 1 3 (s.map Av))]) (j:=λs=>Zb c s) ?_ ?_
  ·refine A 7 ?_;refine bC (E:=λ(s:Int) (g:Nat)=>[oM 0 d OW,oT 3 g b,oI 4 c,oI 5 s]) (O:=λ_ g=>[(3,dW g 1 3 (b.map Av))]) (j:=λs=>Vd b c s) ?_ ?_
   ·refine lP (E:=λ(s:Int) (g:Nat)=>[oM 0 d OW,oT 3 g b,oI 4 c,oI 5 s]) (O:=λ_ g=>[(3,dW g 1 3 (b.map Av))]) _ hX<|?_
    rintro k6 f nn;dsimp only[Agx];exact B
   ·rintro k5 h nn;dsimp only[Vd];refine A 4 ?_;refine cK λhq=>AgG (l:=b) r r r r r r hq<|cK λhq=>aP (([]:List Int)) (b.take k5.toNat) Av r r r r r r r (by first|(simp;done)|(simp;omega)) (by simp[List.map_take]) r r (by simp) r (λ_=>r) r hq<|?_
    refine A 7 ?_;refine cK λhq=>aP (([]:List Int)++(b.take k5.toNat)) (([c]:List Int)) Av r r r r r r r (by simp) (Yi _ _ r) r r (by simp) (VK _ _ r) (λ_=>r) r hq<|?_
    refine A 2 ?_;refine cK λhq=>Aca (l:=b) r r r r r r hq<|cK λhq=>aP ((([]:List Int)++(b.take k5.toNat))++([c]:List Int)) (b.drop k5.toNat) Av r r r r r r r (by first|(simp;done)|(simp;omega)) (Ajb _ _ _) r r (by simp) (VK _ _ r) (λ_=>r) r hq<|?_
    exact B
  ·rintro i k nn;dsimp only[Zb];exact B
 ·exact B

abbrev AkF:=en3 (eL OW) (eL (eL Av)) Av
abbrev AtM:=de3 (uL Xw) (uL (uL uI)) uI
def Vc (b:(List Int)×Int):D:=.tup [.sl (b.1.map Av),Mk b.2]
theorem AlD:NM Tryz.prog 131 (fS .val AkF (λa=>Abb a.1 a.2.1 a.2.2) Vc):=by
 refine fn2 3 (nK 107 AbF<|nK 195 Amv<|nK 176 Va<|nK 196 AmC<|nK 64 Vq<|nK 197 AoO<|NK) Tryz.func131<|?_;rintro⟨c,d,e⟩;unfold Abb;refine Ab 10 λq t=>?_
 refine Ac 10 ?_ ?_
 ·exact B
 ·refine A 2 ?_;refine sC (E:=λ(_s:Unit) (_g:Unit)=>[oM 0 c OW,(1,.sl (d.map (eL Av))),oI 2 e]) (O:=λ_ _=>[]) (j:=λ_=>Abc c d e) ?_ ?_
  ·exact B
  ·rintro⟨⟩ ⟨⟩ nn;dsimp only[Abc];refine Ab 15 λb u=>?_
   refine A 11 ?_;refine lP (E:=λ(s:(List Bool)×(List Int)×Int) (g:Nat×Nat×Nat)=>[oM 0 c OW,(1,.sl (d.map (eL Av))),oI 2 e,oT 9 g.1 s.2.1,oT 10 g.2.1 s.1,oT 11 g.2.2 b,oI 12 s.2.2]) (O:=λs g=>[(9,dW g.1 1 3 (s.2.1.map Av)),(10,dW g.2.1 1 4 (s.1.map D.bool)),(11,dW g.2.2 1 3 (b.map Av))]) (_,_,_) hX<|?_
   rintro⟨h,f,i⟩ ⟨v,x,z⟩ nn;dsimp only[Afb];refine Ac 9 ?_ ?_
   ·refine A 2 ?_;refine bC (E:=λ(s:(List Bool)×(List Int)) (g:Nat×Nat×Nat)=>[oM 0 c OW,(1,.sl (d.map (eL Av))),oI 2 e,oT 9 g.1 s.2,oT 10 g.2.1 s.1,oT 11 g.2.2 b,oI 12 i]) (O:=λs g=>[(9,dW g.1 1 3 (s.2.map Av)),(10,dW g.2.1 1 4 (s.1.map D.bool)),(11,dW g.2.2 1 3 (b.map Av))]) (j:=λs=>Yf i s.1 s.2) ?_ ?_
    ·refine Ab 5 λl aa=>?_
     refine A 16 ?_;refine lP (E:=λ(s:(List On)×Int) (g:Nat×Nat×Nat×Nat)=>[oM 0 c OW,(1,.sl (d.map (eL Av))),oI 2 e,oT 9 g.1 f,oT 10 g.2.1 h,oT 11 g.2.2.1 b,oI 12 i,oI 13 l,oT 14 g.2.2.2 s.1,oI 15 s.2]) (O:=λs g=>[(9,dW g.1 1 3 (f.map Av)),(10,dW g.2.1 1 4 (h.map D.bool)),(11,dW g.2.2.1 1 3 (b.map Av)),(14,dW g.2.2.2 2 209 (s.1.map Qr))]) (_,_,_,_) hX<|?_
     rintro⟨k,m⟩ ⟨ab,ac,ad,ae⟩ nn;dsimp only[Afc];refine Ac 9 ?_ ?_
     ·refine A 4 ?_;refine sC (E:=λ(s:Bool) (g:Nat×Nat×Nat×Nat)=>[oM 0 c OW,(1,.sl (d.map (eL Av))),oI 2 e,oT 9 g.1 f,oT 10 g.2.1 h,oT 11 g.2.2.1 b,oI 12 i,oI 13 l,oT 14 g.2.2.2 k,oI 15 m,oB 68 s]) (O:=λ_ g=>[(9,dW g.1 1 3 (f.map Av)),(10,dW g.2.1 1 4 (h.map D.bool)),(11,dW g.2.2.1 1 3 (b.map Av)),(14,dW g.2.2.2 2 209 (k.map Qr))]) (j:=λs=>Uq m f c k s) ?_ ?_
      ·exact B
      ·rintro af ⟨ag,ah,ai,aj⟩ nn;dsimp only[Uq];refine cD r ?_ ?_
       ·refine Ab 5 λo ak=>?_
        refine Ab 3 λp ao=>?_
        refine A 4 ?_;refine bS ([(On.mk o p.Size)]:List On) Qr r r r (by simp) r r r<|?_
        exact B
       ·exact B
     ·exact B
    ·rintro⟨ap,aq⟩ ⟨ar,au,av⟩ nn;dsimp only[Yf];exact B
   ·exact B

theorem Amp:NM Tryz.prog 67 (fS .ground VZ (λa=>TI a) Oy):=by
 refine fn2 1 (nK 107 AbF<|NK) Tryz.func67<|?_;intro b;unfold TI;refine Ab 14 λc d=>?_
 refine Ac 4 ?_ ?_
 ·exact B
 ·refine A 9 ?_;refine lP (E:=λ(s:Int×Int) (_g:Unit)=>[oM 0 b OW,oI 3 s.1,oI 4 s.2]) (O:=λ_ _=>[]) () hX<|?_
  rintro⟨e,f⟩ ⟨⟩ nn;dsimp only[YN];exact B

abbrev RV:=en1 PQ
abbrev AeY:=de1 QM
theorem YR:NM Tryz.prog 36 (fS .ground RV (λa=>Qi a) Oy):=by
 refine fn2 1 (nK 67 Amp<|NK) Tryz.func36<|?_;intro b;unfold Qi;refine A 18 ?_;refine lP (E:=λ(s:Int×Int) (g:Nat)=>[oP 1 g,oI 3 s.1,oI 4 s.2]) (O:=λ_ g=>[(1,dV g 1 28 (.agg [.sl (b.Funcs.map NU)]))]) _ hX<|?_
 rintro⟨c,d⟩ e nn;dsimp only[AbH];exact B

abbrev AnP:=en2 (eL OW) (eL Av)
abbrev AvI:=de2 (uL Xw) (uL uI)
theorem AoR:NM Tryz.prog 199 (fS .ground AnP (λa=>Afd a.1 a.2) Oy):=by
 refine fn2 2 (NK) Tryz.func199<|?_;rintro⟨d,b⟩;unfold Afd;refine A 17 ?_;refine lP (E:=λ(s:Int×Int) (_g:Unit)=>[oM 0 d OW,oM 1 b Av,oI 5 s.1,oI 6 s.2]) (O:=λ_ _=>[]) () hX<|?_
 rintro⟨e,c⟩ ⟨⟩ nn;dsimp only[AiU];refine sC (E:=λ(_s:Unit) (_g:Unit)=>[oM 0 d OW,oM 1 b Av,oI 5 e,oI 6 c,oI 12 c,oM 13 b Av,oL 14 b,(15,.bool (decide (c<(b.length:Int))))]) (O:=λ_ _=>[]) (j:=λ_=>Abd b c d e) ?_ ?_
 ·exact B
 ·rintro⟨⟩ ⟨⟩ nn;dsimp only[Abd];exact B

abbrev AkH:=en4 PQ Av Av (eL Av)
abbrev AtO:=de4 QM uI uI (uL uI)
def PK (b:NT×Int):D:=.tup [OR b.1,Mk b.2]
theorem AlF:NM Tryz.prog 132 (fS .val AkH (λa=>YF a.1 a.2.1 a.2.2.1 a.2.2.2) PK):=by
 refine fn2 4 (nK 198 YO<|nK 112 ZW<|nK 199 AoR<|nK 113 AfA<|NK) Tryz.func132<|?_;rintro⟨d,e,f,c⟩;unfold YF;refine Ab 12 λh k=>?_
 refine Ac 16 ?_ ?_
 ·refine A 9 ?_;refine Pu (b:=((NT.mk 0 0 ([])),13)) r ?_ r r ?_ (by first|rfl|(simp only[NN];rfl)|(simp only[NP];rfl)|(simp only[NN,NP];rfl)|(simp[PK,OR];try rfl)) (by decide)
  all_goals first|(simp;done)|(simp;omega)|rfl|(simp[Pc,OT];done)|(simp[cells];done)
 ·refine A 9 ?_;refine lP (E:=λ(s:Int) (g:Nat×Nat)=>[oI 1 e,oI 2 f,oM 3 c Av,oP 4 g.1,oP 8 g.2,oM 10 h.Slots OW,oI 11 s]) (O:=λ_ g=>[(4,dV g.1 1 28 (.agg [.sl (d.Funcs.map NU)])),(8,dV g.2 3 65 (.agg [Mk 0,Mk 0,.nils]))]) (_,_) hX<|?_
  rintro k6 ⟨l,m⟩ nn;dsimp only[Afe];refine Ac 9 ?_ ?_
  ·refine Ab 8 λo p=>?_
   refine Ab 4 λq t=>?_
   refine Ab 4 λu v=>?_
   refine Ac 4 ?_ ?_
   ·refine A 13 ?_;refine Pu (b:=((NT.mk 0 0 ([])),13)) r ?_ r r ?_ (by first|rfl|(simp only[NN];rfl)|(simp only[NP];rfl)|(simp only[NN,NP];rfl)|(simp[PK,OR];try rfl)) (by decide)
    all_goals first|(simp;done)|(simp;omega)|rfl|(simp[Pc,OT];done)|(simp[cells];done)
   ·exact B
  ·refine Ab 9 λi x=>?_
   refine Ab 9 λz aa=>?_
   refine Ab 3 λj ab=>?_
   refine A 14 ?_;refine Qy r ?_ ?_
   ·refine A 15 ?_;refine Pu (b:=((NT.mk 0 0 ([])),9)) r ?_ r r ?_ (by first|rfl|(simp only[NN];rfl)|(simp only[NP];rfl)|(simp only[NN,NP];rfl)|(simp[PK,OR];try rfl)) (by decide)
    all_goals first|(simp;done)|(simp;omega)|rfl|(simp[Pc,OT];done)|(simp[cells];done)
   ·refine Ac 5 ?_ ?_
    ·refine A 9 ?_;refine Pu (b:=((NT.mk 0 0 ([])),9)) r ?_ r r ?_ (by first|rfl|(simp only[NN];rfl)|(simp only[NP];rfl)|(simp only[NN,NP];rfl)|(simp[PK,OR];try rfl)) (by decide)
     all_goals first|(simp;done)|(simp;omega)|rfl|(simp[Pc,OT];done)|(simp[cells];done)
    ·refine A 7 ?_;refine cK λhq=>aP (([]:List Int)) (c) Av r r r r r r r (by simp) r r r (by simp) r (λ_=>r) r hq<|?_
     refine A 6 ?_;refine Pu (b:=((NT.mk i j.1 (([]:List Int)++c)),0)) r ?_ r r ?_ (by first|rfl|(simp only[NN];rfl)|(simp only[NP];rfl)|(simp only[NN,NP];rfl)|(simp[PK,OR];try rfl)) (by decide)
     all_goals first|(simp;done)|(simp;omega)|rfl|(simp[Pc,OT];done)|(simp[cells];done)

def AqZ (b:(List (List Int))):D:=.sl (b.map (eL Av))
theorem Akd:NM Tryz.prog 35 (fS (.row 1 38) RV (λa=>AbW a) AqZ):=by
 refine fn2 1 (nK 66 WQ<|NK) Tryz.func35<|?_;intro b;unfold AbW;refine A 11 ?_;refine cK λhq=>Acq (α:=Int) r r r hq r<|?_
 refine A 2 ?_;refine RE (E:=[oP 1 _,(3,.osl 3 _ 0 ((aA (b.Funcs.length:Int).toNat ([]:(List Int))).length))]) (O:=[(1,dV _ 1 28 (.agg [.sl (b.Funcs.map NU)])),(3,dW _ 1 38 ((aA (b.Funcs.length:Int).toNat ([]:(List Int))).map (eL Av)))]) ((AeQ (g:=3) r (Ahi (l:=aA (b.Funcs.length:Int).toNat ([]:(List Int))) Av (λ_ h=>List.eq_of_mem_replicate h)) hX)) λnn=>?_
 refine A 7 ?_;refine lP (E:=λ(s:(List (List Int))×Int) (g:Nat×Nat)=>[oP 1 g.1,oT 3 g.2 s.1,oI 4 s.2]) (O:=λs g=>[(1,dV g.1 1 28 (.agg [.sl (b.Funcs.map NU)])),(3,dW g.2 1 38 (s.1.map (eL Av)))]) (_,_) hX<|?_
 rintro⟨k,c⟩ ⟨m,o⟩ nn;dsimp only[Akb];refine Ac 10 ?_ ?_
 ·refine A 2 ?_;refine bC (E:=λ(s:(List (List Int))) (g:Nat×Nat)=>[oP 1 g.1,oT 3 g.2 s,oI 4 c]) (O:=λs g=>[(1,dV g.1 1 28 (.agg [.sl (b.Funcs.map NU)])),(3,dW g.2 1 38 (s.map (eL Av)))]) (j:=λs=>Aco c s) ?_ ?_
  ·refine Ab 5 λd p=>?_
   refine A 12 ?_;refine lP (E:=λ(s:(List (List Int))×Int) (g:Nat×Nat)=>[oP 1 g.1,oT 3 g.2 s.1,oI 4 c,oM 5 d.Code Oj,oI 6 s.2]) (O:=λs g=>[(1,dV g.1 1 28 (.agg [.sl (b.Funcs.map NU)])),(3,dW g.2 1 38 (s.1.map (eL Av)))]) (_,_) hX<|?_
   rintro⟨e,q⟩ ⟨t,u⟩ nn;dsimp only[Akc];refine Ac 9 ?_ ?_
   ·refine Ab 8 λv x=>?_
    refine Ac 6 ?_ ?_
    ·refine Ab 6 λz aa=>?_
     refine Ab 3 λab ac=>?_
     refine Ab 3 λf ad=>?_
     refine A 2 ?_;refine bD λae i=>sE (l:=e) (en:=(eL Av)) (q':=f) r r r r r r r (by simp) i r r r (by simp[PV,cells,eL]) r<|?_
     exact B
    ·exact B
   ·exact B
  ·rintro af ⟨ag,ah⟩ nn;dsimp only[Aco];exact B
 ·exact B

def PM (a:(List Og)):List D:=[.sl (a.map OW),.clo 201 []]
def PL (ds:List D):(List Og):=(uL Xw) (ds.getD 0 .top)
instance:PT PM PL:=⟨λa=>by simp[PL,PM,QL (u:=Xw) (en:=OW) Ajq]⟩
noncomputable def Sk:Dw.Spec:=Ow [] .ground PM PL (λa=>QT a) Oy noE
theorem Wg:NM Tryz.prog 236 Sk:=by
 refine fn2 2 (nK 201 AjD<|NK) Tryz.func236<|?_;intro a;unfold QT;refine A 14 ?_;refine lP (E:=λ(s:Int) (_g:Unit)=>[oM 0 a OW,(1,.clo 201 []),oL 7 a,oI 8 s]) (O:=λ_ _=>[]) () hX<|?_
 rintro b ⟨⟩ nn;dsimp only[QF];exact B

noncomputable def RF:Dw.Spec:=Ow [] .ground PM PL (λa=>QE a) Od noE
theorem Vt:NM Tryz.prog 200 RF:=by
 refine fn2 2 (nK 827628 Wg<|NK) Tryz.func200<|?_;intro a;unfold QE;refine A 9 ?_;refine bD λc b=>cG a rfl rfl (show _=some Sk from by kernel_rfl) PT.ok rfl rfl (by simp) r b r<|?_
 exact B

theorem AeP:NM Tryz.prog 136 (fS .ground VZ (λa=>WI a) Oy):=by
 refine fn2 1 (nK 827592 Vt<|NK) Tryz.func136<|?_;intro b;unfold WI;refine Ac 13 ?_ ?_
 ·exact B
 ·refine A 6 ?_;refine bD λd c=>cG b rfl rfl (show _=some RF from by kernel_rfl) PT.ok rfl rfl (by simp) r c r<|?_
  exact B

theorem Alg:NM Tryz.prog 91 (fS .ground VZ (λa=>WH a) Oy):=by
 refine fn2 1 (nK 136 AeP<|NK) Tryz.func91<|?_;intro b;unfold WH;refine Ab 14 λc d=>?_
 refine Ac 4 ?_ ?_
 ·refine A 8 ?_;refine lP (E:=λ(s:Int×Int) (_g:Unit)=>[oI 3 s.2,oM 9 b OW,oL 10 b,oI 11 s.1]) (O:=λ_ _=>[]) () hX<|?_
  rintro⟨e,f⟩ ⟨⟩ nn;dsimp only[AaK];exact B
 ·exact B

noncomputable def AfB:Dw.Spec:=Ow [] .ground RV AeY (λa=>RY a) Oy noE
theorem Aet:NM Tryz.prog 55 AfB:=by
 refine fn2 1 (nK 91 Alg<|NK) Tryz.func55<|?_;intro a;unfold RY;refine A 21 ?_;refine lP (E:=λ(s:Int×Int) (_g:Unit)=>[oI 3 s.1,oM 7 a.Funcs NU,oL 8 a.Funcs,oI 9 s.2]) (O:=λ_ _=>[]) () hX<|?_
 rintro⟨b,c⟩ ⟨⟩ nn;dsimp only[Aja];exact B

end Go.Proofs.YtmmchhpdaogopaaGreatDoor
