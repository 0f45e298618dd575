/-
 The code does what its typed programs say.
-/
import Derived.Test.YtmmchhpdaogopaaGreatDoorDxF10
import Derived.Test.YtmmchhpdaogopaaGreatDoorDxF11
namespace Go.Proofs.YtmmchhpdaogopaaGreatDoor
open Go Go.Dw Go.Proofs
open Go.IntKind (i64)
set_option maxRecDepth 100000
set_option maxHeartbeats 40000000
open Go.Dw renaming Px -> bD,Wh -> cG,QU -> cD,RO -> xC,Qx -> xL,Rq -> lP,Qq -> sC,Ajm -> mF,rf -> r
abbrev YE:=en3 PQ Av Av
abbrev AiV:=de3 QM uI uI
theorem WB:NM Tryz.prog 68 (fS .val YE (λa=>RL a.1 a.2.1 a.2.2) PK):=by
 refine fn2 3 (nK 112 ZW<|nK 113 AfA<|NK) Tryz.func68<|?_;rintro⟨m,o,i⟩;unfold RL;refine Ab 11 λh p=>?_
 refine Ab 18 λe q=>?_
 refine A 13 ?_;refine lP (E:=λ(s:(List Int)×Int×Int) (g:Nat×Nat×Nat×Nat)=>[oI 2 i,oP 6 g.1,oP 8 g.2.1,oI 9 s.2.2,oM 10 e.Slots OW,oI 11 s.2.1]) (O:=λs g=>[(6,dV g.1 3 65 (.agg [Mk 0,Mk 0,.osl 900 g.2.2.1 0 (([]:List Int).length)])),(8,dV g.2.1 3 65 (.agg [Mk h,Mk 0,.osl 901 g.2.2.2 0 s.1.length])),(900,dW g.2.2.1 1 3 (([]:List Int).map Av)),(901,dW g.2.2.2 1 3 (s.1.map Av))]) (_,_,_,_) ((Abw (gg:=6) (off:=2) (tt:=900) (s:=1) (tyy:=3) r r r r (Abw (gg:=8) (off:=2) (tt:=901) (s:=1) (tyy:=3) r r r r hX)))<|?_
 rintro⟨d,f,t⟩ ⟨u,v,x,z⟩ nn;dsimp only[Adu];refine Ac 9 ?_ ?_
 ·refine Ab 9 λaa ab=>?_
  refine Ab 3 λc ac=>?_
  refine A 8 ?_;refine sC (E:=λ(s:Og×Og×Int×Int×Bool) (g:Nat×Nat×Nat×Nat)=>[oI 2 i,oP 6 g.1,oP 8 g.2.1,oM 10 e.Slots OW,oI 11 f,oI 12 c.1,oI 48 c.1,oM 49 e.Slots OW,oI 50 f,(51,.fptr (.agg [Mk s.1.Size,Mk s.1.Align]) 0),(52,.fptr (.agg [Mk s.2.1.Size,Mk s.2.1.Align]) 0),oI 53 s.2.2.1,oI 54 s.2.2.2.1,oB 55 s.2.2.2.2]) (O:=λ_ g=>[(6,dV g.1 3 65 (.agg [Mk 0,Mk 0,.osl 900 g.2.2.1 0 (([]:List Int).length)])),(8,dV g.2.1 3 65 (.agg [Mk h,Mk 0,.osl 901 g.2.2.2 0 d.length])),(900,dW g.2.2.1 1 3 (([]:List Int).map Av)),(901,dW g.2.2.2 1 3 (d.map Av))]) (j:=λs=>Zt d c e f s.1 s.2.1 s.2.2.1 s.2.2.2.1 s.2.2.2.2) ?_ ?_
  ·refine A 5 ?_;refine Qy r ?_ ?_
   ·refine A 26 ?_;refine Pu (b:=((NT.mk 0 0 ([])),9)) r ?_ r r ?_ (by first|rfl|(simp only[NN];rfl)|(simp only[NP];rfl)|(simp only[NN,NP];rfl)|(simp[PK,OR];try rfl)) (by decide)
    all_goals first|(simp;done)|(simp;omega)|rfl|(simp[Pc,OT];done)|(simp[cells];done)
   ·refine Ab 3 λad ae=>?_
    refine Ac 8 ?_ ?_
    ·refine A 14 ?_;refine Pu (b:=((NT.mk 0 0 ([])),9)) r ?_ r r ?_ (by first|rfl|(simp only[NN];rfl)|(simp only[NP];rfl)|(simp only[NN,NP];rfl)|(simp[PK,OR];try rfl)) (by decide)
     all_goals first|(simp;done)|(simp;omega)|rfl|(simp[Pc,OT];done)|(simp[cells];done)
    ·exact B
  ·rintro⟨af,ag,ah,ai,aj⟩ ⟨ak,ao,ap,aq⟩ nn;dsimp only[Zt];refine Ab 22 λk ar=>?_
   refine A 13 ?_;exact xL (s:=((([]:List Int)++d)++([c.1]:List Int),i64.wrap (f+1),i64.wrap (c.1+k.Size))) (_,_,_,_) ((Yu (E1:=[oI 2 i,oP 6 _,oP 8 _,(9,Mk (i64.wrap (c.1+k.Size))),oM 10 e.Slots OW,(11,Mk (i64.wrap (f+1)))]) (O1:=[(6,dV _ 3 65 (.agg [Mk 0,Mk 0,.osl 900 _ 0 (([]:List Int).length)])),(8,dV _ 3 65 (.agg [Mk h,Mk 0,.osl 14 _ 0 (((([]:List Int)++d)++([c.1]:List Int)).length)])),(14,dW _ 1 3 (((([]:List Int)++d)++([c.1]:List Int)).map Av)),(900,dW _ 1 3 (([]:List Int).map Av))]) hX (λ_=>Qo (λg=>bif Nat.beq g 14 then 901 else g) (by kernel_rfl) hX)))
 ·refine Ab 9 λl au=>?_
  refine A 14 ?_;refine Qy r ?_ ?_
  ·refine A 15 ?_;refine Pu (b:=((NT.mk 0 0 ([])),9)) r ?_ r r ?_ (by first|rfl|(simp only[NN];rfl)|(simp only[NP];rfl)|(simp only[NN,NP];rfl)|(simp[PK,OR];try rfl)) (by decide)
   all_goals first|(simp;done)|(simp;omega)|rfl|(simp[Pc,OT];done)|(simp[cells];done)
  ·refine Ac 5 ?_ ?_
   ·refine A 9 ?_;refine Pu (b:=((NT.mk 0 0 ([])),9)) r ?_ r r ?_ (by first|rfl|(simp only[NN];rfl)|(simp only[NP];rfl)|(simp only[NN,NP];rfl)|(simp[PK,OR];try rfl)) (by decide)
    all_goals first|(simp;done)|(simp;omega)|rfl|(simp[Pc,OT];done)|(simp[cells];done)
   ·refine A 17 ?_;refine Pu (b:=((NT.mk h l.1 d),0)) r ?_ r r ?_ (by first|rfl|(simp only[NN];rfl)|(simp only[NP];rfl)|(simp only[NN,NP];rfl)|(simp[PK,OR];try rfl)) (by decide)
    all_goals first|(simp;done)|(simp;omega)|rfl|(simp[Pc,OT];done)|(simp[cells];done)

abbrev YD:=en3 NU Un XM
abbrev Asl:=de3 RP Yj Aas
theorem AjO:NM Tryz.prog 117 (fS .ground YD (λa=>Za a.1 a.2.1 a.2.2) Ade):=by
 refine fn2 3 (nK 116 WT<|nK 118 AbQ<|nK 180 AjP<|NK) Tryz.func117<|?_;rintro⟨c,d,b⟩;unfold Za;refine A 10 ?_;refine sC (E:=λ(_s:Unit) (g:Nat×Nat×Nat)=>[oP 3 g.1,oP 4 g.2.1,oP 5 g.2.2]) (O:=λ_ g=>[(3,dV g.1 3 57 (NU c)),(4,dV g.2.1 1 60 (.agg [.sl (d.Out.map (eL Av))])),(5,dV g.2.2 2 63 (.agg [.sl (b.To.map Av),.sl (b.Keep.map D.bool)]))]) (j:=λ_=>Zr c d b) ?_ ?_
 ·exact B
 ·rintro⟨⟩ ⟨e,f,h⟩ nn;dsimp only[Zr];refine A 7 ?_;refine lP (E:=λ(s:Int) (g:Nat×Nat×Nat)=>[oP 3 g.1,oP 4 g.2.1,oP 5 g.2.2,oI 9 s]) (O:=λ_ g=>[(3,dV g.1 3 57 (NU c)),(4,dV g.2.1 1 60 (.agg [.sl (d.Out.map (eL Av))])),(5,dV g.2.2 2 63 (.agg [.sl (b.To.map Av),.sl (b.Keep.map D.bool)]))]) (_,_,_) hX<|?_
  rintro k4 ⟨i,k,l⟩ nn;dsimp only[Adt];exact B

theorem AmB:NM Tryz.prog 70 (fS .ground YD (λa=>Acl a.1 a.2.1 a.2.2) Oy):=by
 refine fn2 3 (nK 116 WT<|nK 117 AjO<|nK 118 AbQ<|NK) Tryz.func70<|?_;intro a;unfold Acl;exact B

abbrev Amn:=en3 OR Av Av
abbrev Avd:=de3 Zh uI uI
theorem AnE:NM Tryz.prog 90 (fS .val Amn (λa=>AdB a.1 a.2.1 a.2.2) PK):=by
 refine fn2 3 (nK 88 AiC<|nK 89 Adb<|NK) Tryz.func90<|?_;rintro⟨c,e,f⟩;unfold AdB;refine Ab 11 λd h=>?_
 refine A 8 ?_;refine sC (E:=λ(s:Int) (g:Nat×Nat)=>[oP 3 g.1,oP 6 g.2,oI 8 d.1,oI 9 s]) (O:=λ_ g=>[(3,dV g.1 3 65 (OR c)),(6,dV g.2 3 65 (.agg [Mk 0,Mk 0,.nils]))]) (j:=λs=>XD c d s) ?_ ?_
 ·exact B
 ·rintro i ⟨k,l⟩ nn;dsimp only[XD];refine Ac 7 ?_ ?_
  ·refine A 9 ?_;refine Pu (b:=((NT.mk 0 0 ([])),9)) r ?_ r r ?_ (by first|rfl|(simp only[NN];rfl)|(simp only[NP];rfl)|(simp only[NN,NP];rfl)|(simp[PK,OR];try rfl)) (by decide)
   all_goals first|(simp;done)|(simp;omega)|rfl|(simp[Pc,OT];done)|(simp[cells];done)
  ·exact B

theorem AcH:NM Tryz.prog 149 (fS .ground Sx (λa=>Uo a.1 a.2) Oy):=by
 refine fn2 2 (nK 207 AhR<|NK) Tryz.func149<|?_;rintro⟨b,c⟩;unfold Uo;refine Ab 12 λd e=>?_
 refine Ac 4 ?_ ?_
 ·exact B
 ·refine A 7 ?_;exact AbZ

theorem AjS:NM Tryz.prog 94 (fS .ground YD (λa=>Zi a.1 a.2.1 a.2.2) Oy):=by
 refine fn2 3 (nK 149 AcH<|NK) Tryz.func94<|?_;rintro⟨b,c,d⟩;unfold Zi;refine Ab 13 λe f=>?_
 refine Ac 4 ?_ ?_
 ·exact B
 ·refine A 7 ?_;exact AbZ

def Pr (a:(List NJ)×Pb×Pg):List D:=[.sl (a.1.map Oj),.clo 171 [.fptr (Aap a.2.1) 0,.fptr (Qh a.2.2) 0]]
def Pq (ds:List D):(List NJ)×Pb×Pg:=((uL Sl) (ds.getD 0 .top),Aat (fpD (Aok (ds.getD 1 .top) 0)),Wy (fpD (Aok (ds.getD 1 .top) 1)))
instance:PT Pr Pq:=⟨λa=>by simp[Pq,Pr,fpD,Aok,QL (u:=Sl) (en:=Oj) YH]⟩
noncomputable def Ri:Dw.Spec:=Ow [] .ground Pr Pq (λa=>Pf a.1 a.2.1 a.2.2) Oy noE
theorem Uk:NM Tryz.prog 226 Ri:=by
 refine fn2 2 (nK 171 AcI<|NK) Tryz.func226<|?_;rintro⟨a,b,c⟩;unfold Pf;refine A 14 ?_;refine lP (E:=λ(s:Int) (_g:Unit)=>[oM 0 a Oj,(1,.clo 171 [.fptr (.agg [Mk b.Align,.sl (b.Frames.map OV)]) 0,.fptr (Qh c) 0]),oL 7 a,oI 8 s]) (O:=λ_ _=>[]) () hX<|?_
 rintro d ⟨⟩ nn;dsimp only[Qa];exact B

noncomputable def QV:Dw.Spec:=Ow [] .ground Pr Pq (λa=>Ps a.1 a.2.1 a.2.2) Od noE
theorem TB:NM Tryz.prog 170 QV:=by
 refine fn2 2 (nK 704738 Uk<|NK) Tryz.func170<|?_;rintro⟨a,b,c⟩;unfold Ps;refine A 9 ?_;refine bD λe d=>cG (a,b,c) rfl rfl (show _=some Ri from by kernel_rfl) PT.ok rfl rfl (by simp) r d r<|?_
 exact B

abbrev Ahg:=en2 Qh Aap
abbrev AqN:=de2 Wy Aat
theorem AhS:NM Tryz.prog 105 (fS .ground Ahg (λa=>Vn a.1 a.2) Od):=by
 refine fn2 2 (nK 704682 TB<|NK) Tryz.func105<|?_;rintro⟨c,b⟩;unfold Vn;refine A 6 ?_;refine RE (E:=[(2,.fptr (Qh c) 0),(3,.fptr (.agg [Mk b.Align,.sl (b.Frames.map OV)]) 0)]) (O:=[]) ((hV 2 r (hV 3 r (hY)))) λnn=>?_
 refine A 5 ?_;refine mF (caps:=[.fptr (.agg [Mk b.Align,.sl (b.Frames.map OV)]) 0,.fptr (Qh c) 0]) r r (by simp[Vh])<|bD λe d=>cG (c.Frame.Code,b,c) rfl rfl (show _=some QV from by kernel_rfl) PT.ok rfl rfl (by simp) r d r<|?_
 exact B

end Go.Proofs.YtmmchhpdaogopaaGreatDoor
