/-
 The code does what its typed programs say.
-/
import Derived.Test.YtcaoepecbgggcaaGreatDoorSh
import Derived.Test.YtcaoepecbgggcaaGreatDoorCl
import Derived.Test.YtcaoepecbgggcaaGreatDoorDxP
namespace Go.Proofs.YtcaoepecbgggcaaGreatDoor
open Go Go.Dw Go.Proofs
open Go.IntKind (i64)
set_option maxRecDepth 100000
set_option maxHeartbeats 40000000
open Go.Dw renaming QN -> bD,QW -> cK,Ya -> bS,AcM -> aP,WQ -> sE,Yz -> iO,Vs -> cD,YA -> xC,UF -> xL,XG -> lP,Vg -> sC,SG -> bC,rf -> r
noncomputable section
noncomputable def AsF:OX:=(Tryz.f157.body.bind (Pp Tryz.prog Tryz.f157.ntmps)).getD .skip
theorem Axe:(Tryz.f157.body.bind (Pp Tryz.prog Tryz.f157.ntmps))=some AsF:=by kernel_rfl
theorem Axf:Tryz.f157.results.toList.mapM (UQ Tryz.prog)=some [(.t 6)]:=by kernel_rfl

abbrev Aac:=en3 Pz Lo Nz
abbrev Als:=de3 Rp uI Re
def Ws (b:Nq):D:=Pz b
def Agi:Dw.Spec:=NU [] .val Aac Als (λa=>Tn a.1 a.2.1 a.2.2) Ws noE
theorem Afa:Ns Tryz.prog 43 Agi:=by
 refine fn2 3 (nK 103 AtE<|Np) Tryz.func43<|?_;rintro⟨f,d,c⟩;unfold Tn;refine Ab 11 λa g=>?_
 refine A 12 ?_;refine cK λhq=>iO (l:=a) (en:=Nz) r r r r r hq<|bD λh e=>sE (l:=a) (en:=Nz) (q':=c) r r r r r r r (by simp) e r r r r r<|?_
 refine A 9 ?_;refine TN (b:=(Nq.mk (a.set d.toNat c))) r ?_ r r ?_ (by first|rfl|(simp only;rfl)|(simp only;rfl)|(simp only;rfl)|(simp[Ws,Pz];try rfl))
 all_goals first|(simp;done)|(simp;omega)|rfl|(simp[OQ,OJ];done)|(simp[cells];done)

noncomputable def AdP:OX:=(Tryz.f51.body.bind (Pp Tryz.prog Tryz.f51.ntmps)).getD .skip
theorem AjL:(Tryz.f51.body.bind (Pp Tryz.prog Tryz.f51.ntmps))=some AdP:=by kernel_rfl
theorem AjM:Tryz.f51.results.toList.mapM (UQ Tryz.prog)=some []:=by kernel_rfl

noncomputable def Avz:OX:=(Tryz.f52.body.bind (Pp Tryz.prog Tryz.f52.ntmps)).getD .skip
theorem Ayk:(Tryz.f52.body.bind (Pp Tryz.prog Tryz.f52.ntmps))=some Avz:=by kernel_rfl
theorem Ayl:Tryz.f52.results.toList.mapM (UQ Tryz.prog)=some [(.t 2)]:=by kernel_rfl

noncomputable def AvA:OX:=(Tryz.f53.body.bind (Pp Tryz.prog Tryz.f53.ntmps)).getD .skip
theorem Aym:(Tryz.f53.body.bind (Pp Tryz.prog Tryz.f53.ntmps))=some AvA:=by kernel_rfl
theorem Ayn:Tryz.f53.results.toList.mapM (UQ Tryz.prog)=some [(.t 2)]:=by kernel_rfl

noncomputable def AvB:OX:=(Tryz.f54.body.bind (Pp Tryz.prog Tryz.f54.ntmps)).getD .skip
theorem Ayo:(Tryz.f54.body.bind (Pp Tryz.prog Tryz.f54.ntmps))=some AvB:=by kernel_rfl
theorem Ayp:Tryz.f54.results.toList.mapM (UQ Tryz.prog)=some [(.t 2)]:=by kernel_rfl

noncomputable def AsG:OX:=(Tryz.f55.body.bind (Pp Tryz.prog Tryz.f55.ntmps)).getD .skip
theorem Ayq:(Tryz.f55.body.bind (Pp Tryz.prog Tryz.f55.ntmps))=some AsG:=by kernel_rfl
theorem Ayr:Tryz.f55.results.toList.mapM (UQ Tryz.prog)=some [(.t 3)]:=by kernel_rfl

noncomputable def AsH:OX:=(Tryz.f56.body.bind (Pp Tryz.prog Tryz.f56.ntmps)).getD .skip
theorem Ays:(Tryz.f56.body.bind (Pp Tryz.prog Tryz.f56.ntmps))=some AsH:=by kernel_rfl
theorem Ayt:Tryz.f56.results.toList.mapM (UQ Tryz.prog)=some [(.t 6)]:=by kernel_rfl

noncomputable def AvC:OX:=(Tryz.f57.body.bind (Pp Tryz.prog Tryz.f57.ntmps)).getD .skip
theorem Ayu:(Tryz.f57.body.bind (Pp Tryz.prog Tryz.f57.ntmps))=some AvC:=by kernel_rfl
theorem Ayv:Tryz.f57.results.toList.mapM (UQ Tryz.prog)=some [(.t 2)]:=by kernel_rfl

noncomputable def Ayj:OX:=(Tryz.f50.body.bind (Pp Tryz.prog Tryz.f50.ntmps)).getD .skip
theorem Azz:(Tryz.f50.body.bind (Pp Tryz.prog Tryz.f50.ntmps))=some Ayj:=by kernel_rfl
theorem AzA:Tryz.f50.results.toList.mapM (UQ Tryz.prog)=some []:=by kernel_rfl

abbrev Aqe:=en2 (eL eU8) Lo
abbrev Ayw:=de2 (uL uI) uI
def AsK (b:Mk):D:=Om b
theorem Arp:Ns Tryz.prog 29 (fS (.ptr 2 114) Aqe (λa=>AeR a.1 a.2) AsK):=by
 refine fn2 2 (Np) Tryz.func29<|?_;intro a;unfold AeR;exact B

abbrev VH:=en1 Om
abbrev VG:=de1 Rn
def AkY (b:Bool×Mk):D:=.bool b.1
def AkX (b:Bool×Mk):List D:=[Om b.2]
theorem AjN:Ns Tryz.prog 64 (NU [(0,(2,114))] .val VH VG (λa=>YD a) AkY AkX):=by
 refine fn2 1 (Np) Tryz.func64<|?_;intro a;unfold YD;exact B

abbrev Acf:=en2 Om Lo
abbrev Ace:=de2 Rn uI
def Aaa (b:Int×Mk):D:=Nn b.1
def Ala (b:Int×Mk):List D:=[Om b.2]
theorem OB:Ns Tryz.prog 22 (NU [(0,(2,114))] .val Acf Ace (λa=>Nx a.1 a.2) Aaa Ala):=by
 refine fn2 2 (nK 64 AjN<|Np) Tryz.func22<|?_;rintro⟨e,b⟩;unfold Nx;refine A 5 ?_;refine sC (E:=λ(_s:(List Int)×Int) (_g:Unit)=>[(0,.optr 8192 0 0 0),oI 1 b]) (O:=λs _=>[(8192,dV 0 2 114 (.agg [.sl (s.1.map eU8),Nn s.2]))]) (j:=λs=>Wi b s.1 s.2) ?_ ?_
 ·exact B
 ·rintro⟨c,d⟩ ⟨⟩ nn;dsimp only[Wi];refine Ab 10 λf g=>?_
  refine A 15 ?_;refine Adf (i:=0) (es':=[.agg [.sl (c.map eU8),Nn (i64.wrap (d+1))]]) r r r r r r r (by first|trivial|(simp;done)|(simp;omega)) r r r r r r<|?_
  exact B

def Ald (b:NA×Mk):D:=Oo b.1
def Alc (b:NA×Mk):List D:=[Om b.2]
theorem Ads:Ns Tryz.prog 49 (NU [(0,(2,114))] .val VH VG (λa=>Wl a) Ald Alc):=by
 refine fn2 1 (nK 22 OB<|Np) Tryz.func49<|?_;intro b;unfold Wl;refine A 7 ?_;refine bS ([8,4,8,1,2,16,8]:List Int) Lo r r r (by simp) r r r<|?_
 refine Ab 1 λc d=>?_
 refine Ab 2 λe f=>?_
 refine A 1 ?_;refine bS ([8,4,1,8,16,2,32,64]:List Int) Lo r r r (by simp) r r r<|?_
 exact B

def AjQ (b:(List NA)×Mk):D:=.sl (b.1.map Oo)
def AjP (b:(List NA)×Mk):List D:=[Om b.2]
theorem Ajn:Ns Tryz.prog 131 (NU [(0,(2,114))] (.row 2 87) Acf Ace (λa=>Vv a.1 a.2) AjQ AjP):=by
 refine fn2 2 (nK 22 OB<|nK 49 Ads<|Np) Tryz.func131<|?_;rintro⟨c,d⟩;unfold Vv;refine Ab 16 λe f=>?_
 refine A 5 ?_;refine lP (E:=λ(s:(List Int)×Int×(List NA)×Int) (g:Nat)=>[(0,.optr 8192 0 0 0),oT 5 g s.2.2.1,oI 6 s.2.2.2]) (O:=λs g=>[(5,dW g 2 87 (s.2.2.1.map Oo)),(8192,dV 0 2 114 (.agg [.sl (s.1.map eU8),Nn s.2.1]))]) _ hX<|?_
 rintro⟨h,c5,i,j⟩ k nn;dsimp only[Ach];refine Ac 7 ?_ ?_
 ·refine Ab 7 λb l=>?_
  refine A 1 ?_;refine bS ([b.1]:List NA) Oo r r r (by simp) r r r<|?_
  exact B
 ·exact B

abbrev Ajr:=en3 Om Nz Lo
abbrev Ajq:=de3 Rn Re uI
def Ali (b:Int×Mk):List D:=[Om b.2]
theorem Adu:Ns Tryz.prog 194 (NU [(0,(2,114))] .val Ajr Ajq (λa=>Wn a.1 a.2.1 a.2.2) Aaa Ali):=by
 refine fn2 3 (nK 22 OB<|Np) Tryz.func194<|?_;rintro⟨b,c,d⟩;unfold Wn;refine A 18 ?_;refine lP (E:=λ(s:(List Int)×Int) (g:Nat×Nat)=>[(0,.optr 8192 0 0 0),oI 2 d,oP 4 g.1,oT 7 g.2 s.1,oI 8 s.2]) (O:=λs g=>[(4,dV g.1 3 36 (Nz c)),(7,dW g.2 1 3 (s.1.map Lo)),(8192,dV 0 2 114 (.agg [.sl (b.list.map eU8),Nn b.at_]))]) (_,_) hX<|?_
 rintro⟨e,k5⟩ ⟨f,h⟩ nn;dsimp only[Adt];exact B

def Alf (b:Int×Mk):D:=AnK b.1
def Ale (b:Int×Mk):List D:=[Om b.2]
theorem Za:Ns Tryz.prog 48 (NU [(0,(2,114))] .val VH VG (λa=>Uq a) Alf Ale):=by
 refine fn2 1 (nK 22 OB<|Np) Tryz.func48<|?_;intro a;unfold Uq;exact B

abbrev Ajp:=en4 Om Nz Lo (eL Lo)
abbrev Ajo:=de4 Rn Re uI (uL uI)
def Alh (b:(List Av)×Mk):D:=.sl (b.1.map NG)
def Alg (b:(List Av)×Mk):List D:=[Om b.2]
theorem AjR:Ns Tryz.prog 132 (NU [(0,(2,114))] (.row 5 90) Ajp Ajo (λa=>Wm a.1 a.2.1 a.2.2.1 a.2.2.2) Alh Alg):=by
 refine fn2 4 (nK 22 OB<|nK 194 Adu<|nK 48 Za<|Np) Tryz.func132<|?_;rintro⟨c1,e,d,f⟩;unfold Wm;refine Ab 9 λc ab=>?_
 refine Ab 15 λb ac=>?_
 refine A 4 ?_;refine bC (E:=λ(_s:Unit) (_g:Unit)=>[oI 9 c.1]) (O:=λ_ _=>[(8192,dV 0 2 114 (.agg [.sl (b.2.list.map eU8),Nn b.2.at_]))]) (j:=λ_=>Zc c b) ?_ ?_
 ·refine sC (E:=λ(s:Bool) (g:Nat)=>[(0,.optr 8192 0 0 0),oI 2 d,oM 3 f Lo,oP 5 g,oI 9 c.1,oL 10 e.Slots,oI 11 b.1,oB 23 s]) (O:=λ_ g=>[(5,dV g 3 36 (Nz e)),(8192,dV 0 2 114 (.agg [.sl (b.2.list.map eU8),Nn b.2.at_]))]) (j:=λs=>Ue b e c f d s) ?_ ?_
  ·exact B
  ·rintro x7 ae nn;dsimp only[Ue];refine cD r ?_ ?_
   ·refine Ab 4 λi af=>?_
    refine A 3 ?_;refine bS ([(Av.mk 16 i.1 c.1 0 0)]:List Av) NG r r r (by simp) r r r<|?_
    exact B
   ·refine sC (E:=λ(s:Bool) (g:Nat)=>[(0,.optr 8192 0 0 0),oI 2 d,oM 3 f Lo,oP 5 g,oI 9 c.1,oL 10 e.Slots,oI 11 b.1,oB 36 s]) (O:=λ_ g=>[(5,dV g 3 36 (Nz e)),(8192,dV 0 2 114 (.agg [.sl (b.2.list.map eU8),Nn b.2.at_]))]) (j:=λs=>Uf b e c f d s) ?_ ?_
    ·exact B
    ·rintro x9 ah nn;dsimp only[Uf];refine cD r ?_ ?_
     ·refine Ab 5 λk ai=>?_
      refine A 2 ?_;refine bS ([(Av.mk 15 c.1 k.1 0 0)]:List Av) NG r r r (by simp) r r r<|?_
      exact B
     ·refine sC (E:=λ(s:Bool) (g:Nat)=>[(0,.optr 8192 0 0 0),oI 2 d,oM 3 f Lo,oP 5 g,oI 9 c.1,oL 10 e.Slots,oI 11 b.1,oB 49 s]) (O:=λ_ g=>[(5,dV g 3 36 (Nz e)),(8192,dV 0 2 114 (.agg [.sl (b.2.list.map eU8),Nn b.2.at_]))]) (j:=λs=>Ug b e c f d s) ?_ ?_
      ·exact B
      ·rintro aj ak nn;dsimp only[Ug];refine cD r ?_ ?_
       ·refine Ab 4 λl ao=>?_
        refine Ab 9 λm ap=>?_
        refine A 3 ?_;refine bS ([(Av.mk 17 m.1 l.1 0 0)]:List Av) NG r r r (by simp) r r r<|?_
        exact B
       ·refine Ac 7 ?_ ?_
        ·refine Ab 4 λo aq=>?_
         refine A 2 ?_;refine bS ([(Av.mk 0 c.1 0 0 o.1)]:List Av) NG r r r (by simp) r r r<|?_
         exact B
        ·refine Ac 7 ?_ ?_
         ·refine Ab 3 λp ar=>?_
          refine Ab 4 λq au=>?_
          refine Ab 2 λt av=>?_
          refine A 2 ?_;refine bS ([(Av.mk (i64.wrap (2+p.1)) c.1 q.1 t.1 0)]:List Av) NG r r r (by simp) r r r<|?_
          exact B
         ·refine Ac 7 ?_ ?_
          ·refine A 4 ?_;refine bS ([(Av.mk 14 c.1 0 0 0)]:List Av) NG r r r (by simp) r r r<|?_
           exact B
          ·refine Ac 7 ?_ ?_
           ·refine A 2 ?_;refine bS ([13,12,1]:List Int) Lo r r r (by simp) r r r<|?_
            refine Ab 1 λaw ax=>?_
            refine Ab 2 λu ay=>?_
            refine A 3 ?_;refine bS ([(Av.mk u c.1 0 0 0)]:List Av) NG r r r (by simp) r r r<|?_
            exact B
           ·refine sC (E:=λ(s:Bool) (g:Nat)=>[(0,.optr 8192 0 0 0),oI 2 d,oM 3 f Lo,oP 5 g,oI 9 c.1,oI 11 b.1,oB 104 s]) (O:=λ_ g=>[(5,dV g 3 36 (Nz e)),(8192,dV 0 2 114 (.agg [.sl (b.2.list.map eU8),Nn b.2.at_]))]) (j:=λs=>Uh b e c f d s) ?_ ?_
            ·exact B
            ·rintro az ba nn;dsimp only[Uh];refine cD r ?_ ?_
             ·refine Ab 6 λv bb=>?_
              refine A 2 ?_;refine bS ([(Av.mk 19 c.1 v.1 0 0)]:List Av) NG r r r (by simp) r r r<|?_
              exact B
             ·refine sC (E:=λ(s:Bool) (_g:Unit)=>[(0,.optr 8192 0 0 0),oI 2 d,oM 3 f Lo,oI 9 c.1,oB 119 s]) (O:=λ_ _=>[(8192,dV 0 2 114 (.agg [.sl (b.2.list.map eU8),Nn b.2.at_]))]) (j:=λs=>Ui b f d c s) ?_ ?_
              ·exact B
              ·rintro bc ⟨⟩ nn;dsimp only[Ui];refine cD r ?_ ?_
               ·refine Ab 10 λh bd=>?_
                refine A 17 ?_;refine lP (E:=λ(s:(List Int)×Int×(List Av)×Int) (g:Nat)=>[(0,.optr 8192 0 0 0),oM 3 f Lo,(13,Nn (i64.wrap ((i64.wrap (d+1))+h.1))),oT 14 g s.2.2.1,oI 15 s.2.2.2]) (O:=λs g=>[(14,dW g 5 90 (s.2.2.1.map NG)),(8192,dV 0 2 114 (.agg [.sl (s.1.map eU8),Nn s.2.1]))]) _ hX<|?_
                rintro⟨bf,bg,bh,x⟩ bi nn;dsimp only[Zb];refine Ab 6 λbj bk=>?_
                refine Ac 5 ?_ ?_
                ·refine Ab 7 λbl bm=>?_
                 refine Ac 4 ?_ ?_
                 ·refine Ab 4 λz bn=>?_
                  refine A 2 ?_;refine bS ([(Av.mk 18 x z.1 0 0)]:List Av) NG r r r (by simp) r r r<|?_
                  exact B
                 ·exact B
                ·refine A 10 ?_;refine bS ([(Av.mk 22 (i64.wrap ((i64.wrap (d+1))+h.1)) 0 0 0)]:List Av) NG r r r (by simp) r r r<|?_
                 exact B
               ·exact B
 ·rintro⟨⟩ ⟨⟩ nn;dsimp only[Zc];refine A 4 ?_;refine bS ([(Av.mk 14 c.1 0 0 0)]:List Av) NG r r r (by simp) r r r<|?_
  exact B

abbrev AfD:=en4 Om Lo (eL Lo) Lo
abbrev AfC:=de4 Rn uI (uL uI) uI
def Abc (b:Nm×Mk):D:=Nz b.1
def Ahn (b:Nm×Mk):List D:=[Om b.2]
theorem AgN:Ns Tryz.prog 73 (NU [(0,(2,114))] .val AfD AfC (λa=>VJ a.1 a.2.1 a.2.2.1 a.2.2.2) Abc Ahn):=by
 refine fn2 4 (nK 131 Ajn<|nK 22 OB<|nK 132 AjR<|nK 48 Za<|Np) Tryz.func73<|?_;rintro⟨c1,q,t,x⟩;unfold VJ;refine Ab 9 λd ai=>?_
 refine Ab 3 λh aj=>?_
 refine A 18 ?_;refine lP (E:=λ(s:(List Int)×Int×(List Av)×Int) (g:Nat×Nat×Nat×Nat)=>[(0,.optr 8192 0 0 0),oI 1 q,oM 2 t Lo,oI 3 x,oP 8 g.1,oP 9 g.2.1,oT 10 g.2.2.1 s.2.2.1,oI 11 s.2.2.2]) (O:=λs g=>[(8,dV g.1 3 36 (.agg [Nn 0,.nils,.nils])),(9,dV g.2.1 3 36 (.agg [Nn d,.osl 21 g.2.2.2 0 h.1.length,.nils])),(10,dW g.2.2.1 5 90 (s.2.2.1.map NG)),(21,dW g.2.2.2 2 87 (h.1.map Oo)),(8192,dV 0 2 114 (.agg [.sl (s.1.map eU8),Nn s.2.1]))]) (_,_,_,_) hX<|?_
 rintro⟨c7,c8,ap,z⟩ ⟨aq,ar,au,av⟩ nn;dsimp only[Aao];refine Ac 10 ?_ ?_
 ·refine Ab 7 λaw ax=>?_
  refine Ac 4 ?_ ?_
  ·refine Ab 4 λaa ay=>?_
   refine A 2 ?_;refine bS ([(Av.mk 16 z aa.1 0 0)]:List Av) NG r r r (by simp) r r r<|?_
   exact B
  ·exact B
 ·refine Ab 11 λaz ba=>?_
  refine A 5 ?_;refine lP (E:=λ(s:(List Int)×Int×(List Av)×(List NA)×Int) (g:Nat×Nat×Nat)=>[(0,.optr 8192 0 0 0),oI 1 q,oM 2 t Lo,oP 8 g.1,oP 9 g.2.1,oT 10 g.2.2 s.2.2.1,oI 12 s.2.2.2.2]) (O:=λs g=>[(8,dV g.1 3 36 (.agg [Nn 0,.nils,.nils])),(9,dV g.2.1 3 36 (.agg [Nn d,.sl (s.2.2.2.1.map Oo),.nils])),(10,dW g.2.2 5 90 (s.2.2.1.map NG)),(8192,dV 0 2 114 (.agg [.sl (s.1.map eU8),Nn s.2.1]))]) (_,_,_) ((WI [(21,some (_,⟨true,false,2,87,h.1.map Oo⟩))] ⟨⟨_,_,r,r,r⟩,trivial⟩ ⟨(Og r),(Og r),(Og r),(Og r),(Og r),(Og r),(Og r),trivial⟩ ⟨(.inl r),(.inr ⟨_,_,_,_,r,r,r,r,Vu r ⟨(Ou r),(Wg (l:=h.1) (en:=Oo) r r r (by first|(simp;done)|rfl|(simp;rfl))),(Ou r),trivial⟩⟩),(.inl r),(.inl r),trivial⟩))<|?_
  rintro⟨bb,bc,i,e,bd⟩ ⟨bf,bg,bh⟩ nn;dsimp only[Aap];refine Ac 7 ?_ ?_
  ·refine Ab 11 λbi bj=>?_
   refine Ab 8 λbk bl=>?_
   refine Ac 10 ?_ ?_
   ·refine Ab 3 λab bm=>?_
    refine A 2 ?_;refine bS ([(Av.mk 21 ab.1 (-1) 0 0)]:List Av) NG r r r (by simp) r r r<|?_
    exact B
   ·refine Ac 6 ?_ ?_
    ·refine Ab 3 λbn bo=>?_
     refine Ac 4 ?_ ?_
     ·refine A 3 ?_;refine bS ([(Av.mk 20 (-1) 0 0 0)]:List Av) NG r r r (by simp) r r r<|?_
      exact B
     ·exact B
    ·exact B
  ·refine A 12 ?_;refine sC (E:=λ(_s:(List Int)×Int×Int×Int) (g:Nat×Nat×Nat×Nat)=>[(0,.optr 8192 0 0 0),oP 8 g.1,oP 9 g.2.1,oT 10 g.2.2.1 i,oP 13 g.2.2.2]) (O:=λs g=>[(8,dV g.1 3 36 (.agg [Nn 0,.nils,.nils])),(9,dV g.2.1 3 36 (.agg [Nn d,.sl (e.map Oo),.nils])),(10,dW g.2.2.1 5 90 (i.map NG)),(13,dV g.2.2.2 5 90 (.agg [Nn s.2.2.1,Nn 0,Nn 0,Nn 0,AnK s.2.2.2])),(8192,dV 0 2 114 (.agg [.sl (s.1.map eU8),Nn s.2.1]))]) (j:=λs=>Rj i d e s.1 s.2.1 s.2.2.1 s.2.2.2) ?_ ?_
   ·exact B
   ·rintro⟨bp,bq,u,v⟩ ⟨br,bs,bt,bu⟩ nn;dsimp only[Rj];refine A 4 ?_;refine bS ([(Av.mk u 0 0 0 v)]:List Av) NG r r r (by simp) r r r<|cK λhq=>aP (i) (([(Av.mk u 0 0 0 v)]:List Av)) NG r r r r r r r (by simp) (YP _ _ r) r r (by simp) (Wd _ _ r) (λ_=>r) r hq<|?_
    refine A 10 ?_;refine lP (E:=λ(s:(List Int)×Int×(List Av)×Int) (g:Nat×Nat×Nat)=>[(0,.optr 8192 0 0 0),oP 8 g.1,oP 9 g.2.1,oT 10 g.2.2 s.2.2.1,oI 14 s.2.2.2]) (O:=λs g=>[(8,dV g.1 3 36 (.agg [Nn 0,.nils,.nils])),(9,dV g.2.1 3 36 (.agg [Nn d,.sl (e.map Oo),.nils])),(10,dW g.2.2 5 90 (s.2.2.1.map NG)),(8192,dV 0 2 114 (.agg [.sl (s.1.map eU8),Nn s.2.1]))]) (_,_,_) hX<|?_
    rintro⟨ac,ad,c,k⟩ ⟨bv,bw,bx⟩ nn;dsimp only[WG];refine Ac 9 ?_ ?_
    ·refine Ab 8 λf bz=>?_
     refine A 6 ?_;refine sC (E:=λ(s:Int) (g:Nat×Nat×Nat)=>[(0,.optr 8192 0 0 0),oP 8 g.1,oP 9 g.2.1,oT 10 g.2.2 c,oI 14 k,oI 15 s]) (O:=λ_ g=>[(8,dV g.1 3 36 (.agg [Nn 0,.nils,.nils])),(9,dV g.2.1 3 36 (.agg [Nn d,.sl (e.map Oo),.nils])),(10,dW g.2.2 5 90 (c.map NG)),(8192,dV 0 2 114 (.agg [.sl (f.2.list.map eU8),Nn f.2.at_]))]) (j:=λs=>PY k c f s) ?_ ?_
     ·exact B
     ·rintro m ⟨ca,cb,cc⟩ nn;dsimp only[PY];refine A 1 ?_;refine sC (E:=λ(s:Bool) (g:Nat×Nat×Nat)=>[(0,.optr 8192 0 0 0),oP 8 g.1,oP 9 g.2.1,oT 10 g.2.2 c,oI 14 k,oI 15 m,oB 107 s]) (O:=λ_ g=>[(8,dV g.1 3 36 (.agg [Nn 0,.nils,.nils])),(9,dV g.2.1 3 36 (.agg [Nn d,.sl (e.map Oo),.nils])),(10,dW g.2.2 5 90 (c.map NG)),(8192,dV 0 2 114 (.agg [.sl (f.2.list.map eU8),Nn f.2.at_]))]) (j:=λs=>Sh k c f m s) ?_ ?_
      ·refine Ab 5 λcd ce=>?_
       refine A 3 ?_;refine RL r ?_ ?_
       ·refine Ab 4 λae cf=>?_
        refine A 5 ?_;exact xC (s:=(decide (ae.A<0))) (_,_,_) hX
       ·refine A 9 ?_;exact xC (s:=false) (_,_,_) hX
      ·rintro ch ⟨ci,cj,ck⟩ nn;dsimp only[Sh];refine cD r ?_ ?_
       ·refine A 6 ?_;refine bD λo af=>sE (l:=c) (en:=NG) (q':=(Av.mk o.Op m o.B o.C o.Imm)) r r r r r r r (by simp) af r r r r r<|?_
        exact B
       ·refine Ab 6 λcl cm=>?_
        refine A 3 ?_;refine RL r ?_ ?_
        ·refine Ab 4 λcn co=>?_
         refine Ac 6 ?_ ?_
         ·refine A 6 ?_;refine bD λp ag=>sE (l:=c) (en:=NG) (q':=(Av.mk p.Op p.A m p.C p.Imm)) r r r r r r r (by simp) ag r r r r r<|?_
          exact B
         ·exact B
        ·exact B
    ·refine A 19 ?_;refine TN (b:=((Nm.mk d e c),(Mk.mk ac ad))) r ?_ r r ?_ (by first|rfl|(simp only[Nv];rfl)|(simp only[Ny];rfl)|(simp only[Nv,Ny];rfl)|(simp[Abc,Nz];try rfl))
     all_goals first|(simp;done)|(simp;omega)|rfl|(simp[OQ,OJ];done)|(simp[cells];done)

theorem Amz:Ns Tryz.prog 84 (fS .val Aac (λa=>AaI a.1 a.2.1 a.2.2) Ws):=by
 refine fn2 3 (Np) Tryz.func84<|?_;rintro⟨c,e,d⟩;unfold AaI;refine A 11 ?_;refine cK λhq=>aP (([]:List Nm)) (c.Funcs) Nz r r r r r r r (by simp) r r r (by simp) r (λ_=>r) r hq<|?_
 refine A 8 ?_;refine cK λhq=>iO (l:=([]:List Nm)++c.Funcs) (en:=Nz) r r r r r hq<|bD λg f=>sE (l:=([]:List Nm)++c.Funcs) (en:=Nz) (q':=d) r r r r r r r (by simp) f r r r r r<|?_
 refine A 10 ?_;refine TN (b:=(Nq.mk ((([]:List Nm)++c.Funcs).set e.toNat d))) r ?_ r r ?_ (by first|rfl|(simp only;rfl)|(simp only;rfl)|(simp only;rfl)|(simp[Ws,Pz];try rfl))
 all_goals first|(simp;done)|(simp;omega)|rfl|(simp[OQ,OJ];done)|(simp[cells];done)

theorem AdX:Ns Tryz.prog 35 (fS .val Aac (λa=>XZ a.1 a.2.1 a.2.2) Ws):=by
 refine fn2 3 (nK 84 Amz<|Np) Tryz.func35<|?_;intro a;unfold XZ;exact B

def Amd (b:Int×Mk):List D:=[Om b.2]
theorem WY:Ns Tryz.prog 47 (NU [(0,(2,114))] .val VH VG (λa=>Px a) Aaa Amd):=by
 refine fn2 1 (nK 22 OB<|Np) Tryz.func47<|?_;intro b;unfold Px;refine Ab 8 λc d=>?_
 refine Ac 11 ?_ ?_
 ·refine A 2 ?_;refine bS ([9223372036854775807,(-9223372036854775808),2147483648,2147483647,(-1),16777216,33554432,1048577,512,80]:List Int) Lo r r r (by simp) r r r<|?_
  exact B
 ·exact B

end
end Go.Proofs.YtcaoepecbgggcaaGreatDoor
