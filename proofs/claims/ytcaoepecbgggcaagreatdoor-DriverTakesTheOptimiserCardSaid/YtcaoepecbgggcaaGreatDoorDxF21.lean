/-
 The code does what its typed programs say.
-/
import Derived.Test.YtcaoepecbgggcaaGreatDoorSh
import Derived.Test.YtcaoepecbgggcaaGreatDoorCl
import Derived.Test.YtcaoepecbgggcaaGreatDoorDxF20
namespace Go.Proofs.YtcaoepecbgggcaaGreatDoor
open Go Go.Dw Go.Proofs
set_option maxRecDepth 100000
set_option maxHeartbeats 40000000
open Go.Dw renaming ON -> bD,Qa -> cK,Ts -> bS,Alu -> aP,YU -> sE,Aeq -> iO,PL -> cD,QZ -> xC,Pn -> xL,Qb -> lP,PI -> sC,rf -> r
noncomputable section
def Aue:Pc:=(Tryz.f157.body.bind (Pv Tryz.prog Tryz.f157.ntmps)).getD .skip
theorem AxG:(Tryz.f157.body.bind (Pv Tryz.prog Tryz.f157.ntmps))=some Aue:=by kernel_rfl
theorem AxH:Tryz.f157.results.toList.mapM (UZ Tryz.prog)=some [(.t 6)]:=by kernel_rfl

def UT (a:NM×Int×Lo):List D:=[Rc a.1,Av a.2.1,NR a.2.2]
def US (ds:List D):NM×Int×Lo:=(Tt (ds.getD 0 .top),uI (ds.getD 1 .top),RD (ds.getD 2 .top))
instance:Od UT US:=⟨λa=>by simp[US,UT,uI]⟩
def WO (b:NM):D:=Rc b
def Ahh:Dw.Spec:=NO [] .val UT US (λa=>Ty a.1 a.2.1 a.2.2) WO noE
theorem Agg:NK Tryz.prog 43 Ahh:=by
 refine fn2 3 (nK 103 AuS<|NG) Tryz.func43<|?_;rintro⟨f,d,c⟩;unfold Ty;refine Ab 11 λa g=>?_
 refine A 12 ?_;refine cK λhq=>iO (l:=a) (en:=NR) r r r r r hq<|bD λh e=>sE (l:=a) (en:=NR) (q':=c) r r r r r r r (by simp) e r r r r r<|?_
 refine A 9 ?_;refine Aaz (b:=(NM.mk (a.set d.toNat c))) r ?_ r r ?_ (by first|rfl|(simp only;rfl)|(simp only;rfl)|(simp only;rfl)|(simp[WO,Rc];try rfl))
 all_goals first|(simp;done)|(simp;omega)|rfl|(simp[Pd,OU];done)|(simp[cells];done)

def AeX:Pc:=(Tryz.f51.body.bind (Pv Tryz.prog Tryz.f51.ntmps)).getD .skip
theorem Ako:(Tryz.f51.body.bind (Pv Tryz.prog Tryz.f51.ntmps))=some AeX:=by kernel_rfl
theorem Akp:Tryz.f51.results.toList.mapM (UZ Tryz.prog)=some []:=by kernel_rfl

def Aws:Pc:=(Tryz.f52.body.bind (Pv Tryz.prog Tryz.f52.ntmps)).getD .skip
theorem Ayz:(Tryz.f52.body.bind (Pv Tryz.prog Tryz.f52.ntmps))=some Aws:=by kernel_rfl
theorem AyA:Tryz.f52.results.toList.mapM (UZ Tryz.prog)=some [(.t 2)]:=by kernel_rfl

def Awt:Pc:=(Tryz.f53.body.bind (Pv Tryz.prog Tryz.f53.ntmps)).getD .skip
theorem AyB:(Tryz.f53.body.bind (Pv Tryz.prog Tryz.f53.ntmps))=some Awt:=by kernel_rfl
theorem AyC:Tryz.f53.results.toList.mapM (UZ Tryz.prog)=some [(.t 2)]:=by kernel_rfl

def Awu:Pc:=(Tryz.f54.body.bind (Pv Tryz.prog Tryz.f54.ntmps)).getD .skip
theorem AyD:(Tryz.f54.body.bind (Pv Tryz.prog Tryz.f54.ntmps))=some Awu:=by kernel_rfl
theorem AyE:Tryz.f54.results.toList.mapM (UZ Tryz.prog)=some [(.t 2)]:=by kernel_rfl

def Auf:Pc:=(Tryz.f55.body.bind (Pv Tryz.prog Tryz.f55.ntmps)).getD .skip
theorem AyF:(Tryz.f55.body.bind (Pv Tryz.prog Tryz.f55.ntmps))=some Auf:=by kernel_rfl
theorem AyG:Tryz.f55.results.toList.mapM (UZ Tryz.prog)=some [(.t 3)]:=by kernel_rfl

def Aug:Pc:=(Tryz.f56.body.bind (Pv Tryz.prog Tryz.f56.ntmps)).getD .skip
theorem AyH:(Tryz.f56.body.bind (Pv Tryz.prog Tryz.f56.ntmps))=some Aug:=by kernel_rfl
theorem AyI:Tryz.f56.results.toList.mapM (UZ Tryz.prog)=some [(.t 6)]:=by kernel_rfl

def Awv:Pc:=(Tryz.f57.body.bind (Pv Tryz.prog Tryz.f57.ntmps)).getD .skip
theorem AyJ:(Tryz.f57.body.bind (Pv Tryz.prog Tryz.f57.ntmps))=some Awv:=by kernel_rfl
theorem AyK:Tryz.f57.results.toList.mapM (UZ Tryz.prog)=some [(.t 2)]:=by kernel_rfl

def Ayy:Pc:=(Tryz.f50.body.bind (Pv Tryz.prog Tryz.f50.ntmps)).getD .skip
theorem AzO:(Tryz.f50.body.bind (Pv Tryz.prog Tryz.f50.ntmps))=some Ayy:=by kernel_rfl
theorem AzP:Tryz.f50.results.toList.mapM (UZ Tryz.prog)=some []:=by kernel_rfl

def Agb (a:(List Int)×Int):List D:=[.sl (a.1.map eU8),Av a.2]
def Aga (ds:List D):(List Int)×Int:=((uL uI) (ds.getD 0 .top),uI (ds.getD 1 .top))
instance:Od Agb Aga:=⟨λa=>by simp[Aga,Agb,uI,OE (u:=uI) (en:=eU8) (λ_=>rfl)]⟩
def Aui (b:NL):D:=PV b
def Auj:Dw.Spec:=NO [] (.ptr 2 114) Agb Aga (λa=>AfZ a.1 a.2) Aui noE
theorem AsI:NK Tryz.prog 29 Auj:=by
 refine fn2 2 (NG) Tryz.func29<|?_;intro a;unfold AfZ;exact B

def VY (a:NL×Int×(List Int)×Int):List D:=[PV a.1,Av a.2.1,.sl (a.2.2.1.map NF),Av a.2.2.2]
def VX (ds:List D):NL×Int×(List Int)×Int:=(Vs (ds.getD 0 .top),uI (ds.getD 1 .top),(uL uI) (ds.getD 2 .top),uI (ds.getD 3 .top))
instance:Od VY VX:=⟨λa=>by simp[VX,VY,uI,OE (u:=uI) (en:=NF) (λ_=>rfl)]⟩
def Acf (b:Lo×NL):D:=NR b.1
def Aih (b:Lo×NL):List D:=[PV b.2]
def Aii:Dw.Spec:=NO [(0,(2,114))] .val VY VX (λa=>VR a.1 a.2.1 a.2.2.1 a.2.2.2) Acf Aih
theorem Ahy:NK Tryz.prog 73 Aii:=by
 refine fn2 4 (nK 131 AjU<|nK 22 RF<|nK 132 Akv<|nK 48 Aey<|NG) Tryz.func73<|?_;rintro⟨c1,p,q,v⟩;unfold VR;refine Ab 9 λc ah=>?_
 refine Ab 3 λf ai=>?_
 refine A 18 ?_;refine lP (E:=λ(s:(List Int)×Int×(List Mk)×Int) (g:Nat×Nat×Nat×Nat)=>[(0,.optr 8192 0 0 0),(1,Av p),(2,.sl (q.map NF)),(3,Av v),(8,.optr 8 g.1 0 0),(9,.optr 9 g.2.1 0 0),(10,.osl 10 g.2.2.1 0 s.2.2.1.length),(11,Av s.2.2.2)]) (O:=λs g=>[(8,dV g.1 3 36 (.agg [Av 0,.nils,.nils])),(9,dV g.2.1 3 36 (.agg [Av c,.osl 21 g.2.2.2 0 f.1.length,.nils])),(10,dW g.2.2.1 5 90 (s.2.2.1.map NY)),(21,dW g.2.2.2 2 87 (f.1.map OH)),(8192,dV 0 2 114 (.agg [.sl (s.1.map eU8),Av s.2.1]))]) (_,_,_,_) hX<|?_
 rintro⟨c7,c8,ao,x⟩ ⟨ap,aq,ar,au⟩ nn;dsimp only[Abd];refine Ac 10 ?_ ?_
 ·refine Ab 7 λav aw=>?_
  refine Ac 4 ?_ ?_
  ·refine Ab 4 λz ax=>?_
   refine A 2 ?_;refine bS ([(Mk.mk 16 x z.1 0 0)]:List Mk) NY r r r (by simp) r r r<|?_
   exact B
  ·exact B
 ·refine Ab 11 λay az=>?_
  refine A 5 ?_;refine lP (E:=λ(s:(List Int)×Int×(List Mk)×(List NS)×Int) (g:Nat×Nat×Nat)=>[(0,.optr 8192 0 0 0),(1,Av p),(2,.sl (q.map NF)),(8,.optr 8 g.1 0 0),(9,.optr 9 g.2.1 0 0),(10,.osl 10 g.2.2 0 s.2.2.1.length),(12,Av s.2.2.2.2)]) (O:=λs g=>[(8,dV g.1 3 36 (.agg [Av 0,.nils,.nils])),(9,dV g.2.1 3 36 (.agg [Av c,.sl (s.2.2.2.1.map OH),.nils])),(10,dW g.2.2 5 90 (s.2.2.1.map NY)),(8192,dV 0 2 114 (.agg [.sl (s.1.map eU8),Av s.2.1]))]) (_,_,_) ((Xr [(21,some (_,⟨true,false,2,87,f.1.map OH⟩))] ⟨⟨_,_,r,r,r⟩,trivial⟩ ⟨(Om r),(Om r),(Om r),(Om r),(Om r),(Om r),(Om r),trivial⟩ ⟨(.inl r),(.inr ⟨_,_,_,_,r,r,r,r,Vz r ⟨(OB r),(WC (l:=f.1) (en:=OH) r r r (by first|(simp;done)|rfl|(simp;rfl))),(OB r),trivial⟩⟩),(.inl r),(.inl r),trivial⟩))<|?_
  rintro⟨ba,bb,h,d,bc⟩ ⟨bd,bf,bg⟩ nn;dsimp only[Abe];refine Ac 7 ?_ ?_
  ·refine Ab 11 λbh bi=>?_
   refine Ab 8 λbj bk=>?_
   refine Ac 10 ?_ ?_
   ·refine Ab 3 λaa bl=>?_
    refine A 2 ?_;refine bS ([(Mk.mk 21 aa.1 (-1) 0 0)]:List Mk) NY r r r (by simp) r r r<|?_
    exact B
   ·refine Ac 6 ?_ ?_
    ·refine Ab 3 λbm bn=>?_
     refine Ac 4 ?_ ?_
     ·refine A 3 ?_;refine bS ([(Mk.mk 20 (-1) 0 0 0)]:List Mk) NY r r r (by simp) r r r<|?_
      exact B
     ·exact B
    ·exact B
  ·refine A 12 ?_;refine sC (E:=λ(_s:(List Int)×Int×Int×Int) (g:Nat×Nat×Nat×Nat)=>[(0,.optr 8192 0 0 0),(8,.optr 8 g.1 0 0),(9,.optr 9 g.2.1 0 0),(10,.osl 10 g.2.2.1 0 h.length),(13,.optr 13 g.2.2.2 0 0)]) (O:=λs g=>[(8,dV g.1 3 36 (.agg [Av 0,.nils,.nils])),(9,dV g.2.1 3 36 (.agg [Av c,.sl (d.map OH),.nils])),(10,dW g.2.2.1 5 90 (h.map NY)),(13,dV g.2.2.2 5 90 (.agg [Av s.2.2.1,Av 0,Av 0,Av 0,Akn s.2.2.2])),(8192,dV 0 2 114 (.agg [.sl (s.1.map eU8),Av s.2.1]))]) (j:=λs=>Rn h c d s.1 s.2.1 s.2.2.1 s.2.2.2) ?_ ?_
   ·exact B
   ·rintro⟨bo,bp,t,u⟩ ⟨bq,br,bs,bt⟩ nn;dsimp only[Rn];refine A 4 ?_;refine bS ([(Mk.mk t 0 0 0 u)]:List Mk) NY r r r (by simp) r r r<|cK λhq=>aP (h) (([(Mk.mk t 0 0 0 u)]:List Mk)) NY r r r r r r r (by simp) (Zt _ _ r) r r (by simp) (Ws _ _ r) (λ_=>r) r hq<|?_
    refine A 10 ?_;refine lP (E:=λ(s:(List Int)×Int×(List Mk)×Int) (g:Nat×Nat×Nat)=>[(0,.optr 8192 0 0 0),(8,.optr 8 g.1 0 0),(9,.optr 9 g.2.1 0 0),(10,.osl 10 g.2.2 0 s.2.2.1.length),(14,Av s.2.2.2)]) (O:=λs g=>[(8,dV g.1 3 36 (.agg [Av 0,.nils,.nils])),(9,dV g.2.1 3 36 (.agg [Av c,.sl (d.map OH),.nils])),(10,dW g.2.2 5 90 (s.2.2.1.map NY)),(8192,dV 0 2 114 (.agg [.sl (s.1.map eU8),Av s.2.1]))]) (_,_,_) hX<|?_
    rintro⟨ab,ac,a,i⟩ ⟨bu,bv,bw⟩ nn;dsimp only[Xp];refine Ac 9 ?_ ?_
    ·refine Ab 8 λe bx=>?_
     refine A 6 ?_;refine sC (E:=λ(s:Int) (g:Nat×Nat×Nat)=>[(0,.optr 8192 0 0 0),(8,.optr 8 g.1 0 0),(9,.optr 9 g.2.1 0 0),(10,.osl 10 g.2.2 0 a.length),(14,Av i),(15,Av s)]) (O:=λ_ g=>[(8,dV g.1 3 36 (.agg [Av 0,.nils,.nils])),(9,dV g.2.1 3 36 (.agg [Av c,.sl (d.map OH),.nils])),(10,dW g.2.2 5 90 (a.map NY)),(8192,dV 0 2 114 (.agg [.sl (e.2.list.map eU8),Av e.2.at_]))]) (j:=λs=>Qg i a e s) ?_ ?_
     ·exact B
     ·rintro k ⟨bz,ca,cb⟩ nn;dsimp only[Qg];refine A 1 ?_;refine sC (E:=λ(s:Bool) (g:Nat×Nat×Nat)=>[(0,.optr 8192 0 0 0),(8,.optr 8 g.1 0 0),(9,.optr 9 g.2.1 0 0),(10,.osl 10 g.2.2 0 a.length),(14,Av i),(15,Av k),(107,.bool s)]) (O:=λ_ g=>[(8,dV g.1 3 36 (.agg [Av 0,.nils,.nils])),(9,dV g.2.1 3 36 (.agg [Av c,.sl (d.map OH),.nils])),(10,dW g.2.2 5 90 (a.map NY)),(8192,dV 0 2 114 (.agg [.sl (e.2.list.map eU8),Av e.2.at_]))]) (j:=λs=>Sp i a e k s) ?_ ?_
      ·refine Ab 5 λcc cd=>?_
       refine A 3 ?_;refine RS r ?_ ?_
       ·refine Ab 4 λad ce=>?_
        refine A 5 ?_;exact xC (s:=(decide (ad.A<0))) (_,_,_) hX
       ·refine A 9 ?_;exact xC (s:=false) (_,_,_) hX
      ·rintro cf ⟨ch,ci,cj⟩ nn;dsimp only[Sp];refine cD r ?_ ?_
       ·refine A 6 ?_;refine bD λm ae=>sE (l:=a) (en:=NY) (q':=(Mk.mk m.Op k m.B m.C m.Imm)) r r r r r r r (by simp) ae r r r r r<|?_
        exact B
       ·refine Ab 6 λck cl=>?_
        refine A 3 ?_;refine RS r ?_ ?_
        ·refine Ab 4 λcm cn=>?_
         refine Ac 6 ?_ ?_
         ·refine A 6 ?_;refine bD λo af=>sE (l:=a) (en:=NY) (q':=(Mk.mk o.Op o.A k o.C o.Imm)) r r r r r r r (by simp) af r r r r r<|?_
          exact B
         ·exact B
        ·exact B
    ·refine A 19 ?_;refine Aaz (b:=((Lo.mk c d a),(NL.mk ab ac))) r ?_ r r ?_ (by first|rfl|(simp only[NN];rfl)|(simp only[NQ];rfl)|(simp only[NN,NQ];rfl)|(simp[Acf,NR];try rfl))
     all_goals first|(simp;done)|(simp;omega)|rfl|(simp[Pd,OU];done)|(simp[cells];done)

def AnX:Dw.Spec:=NO [] .val UT US (λa=>Abx a.1 a.2.1 a.2.2) WO noE
theorem AmY:NK Tryz.prog 84 AnX:=by
 refine fn2 3 (NG) Tryz.func84<|?_;rintro⟨a,d,c⟩;unfold Abx;refine A 11 ?_;refine cK λhq=>aP (([]:List Lo)) (a.Funcs) NR r r r r r r r (by simp) r r r (by simp) r (λ_=>r) r hq<|?_
 refine A 8 ?_;refine cK λhq=>iO (l:=([]:List Lo)++a.Funcs) (en:=NR) r r r r r hq<|bD λf e=>sE (l:=([]:List Lo)++a.Funcs) (en:=NR) (q':=c) r r r r r r r (by simp) e r r r r r<|?_
 refine A 10 ?_;refine Aaz (b:=(NM.mk ((([]:List Lo)++a.Funcs).set d.toNat c))) r ?_ r r ?_ (by first|rfl|(simp only;rfl)|(simp only;rfl)|(simp only;rfl)|(simp[WO,Rc];try rfl))
 all_goals first|(simp;done)|(simp;omega)|rfl|(simp[Pd,OU];done)|(simp[cells];done)

def ArZ:Dw.Spec:=NO [] .val UT US (λa=>Aay a.1 a.2.1 a.2.2) WO noE
theorem AjM:NK Tryz.prog 35 ArZ:=by
 refine fn2 3 (nK 84 AmY<|NG) Tryz.func35<|?_;intro a;unfold Aay;exact B

end
end Go.Proofs.YtcaoepecbgggcaaGreatDoor
