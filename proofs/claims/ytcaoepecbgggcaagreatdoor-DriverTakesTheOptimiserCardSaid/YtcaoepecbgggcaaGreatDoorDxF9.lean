/-
 The code does what its typed programs say.
-/
import Derived.Test.YtcaoepecbgggcaaGreatDoorDxP
namespace Go.Proofs.YtcaoepecbgggcaaGreatDoor
open Go Go.Dw Go.Proofs
set_option maxRecDepth 100000
set_option maxHeartbeats 40000000
open Go.Dw renaming ON -> bD,Qa -> cK,PL -> cD,Pn -> xL,Qb -> lP,Acl -> mF,rf -> r
def ZO (a:Ob):List D:=[Td a]
def ZN (ds:List D):Ob:=VU (ds.getD 0 .top)
instance:Od ZO ZN:=⟨λa=>by simp[ZN,ZO]⟩
def AmL (b:Ob):D:=.clo 258 [.fptr (Td b) 0]
noncomputable def AmM:Dw.Spec:=NO [] .val ZO ZN (λa=>Aai a) AmL noE
theorem Ama:NK Tryz.prog 214 AmM:=by
 refine fn2 1 (NG) Tryz.func214<|?_;intro a;unfold Aai;refine A 5 ?_;refine Qq (E:=[(1,.fptr (.agg [.sl (a.Out.map (eL NF))]) 0)]) (O:=[]) ((hV 1 r (hY))) λnn=>?_
 refine A 2 ?_;refine mF (caps:=[.fptr (.agg [.sl (a.Out.map (eL NF))]) 0]) r r (by simp[SO])<|?_
 exact B

def Wx (a:Int×Int):List D:=[Akn a.1,Akn a.2]
def Ww (ds:List D):Int×Int:=(uI (ds.getD 0 .top),uI (ds.getD 1 .top))
instance:Od Wx Ww:=⟨λa=>by simp[Ww,Wx,uI]⟩
def AfU (b:Int):D:=Akn b
noncomputable def Amw:Dw.Spec:=NO [] .ground Wx Ww (λa=>XK a.1 a.2) AfU noE
theorem AlC:NK Tryz.prog 260 Amw:=by
 refine fn2 2 (NG) Tryz.func260<|?_;intro a;unfold XK;exact B

def SX (a:NH×NH):List D:=[NZ a.1,NZ a.2,.clo 260 []]
def SW (ds:List D):NH×NH:=(PW (ds.getD 0 .top),PW (ds.getD 1 .top))
instance:Od SX SW:=⟨λa=>by simp[SW,SX]⟩
def Xw (b:NH×NH×NH):D:=NZ b.1
def Adm (b:NH×NH×NH):List D:=[NZ b.2.1,NZ b.2.2]
noncomputable def Xx:Dw.Spec:=NO [(0,(8,255)),(1,(8,255))] (.ptr 8 255) SX SW (λa=>Sb a.1 a.2) Xw Adm
theorem Acx:NK Tryz.prog 259 Xx:=by
 refine fn2 3 (nK 260 AlC<|NG) Tryz.func259<|?_;rintro⟨d,e⟩;unfold Sb;refine A 19 ?_;refine lP (E:=λ(s:NH×Int) (g:Nat)=>[(0,.optr 8192 0 0 0),(1,.optr 8193 1 0 0),(2,.clo 260 []),(7,.optr 10 g 0 0),(11,Av s.2)]) (O:=λs g=>[(10,dV g 8 255 (NZ s.1)),(8192,dV 0 8 255 (NZ d)),(8193,dV 1 8 255 (NZ e))]) _ hX<|?_
 rintro⟨b,a⟩ p nn;dsimp only[Rz];refine Ac 6 ?_ ?_
 ·refine A 17 ?_;refine cK λhq=>QD r r r hq<|bD λf h=>Qy (q:=f) (l:=d.toList) (en:=ZF) (j:=a.toNat) (by simp) r r r h r (λ_=>r)<|?_
  refine A 3 ?_;refine cK λhq=>QD r r r hq<|bD λi k=>Qy (q:=i) (l:=e.toList) (en:=ZF) (j:=a.toNat) (by simp) r r r k r (λ_=>r)<|bD λc t=>?_
  refine A 2 ?_;refine cK λhq=>QD r r r hq<|bD λm o=>Ajy (q:=m) (q':=c) (l:=b.toList) (en:=ZF) (j:=a.toNat) (z':=NZ (b.set a.toNat c)) (by simp) r r r r r o r r (congrArg (λl=>D.agg (l.map ZF)) (RR b a.toNat c).symm)<|?_
  exact B
 ·exact B

noncomputable def Amu:Dw.Spec:=NO [] .ground Wx Ww (λa=>XJ a.1 a.2) AfU noE
theorem AlB:NK Tryz.prog 261 Amu:=by
 refine fn2 2 (NG) Tryz.func261<|?_;intro a;unfold XJ;exact B

def SV (a:NH×NH):List D:=[NZ a.1,NZ a.2,.clo 261 []]
def SU (ds:List D):NH×NH:=(PW (ds.getD 0 .top),PW (ds.getD 1 .top))
instance:Od SV SU:=⟨λa=>by simp[SU,SV]⟩
def Adl (b:NH×NH×NH):List D:=[NZ b.2.1,NZ b.2.2]
noncomputable def Xv:Dw.Spec:=NO [(0,(8,255)),(1,(8,255))] (.ptr 8 255) SV SU (λa=>Sa a.1 a.2) Xw Adl
theorem Acw:NK Tryz.prog 259 Xv:=by
 refine fn2 3 (nK 261 AlB<|NG) Tryz.func259<|?_;rintro⟨d,e⟩;unfold Sa;refine A 19 ?_;refine lP (E:=λ(s:NH×Int) (g:Nat)=>[(0,.optr 8192 0 0 0),(1,.optr 8193 1 0 0),(2,.clo 261 []),(7,.optr 10 g 0 0),(11,Av s.2)]) (O:=λs g=>[(10,dV g 8 255 (NZ s.1)),(8192,dV 0 8 255 (NZ d)),(8193,dV 1 8 255 (NZ e))]) _ hX<|?_
 rintro⟨b,a⟩ p nn;dsimp only[Ry];refine Ac 6 ?_ ?_
 ·refine A 17 ?_;refine cK λhq=>QD r r r hq<|bD λf h=>Qy (q:=f) (l:=d.toList) (en:=ZF) (j:=a.toNat) (by simp) r r r h r (λ_=>r)<|?_
  refine A 3 ?_;refine cK λhq=>QD r r r hq<|bD λi k=>Qy (q:=i) (l:=e.toList) (en:=ZF) (j:=a.toNat) (by simp) r r r k r (λ_=>r)<|bD λc t=>?_
  refine A 2 ?_;refine cK λhq=>QD r r r hq<|bD λm o=>Ajy (q:=m) (q':=c) (l:=b.toList) (en:=ZF) (j:=a.toNat) (z':=NZ (b.set a.toNat c)) (by simp) r r r r r o r r (congrArg (λl=>D.agg (l.map ZF)) (RR b a.toNat c).symm)<|?_
  exact B
 ·exact B

def Aal (a:OG×Mk):List D:=[OQ a.1,NY a.2]
def Aak (ds:List D):OG×Mk:=(AgE (ds.getD 0 .top),SR (ds.getD 1 .top))
instance:Od Aal Aak:=⟨λa=>by simp[Aak,Aal]⟩
def AkW (b:NU×Bool):D:=.tup [PX b.1,.bool b.2]
noncomputable def ArA:Dw.Spec:=NO [] .val Aal Aak (λa=>Rh a.1 a.2) AkW noE
theorem ApU:NK Tryz.prog 273 ArA:=by
 refine fn2 2 (NG) Tryz.func273<|?_;intro a;unfold Rh;exact B

noncomputable def ApV:Dw.Spec:=NO [] .val Aal Aak (λa=>Qz a.1 a.2) AkW noE
theorem AoK:NK Tryz.prog 274 ApV:=by
 refine fn2 2 (NG) Tryz.func274<|?_;intro a;unfold Qz;exact B

end Go.Proofs.YtcaoepecbgggcaaGreatDoor
