/-
 The code does what its typed programs say.
-/
import Derived.Test.YtmmchhpdaogopaaGreatDoorSh
import Derived.Test.YtmmchhpdaogopaaGreatDoorDxF2
namespace Go.Proofs.YtmmchhpdaogopaaGreatDoor
open Go Go.Dw Go.Proofs
open Go.IntKind (i64)
set_option maxRecDepth 100000
set_option maxHeartbeats 40000000
open Go.Dw renaming Px -> bD,Qd -> cK,Sp -> bS,QU -> cD,RO -> xC,Qx -> xL,Rq -> lP,Qq -> sC,rf -> r
abbrev Vw:=en1 OX
abbrev Vv:=de1 Rr
def Ajt (b:Bool×Lo):D:=.bool b.1
def Ajs (b:Bool×Lo):List D:=[OX b.2]
theorem Aik:NM Tryz.prog 48 (Ow [(0,(2,103))] .val Vw Vv (λa=>XW a) Ajt Ajs):=by
 refine fn2 1 (NK) Tryz.func48<|?_;intro a;unfold XW;exact B

abbrev Abm:=en2 OX Av
abbrev Abl:=de2 Rr uI
def Zn (b:Int×Lo):D:=Mk b.1
def Ajv (b:Int×Lo):List D:=[OX b.2]
theorem Pp:NM Tryz.prog 19 (Ow [(0,(2,103))] .val Abm Abl (λa=>NR a.1 a.2) Zn Ajv):=by
 refine fn2 2 (nK 48 Aik<|NK) Tryz.func19<|?_;rintro⟨e,b⟩;unfold NR;refine A 5 ?_;refine sC (E:=λ(_s:(List Int)×Int) (_g:Unit)=>[(0,.optr 8192 0 0 0),oI 1 b]) (O:=λs _=>[(8192,dV 0 2 103 (.agg [.sl (s.1.map eU8),Mk s.2]))]) (j:=λs=>VO b s.1 s.2) ?_ ?_
 ·exact B
 ·rintro⟨c,d⟩ ⟨⟩ nn;dsimp only[VO];refine Ab 10 λf g=>?_
  refine A 15 ?_;refine AfC (i:=0) (es':=[.agg [.sl (c.map eU8),Mk (i64.wrap (d+1))]]) r r r r r r r (by first|trivial|(simp;done)|(simp;omega)) r r r r r r<|?_
  exact B

def Ajx (b:Og×Lo):D:=OW b.1
def Ajw (b:Og×Lo):List D:=[OX b.2]
theorem Aim:NM Tryz.prog 24 (Ow [(0,(2,103))] .val Vw Vv (λa=>XX a) Ajx Ajw):=by
 refine fn2 1 (nK 19 Pp<|NK) Tryz.func24<|?_;intro b;unfold XX;refine A 7 ?_;refine bS ([8,4,8,1,2,16,8]:List Int) Av r r r (by simp) r r r<|?_
 refine Ab 1 λc d=>?_
 refine Ab 2 λe f=>?_
 refine A 1 ?_;refine bS ([8,4,1,8,16,2,32,64]:List Int) Av r r r (by simp) r r r<|?_
 exact B

def Aio (b:(List Og)×Lo):D:=.sl (b.1.map OW)
def Ain (b:(List Og)×Lo):List D:=[OX b.2]
theorem AhK:NM Tryz.prog 77 (Ow [(0,(2,103))] (.row 2 75) Abm Abl (λa=>Vl a.1 a.2) Aio Ain):=by
 refine fn2 2 (nK 19 Pp<|nK 24 Aim<|NK) Tryz.func77<|?_;rintro⟨c,d⟩;unfold Vl;refine Ab 16 λe f=>?_
 refine A 5 ?_;refine lP (E:=λ(s:(List Int)×Int×(List Og)×Int) (g:Nat)=>[(0,.optr 8192 0 0 0),oT 5 g s.2.2.1,oI 6 s.2.2.2]) (O:=λs g=>[(5,dW g 2 75 (s.2.2.1.map OW)),(8192,dV 0 2 103 (.agg [.sl (s.1.map eU8),Mk s.2.1]))]) _ hX<|?_
 rintro⟨h,c5,i,j⟩ k nn;dsimp only[Abo];refine Ac 7 ?_ ?_
 ·refine Ab 7 λb l=>?_
  refine A 1 ?_;refine bS ([b.1]:List Og) OW r r r (by simp) r r r<|?_
  exact B
 ·exact B

abbrev AhO:=en3 OX NU Av
abbrev AhN:=de3 Rr RP uI
def AjC (b:Int×Lo):List D:=[OX b.2]
theorem AcC:NM Tryz.prog 133 (Ow [(0,(2,103))] .val AhO AhN (λa=>VS a.1 a.2.1 a.2.2) Zn AjC):=by
 refine fn2 3 (nK 19 Pp<|NK) Tryz.func133<|?_;rintro⟨b,c,d⟩;unfold VS;refine A 18 ?_;refine lP (E:=λ(s:(List Int)×Int) (g:Nat×Nat)=>[(0,.optr 8192 0 0 0),oI 2 d,oP 4 g.1,oT 7 g.2 s.1,oI 8 s.2]) (O:=λs g=>[(4,dV g.1 3 57 (NU c)),(7,dW g.2 1 3 (s.1.map Av)),(8192,dV 0 2 103 (.agg [.sl (b.list.map eU8),Mk b.at_]))]) (_,_) hX<|?_
 rintro⟨e,k5⟩ ⟨f,h⟩ nn;dsimp only[AcB];exact B

def Ajz (b:Int×Lo):D:=Aqz b.1
def Ajy (b:Int×Lo):List D:=[OX b.2]
theorem AcA:NM Tryz.prog 23 (Ow [(0,(2,103))] .val Vw Vv (λa=>VQ a) Ajz Ajy):=by
 refine fn2 1 (nK 19 Pp<|NK) Tryz.func23<|?_;intro a;unfold VQ;exact B

abbrev AkC:=en1 XM
abbrev AtL:=de1 Aas
theorem AlC:NM Tryz.prog 122 (fS (.row 1 3) AkC (λa=>Aba a) PN):=by
 refine fn2 1 (NK) Tryz.func122<|?_;intro b;unfold Aba;refine A 23 ?_;refine lP (E:=λ(s:(List Int)×Int×Int) (g:Nat×Nat)=>[oP 1 g.1,oT 3 g.2 s.1,oI 4 s.2.1,oI 5 s.2.2]) (O:=λs g=>[(1,dV g.1 2 63 (.agg [.sl (b.To.map Av),.sl (b.Keep.map D.bool)])),(3,dW g.2 1 3 (s.1.map Av))]) (_,_) hX<|?_
 rintro⟨c,d,k4⟩ ⟨e,f⟩ nn;dsimp only[Afa];exact B

abbrev Amq:=en2 (eL Qr) Qr
abbrev Avj:=de2 (uL UU) UU
theorem AnH:NM Tryz.prog 235 (fS .ground Amq (λa=>AdD a.1 a.2) Od):=by
 refine fn2 2 (nK 230 Aeg<|NK) Tryz.func235<|?_;rintro⟨c,b⟩;unfold AdD;refine A 13 ?_;refine lP (E:=λ(s:Int) (g:Nat)=>[oM 0 c Qr,oP 3 g,oI 5 s]) (O:=λ_ g=>[(3,dV g 2 209 (.agg [Mk b.Off,Mk b.Size]))]) _ hX<|?_
 rintro d e nn;dsimp only[Ahw];exact B

def Akn (b:Int×Lo):List D:=[OX b.2]
theorem Zm:NM Tryz.prog 22 (Ow [(0,(2,103))] .val Vw Vv (λa=>RG a) Zn Akn):=by
 refine fn2 1 (nK 19 Pp<|NK) Tryz.func22<|?_;intro b;unfold RG;refine Ab 8 λc d=>?_
 refine Ac 11 ?_ ?_
 ·refine A 2 ?_;refine bS ([9223372036854775807,(-9223372036854775808),2147483648,2147483647,(-1),16777216,33554432,1048577,512,80]:List Int) Av r r r (by simp) r r r<|?_
  exact B
 ·exact B

theorem AoN:NM Tryz.prog 115 (fS .ground Ud (λa=>AcL a.1 a.2) YP):=by
 refine fn2 2 (nK 176 Va<|NK) Tryz.func115<|?_;rintro⟨b,c⟩;unfold AcL;refine A 6 ?_;refine sC (E:=λ(_s:Unit) (_g:Unit)=>[oI 0 b,oI 1 c]) (O:=λ_ _=>[]) (j:=λ_=>AaQ b c) ?_ ?_
 ·exact B
 ·rintro⟨⟩ ⟨⟩ nn;dsimp only[AaQ];exact B

abbrev Aew:=en1 OP
abbrev Aev:=de1 Re
def AfL (b:(List Int)×Oh):D:=.sl (b.1.map Av)
def AfK (b:(List Int)×Oh):List D:=[OP b.2]
theorem Afn:NM Tryz.prog 141 (Ow [(0,(8,235))] (.row 1 3) Aew Aev (λa=>Vu a) AfL AfK):=by
 refine fn2 1 (nK 205 Avz<|NK) Tryz.func141<|?_;intro b;unfold Vu;refine A 18 ?_;refine lP (E:=λ(s:(List Int)×Int) (g:Nat)=>[oT 3 g s.1,(6,.optr 8192 0 0 0),oI 7 s.2]) (O:=λs g=>[(3,dW g 1 3 (s.1.map Av)),(8192,dV 0 8 235 (OP b))]) _ hX<|?_
 rintro⟨f,c⟩ h nn;dsimp only[Zz];refine Ac 6 ?_ ?_
 ·refine A 8 ?_;refine cK λhq=>Sb r r r hq<|bD λd e=>RN (q:=d) (l:=b.toList) (en:=Ahf) (j:=c.toNat) (by simp) r r r e r (λ_=>r)<|?_
  refine A 5 ?_;refine lP (E:=λ(s:(List Int)×Int) (g:Nat)=>[oT 3 g s.1,oI 4 c,(5,Aqz s.2),(6,.optr 8192 0 0 0),oI 7 c]) (O:=λs g=>[(3,dW g 1 3 (s.1.map Av)),(8192,dV 0 8 235 (OP b))]) _ hX<|?_
  rintro⟨i,k⟩ m nn;dsimp only[ZA];exact B
 ·exact B

theorem Adr:NM Tryz.prog 146 (fS .ground Pd (λa=>Tl a) YP):=by
 refine fn2 1 (NK) Tryz.func146<|?_;intro a;unfold Tl;exact B

noncomputable def AiA:Dw.Spec:=Ow [] .ground Ud AoP (λa=>UF a.1 a.2) YP noE
theorem Adb:NM Tryz.prog 89 AiA:=by
 refine fn2 2 (nK 145 AaM<|nK 146 Adr<|NK) Tryz.func89<|?_;rintro⟨a,b⟩;unfold UF;refine A 6 ?_;refine sC (E:=λ(_s:Unit) (_g:Unit)=>[oI 0 a,oI 1 b]) (O:=λ_ _=>[]) (j:=λ_=>XB a b) ?_ ?_
 ·exact B
 ·rintro⟨⟩ ⟨⟩ nn;dsimp only[XB];exact B

theorem AkW:NM Tryz.prog 148 (fS .ground AaR (λa=>AaA a) Od):=by
 refine fn2 1 (nK 204 UD<|NK) Tryz.func148<|?_;intro b;unfold AaA;refine A 14 ?_;refine lP (E:=λ(s:Int) (_g:Unit)=>[oM 0 b Av,oM 5 b Av,oL 6 b,oI 7 s]) (O:=λ_ _=>[]) () hX<|?_
 rintro c ⟨⟩ nn;dsimp only[SA];exact B

theorem Alh:NM Tryz.prog 249 (fS .ground AeW (λa=>Yt a) Od):=by
 refine fn2 1 (nK 145 AaM<|NK) Tryz.func249<|?_;intro a;unfold Yt;exact B

theorem Akp:NM Tryz.prog 225 (fS .ground Aef (λa=>SV a.1 a.2) Od):=by
 refine fn2 2 (nK 249 Alh<|NK) Tryz.func225<|?_;intro a;unfold SV;exact B

end Go.Proofs.YtmmchhpdaogopaaGreatDoor
