/-
 The code does what its typed programs say.
-/
import Derived.Test.YtcaoepecbgggcaaGreatDoorProg
import Derived.Test.YtcaoepecbgggcaaGreatDoorDc
import Derived.KernelRfl
import Derived.Test.YtcaoepecbgggcaaGreatDoorDxP
import Derived.Test.YtcaoepecbgggcaaGreatDoorDxF1
import Derived.Test.YtcaoepecbgggcaaGreatDoorDxF2
import Derived.Test.YtcaoepecbgggcaaGreatDoorDxF4
import Derived.Test.YtcaoepecbgggcaaGreatDoorDxF5
import Derived.Test.YtcaoepecbgggcaaGreatDoorDxF6
import Derived.Test.YtcaoepecbgggcaaGreatDoorDxF8
import Derived.Test.YtcaoepecbgggcaaGreatDoorDxF9
namespace Go.Proofs.YtcaoepecbgggcaaGreatDoor
open Go Go.Dw Go.Proofs
open Go.IntKind (i64)
set_option maxRecDepth 100000
set_option maxHeartbeats 40000000
open Go.Dw renaming OQ -> bD,PX -> cD,RJ -> xC,PH -> xL,Afz -> cP,Qm -> lP,Qd -> sC,Abo -> mF,rf -> r
noncomputable section
def AmI:Dw.Spec:=NN [] .val Rh Rg (λa=>TY a.1 a.2) OC noE
theorem AfW:NL Tryz.prog 216 AmI:=by
 refine fn2 2 (nK 219 Sp<|nK 1069315 AbB<|nK 220 RZ<|NG) Tryz.func216<|?_;rintro⟨d,e⟩;unfold TY;refine Ab 8 λa f=>?_
 refine Ab 2 λb g=>?_
 refine A 1 ?_;refine bD λh c=>cP (a,b) rfl rfl (show _=some WS from by kernel_rfl) Od.ok rfl rfl (by simp) r c<|?_
 exact B

def VR (a:NH×(List Int)):List D:=[Ob a.1,.sl (a.2.map Mk)]
def VQ (ds:List D):NH×(List Int):=(SE (ds.getD 0 .top),(uL uI) (ds.getD 1 .top))
instance:Od VR VQ:=⟨λa=>by simp[VQ,VR,OG (u:=uI) (en:=Mk) (λ_=>rfl)]⟩
def Ara:Dw.Spec:=NN [] .val VR VQ (λa=>AdG a.1 a.2) OC noE
theorem ApD:NL Tryz.prog 257 Ara:=by
 refine fn2 2 (nK 159 UC<|nK 278 AkM<|nK 158 Ahe<|nK 160 AiW<|nK 216 AfW<|NG) Tryz.func257<|?_;intro a;unfold AdG;exact B

def AmH:Dw.Spec:=NN [] .val Rh Rg (λa=>Xc a.1 a.2) OC noE
theorem AlD:NL Tryz.prog 217 AmH:=by
 refine fn2 2 (nK 219 Sp<|nK 1073411 AbA<|nK 220 RZ<|NG) Tryz.func217<|?_;rintro⟨d,e⟩;unfold Xc;refine Ab 8 λa f=>?_
 refine Ab 2 λb g=>?_
 refine A 1 ?_;refine bD λh c=>cP (a,b) rfl rfl (show _=some WQ from by kernel_rfl) Od.ok rfl rfl (by simp) r c<|?_
 exact B

def Tu (a:(List Int)×(List Int)×Oa×Int):List D:=[.sl (a.1.map Mk),.sl (a.2.1.map Mk),.fptr (SQ a.2.2.1) 0,.fptr (Av a.2.2.2) 0]
def Tt (ds:List D):(List Int)×(List Int)×Oa×Int:=((uL uI) (ds.getD 0 .top),(uL uI) (ds.getD 1 .top),VC (fpD (ds.getD 2 .top)),uI (fpD (ds.getD 3 .top)))
instance:Od Tu Tt:=⟨λa=>by simp[Tt,Tu,uI,fpD,OG (u:=uI) (en:=Mk) (λ_=>rfl)]⟩
def XA (b:Bool×(List Int)):D:=.bool b.1
def AdL (b:Bool×(List Int)):List D:=[.sl (b.2.map Mk)]
def AdM:Dw.Spec:=NN [(1,(1,37))] .val Tu Tt (λa=>SH a.1 a.2.1 a.2.2.1 a.2.2.2) XA AdL
theorem AcH:NL Tryz.prog 215 AdM:=by
 refine fn2 4 (nK 217 AlD<|nK 216 AfW<|NG) Tryz.func215<|?_;rintro⟨b,c,d,e⟩;unfold SH;refine Ab 12 λf g=>?_
 refine Ab 2 λh j=>?_
 refine Ab 1 λa k=>?_
 refine A 1 ?_;refine AgM (i:=0) (es':=[.sl (a.map Mk)]) r r r r r r r (by first|trivial|(simp;done)|(simp;omega)) r r r r r r<|?_
 exact B

def Rs (b:NH):D:=Ob b
def AkW:Dw.Spec:=NN [] .ground VR VQ (λa=>Xj a.1 a.2) Rs noE
theorem Akm:NL Tryz.prog 161 AkW:=by
 refine fn2 2 (nK 221 Agx<|NG) Tryz.func161<|?_;rintro⟨b,a⟩;unfold Xj;refine A 6 ?_;refine Qh (E:=[(2,.optr 2 _ 0 0),(3,.fptr (.sl (a.map Mk)) 0),(4,.optr 4 _ 0 0)]) (O:=[(2,dV _ 5 90 (Ob b)),(4,dV _ 5 90 (.agg [Av 0,Av 0,Av 0,Av 0,AmK 0]))]) ((hV 3 r (hY))) λnn=>?_
 refine A 2 ?_;refine mF (caps:=[.fptr (.sl (a.map Mk)) 0]) r r (by simp[SB])<|?_
 exact B

def Ani:Dw.Spec:=NN [] (.row 1 3) QG QF (λa=>Zi a.1 a.2) OC noE
theorem Amd:NL Tryz.prog 206 Ani:=by
 refine fn2 2 (NG) Tryz.func206<|?_;rintro⟨c,d⟩;unfold Zi;refine A 17 ?_;refine lP (E:=λ(s:(List Int)×Int) (g:Nat)=>[(0,.sl (c.map Mk)),(1,Av d),(5,.osl 5 g 0 s.1.length),(6,Av s.2)]) (O:=λs g=>[(5,dW g 1 3 (s.1.map Mk))]) _ hX<|?_
 rintro⟨a,b⟩ f nn;dsimp only[Uo];refine Ac 9 ?_ ?_
 ·refine Ab 8 λh i=>?_
  refine Ac 6 ?_ ?_
  ·refine Ab 4 λe j=>?_
   refine A 13 ?_;exact xL (s:=(a++([e]:List Int),i64.wrap (b+1))) _ hX
  ·refine A 8 ?_;exact xL (s:=(a,i64.wrap (b+1))) _ hX
 ·exact B

def Aqj:Dw.Spec:=NN [] (.row 1 3) PV PU (λa=>UW a) OC noE
theorem AiA:NL Tryz.prog 142 Aqj:=by
 refine fn2 1 (NG) Tryz.func142<|?_;intro a;unfold UW;exact B

def Arq:Dw.Spec:=NN [] (.row 1 3) QG QF (λa=>Wm a.1 a.2) OC noE
theorem Afh:NL Tryz.prog 67 Arq:=by
 refine fn2 2 (nK 125 Aiy<|NG) Tryz.func67<|?_;rintro⟨a,b⟩;unfold Wm;refine Ab 13 λf h=>?_
 refine A 12 ?_;refine lP (E:=λ(s:(List Int)×Bool×Int) (g:Nat)=>[(0,.sl (a.map Mk)),(1,Av b),(5,.osl 5 g 0 s.1.length),(6,.bool s.2.1),(7,Av s.2.2)]) (O:=λs g=>[(5,dW g 1 3 (s.1.map Mk))]) _ hX<|?_
 rintro⟨d,e,c⟩ i nn;dsimp only[Sf];refine Ac 9 ?_ ?_
 ·refine A 4 ?_;refine sC (E:=λ(s:(List Int)×Bool) (g:Nat)=>[(0,.sl (a.map Mk)),(1,Av b),(5,.osl 5 g 0 s.1.length),(6,.bool s.2),(7,Av c)]) (O:=λs g=>[(5,dW g 1 3 (s.1.map Mk))]) (j:=λs=>Tc a c s.1 s.2) ?_ ?_
  ·refine sC (E:=λ(s:Bool) (g:Nat)=>[(0,.sl (a.map Mk)),(1,Av b),(5,.osl 5 g 0 d.length),(6,.bool e),(7,Av c),(26,.bool s)]) (O:=λ_ g=>[(5,dW g 1 3 (d.map Mk))]) (j:=λs=>Ue a c b d e s) ?_ ?_
   ·exact B
   ·rintro k l nn;dsimp only[Ue];exact B
  ·rintro⟨m,o⟩ p nn;dsimp only[Tc];exact B
 ·exact B

end
end Go.Proofs.YtcaoepecbgggcaaGreatDoor
