/-
 The code does what its typed programs say.
-/
import Derived.Test.YtcaoepecbgggcaaGreatDoorProg
import Derived.Test.YtcaoepecbgggcaaGreatDoorDc
import Derived.KernelRfl
import Derived.Test.YtcaoepecbgggcaaGreatDoorSh
import Derived.Test.YtcaoepecbgggcaaGreatDoorDxP
import Derived.Test.YtcaoepecbgggcaaGreatDoorDxF1
import Derived.Test.YtcaoepecbgggcaaGreatDoorDxF2
import Derived.Test.YtcaoepecbgggcaaGreatDoorDxF3
import Derived.Test.YtcaoepecbgggcaaGreatDoorDxF4
import Derived.Test.YtcaoepecbgggcaaGreatDoorDxF5
namespace Go.Proofs.YtcaoepecbgggcaaGreatDoor
open Go Go.Dw Go.Proofs
set_option maxRecDepth 100000
set_option maxHeartbeats 40000000
open Go.Dw renaming OQ -> bD,WO -> bS,PX -> cD,RJ -> xC,PH -> xL,Qm -> lP,Qd -> sC,rf -> r
noncomputable section
def UN (a:(List Int)×Lo):List D:=[.sl (a.1.map Mk),.fptr (NQ a.2) 0]
def UM (ds:List D):(List Int)×Lo:=((uL uI) (ds.getD 0 .top),RX (fpD (ds.getD 1 .top)))
instance:Od UN UM:=⟨λa=>by simp[UM,UN,fpD,OG (u:=uI) (en:=Mk) (λ_=>rfl)]⟩
def AfJ:Dw.Spec:=NN [] .ground UN UM (λa=>Sz a.1 a.2) NX noE
theorem Afc:NL Tryz.prog 210 AfJ:=by
 refine fn2 2 (nK 211 AfV<|NG) Tryz.func210<|?_;intro a;unfold Sz;exact B

def Aaz (a:Lo×Int):List D:=[NQ a.1,Av a.2]
def Aay (ds:List D):Lo×Int:=(RX (ds.getD 0 .top),uI (ds.getD 1 .top))
instance:Od Aaz Aay:=⟨λa=>by simp[Aay,Aaz,uI]⟩
def Arf:Dw.Spec:=NN [] (.row 1 3) Aaz Aay (λa=>AdI a.1 a.2) OC noE
theorem ApI:NL Tryz.prog 256 Arf:=by
 refine fn2 2 (nK 230 Aah<|nK 276 AgK<|nK 277 AeF<|NG) Tryz.func256<|?_;rintro⟨a,k2⟩;unfold AdI;refine A 6 ?_;refine sC (E:=λ(_s:Unit) (g:Nat)=>[(1,Av k2),(2,.optr 2 g 0 0)]) (O:=λ_ g=>[(2,dV g 3 36 (NQ a))]) (j:=λ_=>AbI a k2) ?_ ?_
 ·exact B
 ·rintro⟨⟩ c nn;dsimp only[AbI];refine Ab 10 λb d=>?_
  refine A 6 ?_;refine sC (E:=λ(s:(List Int)) (g:Nat×Nat)=>[(5,.osl 5 g.1 0 s.length),(6,.optr 6 g.2 0 0)]) (O:=λs g=>[(5,dW g.1 1 3 (s.map Mk)),(6,dV g.2 5 90 (Ob b))]) (j:=λs=>YX b s) ?_ ?_
  ·exact B
  ·rintro e ⟨f,h⟩ nn;dsimp only[YX];exact B

def VK (a:Int×Oa):List D:=[Av a.1,.fptr (SQ a.2) 0]
def VJ (ds:List D):Int×Oa:=(uI (ds.getD 0 .top),VC (fpD (ds.getD 1 .top)))
instance:Od VK VJ:=⟨λa=>by simp[VJ,VK,uI,fpD]⟩
def Ahi:Dw.Spec:=NN [] .val VK VJ (λa=>VB a.1 a.2) OC noE
theorem AgC:NL Tryz.prog 258 Ahi:=by
 refine fn2 2 (NG) Tryz.func258<|?_;intro a;unfold VB;exact B

def AlE:Dw.Spec:=NN [] .val QG QF (λa=>VN a.1 a.2) OC noE
theorem AkM:NL Tryz.prog 278 AlE:=by
 refine fn2 2 (nK 219 Sp<|nK 231 Xf<|nK 220 RZ<|NG) Tryz.func278<|?_;intro a;unfold VN;exact B

def Aog:Dw.Spec:=NN [] (.row 1 3) PV PU (λa=>WJ a) OC noE
theorem Ahe:NL Tryz.prog 158 Aog:=by
 refine fn2 1 (NG) Tryz.func158<|?_;intro a;unfold WJ;exact B

def AqU:Dw.Spec:=NN [] (.row 1 3) Tj Ti (λa=>YP a) OC noE
theorem AiW:NL Tryz.prog 160 AqU:=by
 refine fn2 1 (nK 219 Sp<|nK 220 RZ<|NG) Tryz.func160<|?_;intro a;unfold YP;exact B

def Ajd:Dw.Spec:=NN [] (.row 1 3) QG QF (λa=>XD a.1 a.2) OC noE
theorem AiK:NL Tryz.prog 96 Ajd:=by
 refine fn2 2 (NG) Tryz.func96<|?_;rintro⟨a,b⟩;unfold XD;refine A 19 ?_;refine lP (E:=λ(s:(List Int)×Int) (g:Nat)=>[(1,Av b),(5,.osl 5 g 0 s.1.length),(8,.sl (a.map Mk)),(9,Av (a.length:Int)),(10,Av s.2)]) (O:=λs g=>[(5,dW g 1 3 (s.1.map Mk))]) _ hX<|?_
 rintro⟨c,d⟩ e nn;dsimp only[Acs];exact B

def AgJ:Dw.Spec:=NN [] .ground QG QF (λa=>Tg a.1 a.2) NK noE
theorem AfP:NL Tryz.prog 98 AgJ:=by
 refine fn2 2 (NG) Tryz.func98<|?_;rintro⟨a,b⟩;unfold Tg;refine A 14 ?_;refine lP (E:=λ(s:Int) (_g:Unit)=>[(0,.sl (a.map Mk)),(1,Av b),(7,Av (a.length:Int)),(8,Av s)]) (O:=λ_ _=>[]) () hX<|?_
 rintro c ⟨⟩ nn;dsimp only[Tw];exact B

def Wq (a:NU):List D:=[Abi a]
def Wp (ds:List D):NU:=Abp (ds.getD 0 .top)
instance:Od Wq Wp:=⟨λa=>by simp[Wp,Wq]⟩
def Alv:Dw.Spec:=NN [] (.row 1 3) Wq Wp (λa=>ZK a) OC noE
theorem Akv:NL Tryz.prog 99 Alv:=by
 refine fn2 1 (NG) Tryz.func99<|?_;intro a;unfold ZK;refine A 26 ?_;refine lP (E:=λ(s:(List Int)×Int×Int) (g:Nat)=>[(3,.osl 3 g 0 s.1.length),(4,Av s.2.2),(8,.sl (a.Keep.map D.bool)),(9,Av (a.Keep.length:Int)),(10,Av s.2.1)]) (O:=λs g=>[(3,dW g 1 3 (s.1.map Mk))]) _ hX<|?_
 rintro⟨b,c,d⟩ e nn;dsimp only[Aex];exact B

def WU (a:OU):List D:=[AcD a]
def WT (ds:List D):OU:=Adj (ds.getD 0 .top)
instance:Od WU WT:=⟨λa=>by simp[WT,WU]⟩
def AfX:Dw.Spec:=NN [] (.row 1 3) WU WT (λa=>VO a) OC noE
theorem AkP:NL Tryz.prog 113 AfX:=by
 refine fn2 1 (NG) Tryz.func113<|?_;intro a;unfold VO;refine A 21 ?_;refine lP (E:=λ(s:(List Int)×Int) (g:Nat)=>[(3,.osl 3 g 0 s.1.length),(7,.sl (a.Frames.map ON)),(8,Av (a.Frames.length:Int)),(9,Av s.2)]) (O:=λs g=>[(3,dW g 1 3 (s.1.map Mk))]) _ hX<|?_
 rintro⟨b,c⟩ d nn;dsimp only[AaH];exact B

def Alf:Dw.Spec:=NN [] (.row 1 3) PV PU (λa=>Pv a) OC noE
theorem Akt:NL Tryz.prog 270 Alf:=by
 refine fn2 1 (NG) Tryz.func270<|?_;intro a;unfold Pv;refine A 8 ?_;refine sC (E:=λ(s:Bool) (g:Nat)=>[(1,.optr 1 g 0 0),(3,.bool s)]) (O:=λ_ g=>[(1,dV g 5 90 (Ob a))]) (j:=λs=>OP a s) ?_ ?_
 ·exact B
 ·rintro b c nn;dsimp only[OP];refine cD r ?_ ?_
  ·refine A 8 ?_;refine bS ([a.A,a.B,a.C]:List Int) Mk r r r (by simp) r r r<|?_
   exact B
  ·refine sC (E:=λ(s:Bool) (g:Nat)=>[(1,.optr 1 g 0 0),(19,.bool s)]) (O:=λ_ g=>[(1,dV g 5 90 (Ob a))]) (j:=λs=>OW a s) ?_ ?_
   ·exact B
   ·rintro d e nn;dsimp only[OW];refine cD r ?_ ?_
    ·refine A 6 ?_;refine bS ([a.A,a.B]:List Int) Mk r r r (by simp) r r r<|?_
     exact B
    ·refine sC (E:=λ(s:Bool) (g:Nat)=>[(1,.optr 1 g 0 0),(31,.bool s)]) (O:=λ_ g=>[(1,dV g 5 90 (Ob a))]) (j:=λs=>OJ a s) ?_ ?_
     ·exact B
     ·rintro f h nn;dsimp only[OJ];exact B

def Arr:Dw.Spec:=NN [] .ground QG QF (λa=>Vb a.1 a.2) NX noE
theorem Zh:NL Tryz.prog 116 Arr:=by
 refine fn2 2 (NG) Tryz.func116<|?_;rintro⟨a,b⟩;unfold Vb;refine A 12 ?_;refine lP (E:=λ(s:Int) (_g:Unit)=>[(0,.sl (a.map Mk)),(1,Av b),(5,Av s)]) (O:=λ_ _=>[]) () hX<|?_
 rintro c ⟨⟩ nn;dsimp only[Zg];exact B

end
end Go.Proofs.YtcaoepecbgggcaaGreatDoor
