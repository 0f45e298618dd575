/-
 The code does what its typed programs say.
-/
import Derived.Test.YtcaoepecbgggcaaGreatDoorProg
import Derived.Test.YtcaoepecbgggcaaGreatDoorDc
import Derived.KernelRfl
import Derived.Test.YtcaoepecbgggcaaGreatDoorDxP
import Derived.Test.YtcaoepecbgggcaaGreatDoorDxF1
import Derived.Test.YtcaoepecbgggcaaGreatDoorDxF5
import Derived.Test.YtcaoepecbgggcaaGreatDoorDxF6
import Derived.Test.YtcaoepecbgggcaaGreatDoorDxF7
import Derived.Test.YtcaoepecbgggcaaGreatDoorDxF8
import Derived.Test.YtcaoepecbgggcaaGreatDoorDxF10
namespace Go.Proofs.YtcaoepecbgggcaaGreatDoor
open Go Go.Dw Go.Proofs
set_option maxRecDepth 100000
set_option maxHeartbeats 40000000
open Go.Dw renaming OQ -> bD,WO -> bS,PX -> cD,RJ -> xC,PH -> xL,Qm -> lP,Qd -> sC,rf -> r
noncomputable section
def Qi (a:Lo×Int×Oa×(List Int)×Oa×Int):List D:=[NQ a.1,Av a.2.1,.clo 258 [.fptr (SQ a.2.2.1) 0],.clo 215 [.sl (a.2.2.2.1.map Mk),.fptr (SQ a.2.2.2.2.1) 0,.fptr (Av a.2.2.2.2.2) 0]]
def Rp (ds:List D):Lo×Int×Oa×(List Int)×Oa×Int:=(RX (ds.getD 0 .top),uI (ds.getD 1 .top),VC (fpD (AdY (ds.getD 2 .top) 0)),(uL uI) (AdY (ds.getD 3 .top) 0),VC (fpD (AdY (ds.getD 3 .top) 1)),uI (fpD (AdY (ds.getD 3 .top) 2)))
instance:Od Qi Rp:=⟨λa=>by simp[Rp,Qi,uI,fpD,AdY,OG (u:=uI) (en:=Mk) (λ_=>rfl)]⟩
def Zt (b:Bool×(List Int)):List D:=[.sl (b.2.map Mk)]
def Un:Dw.Spec:=NN [(256,(1,37))] .val Qi Rp (λa=>PW a.1 a.2.1 a.2.2.1 a.2.2.2.1 a.2.2.2.2.1 a.2.2.2.2.2) XA Zt
theorem Za:NL Tryz.prog 213 Un:=by
 refine fn2 4 (nK 256 ApI<|nK 258 AgC<|nK 257 ApD<|nK 215 AcH<|NG) Tryz.func213<|?_;rintro⟨b,k2,c,f,d,e⟩;unfold PW;refine Ab 11 λa h=>?_
 refine A 6 ?_;refine lP (E:=λ(s:(List Int)×Int) (g:Nat×Nat)=>[(2,.clo 258 [.fptr (.agg [.sl (c.Out.map (eL Mk))]) 0]),(3,.clo 215 [.optr 8448 256 0 0,.fptr (.agg [.sl (d.Out.map (eL Mk))]) 0,.fptr (Av e) 0]),(4,.optr 4 g.1 0 0),(13,.osl 13 g.2 0 a.length),(14,Av (a.length:Int)),(15,Av s.2)]) (O:=λs g=>[(4,dV g.1 3 36 (NQ b)),(13,dW g.2 1 3 (a.map Mk)),(8448,dV 256 1 37 (.sl (s.1.map Mk)))]) (_,_) hX<|?_
 rintro⟨i,j⟩ ⟨k,l⟩ nn;dsimp only[PD];exact B

def Abc (a:Lo×NU×(List Int)):List D:=[NQ a.1,Abi a.2.1,.sl (a.2.2.map Mk)]
def Abb (ds:List D):Lo×NU×(List Int):=(RX (ds.getD 0 .top),Abp (ds.getD 1 .top),(uL uI) (ds.getD 2 .top))
instance:Od Abc Abb:=⟨λa=>by simp[Abb,Abc,OG (u:=uI) (en:=Mk) (λ_=>rfl)]⟩
def AnC (b:(List NH)):D:=.sl (b.map Ob)
def AnD:Dw.Spec:=NN [] (.row 5 90) Abc Abb (λa=>Xv a.1 a.2.1 a.2.2) AnC noE
theorem Agm:NL Tryz.prog 100 AnD:=by
 refine fn2 3 (nK 161 Akm<|NG) Tryz.func100<|?_;rintro⟨a,b,c⟩;unfold Xv;refine A 22 ?_;refine lP (E:=λ(s:(List NH)×Int) (g:Nat×Nat)=>[(2,.sl (c.map Mk)),(4,.optr 4 g.1 0 0),(7,.osl 7 g.2 0 s.1.length),(11,.sl (a.Code.map Ob)),(12,Av (a.Code.length:Int)),(13,Av s.2)]) (O:=λs g=>[(4,dV g.1 2 48 (.agg [.sl (b.To.map Mk),.sl (b.Keep.map D.bool)])),(7,dW g.2 5 90 (s.1.map Ob))]) (_,_) hX<|?_
 rintro⟨d,e⟩ ⟨i,k⟩ nn;dsimp only[Agl];refine Ac 6 ?_ ?_
 ·refine Ab 7 λf l=>?_
  refine A 7 ?_;refine sC (E:=λ(s:Bool) (g:Nat×Nat×Nat)=>[(2,.sl (c.map Mk)),(4,.optr 4 g.1 0 0),(7,.osl 7 g.2.1 0 d.length),(9,.optr 9 g.2.2 0 0),(11,.sl (a.Code.map Ob)),(12,Av (a.Code.length:Int)),(13,Av e),(29,.bool s)]) (O:=λ_ g=>[(4,dV g.1 2 48 (.agg [.sl (b.To.map Mk),.sl (b.Keep.map D.bool)])),(7,dW g.2.1 5 90 (d.map Ob)),(9,dV g.2.2 5 90 (Ob f))]) (j:=λs=>Ws f c d e s) ?_ ?_
  ·exact B
  ·rintro m ⟨o,p,q⟩ nn;dsimp only[Ws];refine cD r ?_ ?_
   ·refine Ab 4 λh t=>?_
    refine A 1 ?_;refine bS ([h]:List NH) Ob r r r (by simp) r r r<|?_
    exact B
   ·exact B
 ·exact B

def PF (a:Lo×NV×NH):List D:=[NQ a.1,QH a.2.1,Ob a.2.2]
def PE (ds:List D):Lo×NV×NH:=(RX (ds.getD 0 .top),AeM (ds.getD 1 .top),SE (ds.getD 2 .top))
instance:Od PF PE:=⟨λa=>by simp[PE,PF]⟩
def AgD:Dw.Spec:=NN [] .ground PF PE (λa=>UO a.1 a.2.1 a.2.2) Rs noE
theorem AfK:NL Tryz.prog 236 AgD:=by
 refine fn2 3 (NG) Tryz.func236<|?_;intro a;unfold UO;exact B

def AgE:Dw.Spec:=NN [] .ground PF PE (λa=>UP a.1 a.2.1 a.2.2) Rs noE
theorem AfL:NL Tryz.prog 237 AgE:=by
 refine fn2 3 (NG) Tryz.func237<|?_;intro a;unfold UP;exact B

def AgF:Dw.Spec:=NN [] .ground PF PE (λa=>UQ a.1 a.2.1 a.2.2) Rs noE
theorem AfM:NL Tryz.prog 238 AgF:=by
 refine fn2 3 (NG) Tryz.func238<|?_;intro a;unfold UQ;exact B

def AgG:Dw.Spec:=NN [] .ground PF PE (λa=>UR a.1 a.2.1 a.2.2) Rs noE
theorem AfN:NL Tryz.prog 239 AgG:=by
 refine fn2 3 (NG) Tryz.func239<|?_;intro a;unfold UR;exact B

def AgH:Dw.Spec:=NN [] .ground PF PE (λa=>US a.1 a.2.1 a.2.2) Rs noE
theorem AfO:NL Tryz.prog 240 AgH:=by
 refine fn2 3 (NG) Tryz.func240<|?_;intro a;unfold US;exact B

def ApS:Dw.Spec:=NN [] .ground PF PE (λa=>AeB a.1 a.2.1 a.2.2) Rs noE
theorem Aok:NL Tryz.prog 235 ApS:=by
 refine fn2 3 (NG) Tryz.func235<|?_;intro a;unfold AeB;exact B

def AoC:Dw.Spec:=NN [] (.row 1 3) Rh Rg (λa=>TV a.1 a.2) OC noE
theorem ZA:NL Tryz.prog 124 AoC:=by
 refine fn2 2 (nK 67 Afh<|NG) Tryz.func124<|?_;rintro⟨b,a⟩;unfold TV;refine A 19 ?_;refine lP (E:=λ(s:(List Int)×Int) (g:Nat)=>[(1,.sl (a.map Mk)),(5,.osl 5 g 0 s.1.length),(6,Av s.2)]) (O:=λs g=>[(5,dW g 1 3 (s.1.map Mk))]) _ hX<|?_
 rintro⟨c,d⟩ e nn;dsimp only[Xp];exact B

def AsL:Dw.Spec:=NN [] (.row 1 3) VR VQ (λa=>AcW a.1 a.2) OC noE
theorem AkF:NL Tryz.prog 249 AsL:=by
 refine fn2 2 (nK 143 XQ<|nK 206 Amd<|nK 142 AiA<|nK 124 ZA<|NG) Tryz.func249<|?_;intro a;unfold AcW;exact B

def Amg:Dw.Spec:=NN [] .ground VR VQ (λa=>VT a.1 a.2) Rs noE
theorem Afi:NL Tryz.prog 81 Amg:=by
 refine fn2 2 (nK 144 Aln<|NG) Tryz.func81<|?_;intro a;unfold VT;exact B

def Aqp:Dw.Spec:=NN [] (.row 1 3) Rj Ri (λa=>ZI a.1 a.2) OC noE
theorem AoV:NL Tryz.prog 77 Aqp:=by
 refine fn2 2 (nK 81 Afi<|nK 142 AiA<|nK 124 ZA<|nK 143 XQ<|nK 67 Afh<|NG) Tryz.func77<|?_;rintro⟨b,a⟩;unfold ZI;refine A 19 ?_;refine lP (E:=λ(s:(List Int)×Int) (g:Nat×Nat×Nat)=>[(2,.optr 2 g.1 0 0),(3,.optr 3 g.2.1 0 0),(5,.osl 5 g.2.2 0 s.1.length),(6,Av s.2)]) (O:=λs g=>[(2,dV g.1 3 36 (NQ b)),(3,dV g.2.1 2 48 (.agg [.sl (a.To.map Mk),.sl (a.Keep.map D.bool)])),(5,dW g.2.2 1 3 (s.1.map Mk))]) (_,_,_) hX<|?_
 rintro⟨c,k4⟩ ⟨d,e,f⟩ nn;dsimp only[Aej];refine sC (E:=λ(_s:Unit) (g:Nat×Nat×Nat)=>[(2,.optr 2 g.1 0 0),(3,.optr 3 g.2.1 0 0),(5,.osl 5 g.2.2 0 c.length),(6,Av k4),(16,Av k4),(17,.optr 3 g.2.1 0 1),(18,.sl (a.Keep.map D.bool)),(19,Av (a.Keep.length:Int)),(20,.bool (decide (k4<(a.Keep.length:Int))))]) (O:=λ_ g=>[(2,dV g.1 3 36 (NQ b)),(3,dV g.2.1 2 48 (.agg [.sl (a.To.map Mk),.sl (a.Keep.map D.bool)])),(5,dW g.2.2 1 3 (c.map Mk))]) (j:=λ_=>Yh a k4 c b) ?_ ?_
 ·exact B
 ·rintro⟨⟩ ⟨h,i,k⟩ nn;dsimp only[Yh];exact B

end
end Go.Proofs.YtcaoepecbgggcaaGreatDoor
