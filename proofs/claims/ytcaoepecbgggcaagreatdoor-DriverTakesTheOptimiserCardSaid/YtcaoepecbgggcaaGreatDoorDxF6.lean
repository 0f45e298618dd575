/-
 The code does what its typed programs say.
-/
import Derived.Test.YtcaoepecbgggcaaGreatDoorDxF5
namespace Go.Proofs.YtcaoepecbgggcaaGreatDoor
open Go Go.Dw Go.Proofs
set_option maxRecDepth 100000
set_option maxHeartbeats 40000000
open Go.Dw renaming ON -> bD,Ts -> bS,PL -> cD,QZ -> xC,Pn -> xL,Qb -> lP,PI -> sC,rf -> r
noncomputable section
def Ve (a:(List Int)×Lo):List D:=[.sl (a.1.map NF),.fptr (NR a.2) 0]
def Vd (ds:List D):(List Int)×Lo:=((uL uI) (ds.getD 0 .top),RD (fpD (ds.getD 1 .top)))
instance:Od Ve Vd:=⟨λa=>by simp[Vd,Ve,fpD,OE (u:=uI) (en:=NF) (λ_=>rfl)]⟩
def AgL:Dw.Spec:=NO [] .ground Ve Vd (λa=>SM a.1 a.2) NX noE
theorem Agf:NK Tryz.prog 210 AgL:=by
 refine fn2 2 (nK 211 AgW<|NG) Tryz.func210<|?_;intro a;unfold SM;exact B

def Abt (a:Lo×Int):List D:=[NR a.1,Av a.2]
def Abs (ds:List D):Lo×Int:=(RD (ds.getD 0 .top),uI (ds.getD 1 .top))
instance:Od Abt Abs:=⟨λa=>by simp[Abs,Abt,uI]⟩
def AsO:Dw.Spec:=NO [] (.row 1 3) Abt Abs (λa=>AeF a.1 a.2) OC noE
theorem Aro:NK Tryz.prog 256 AsO:=by
 refine fn2 2 (nK 230 AaX<|nK 276 AhO<|nK 277 AfF<|NG) Tryz.func256<|?_;rintro⟨a,k2⟩;unfold AeF;refine A 6 ?_;refine sC (E:=λ(_s:Unit) (g:Nat)=>[(1,Av k2),(2,.optr 2 g 0 0)]) (O:=λ_ g=>[(2,dV g 3 36 (NR a))]) (j:=λ_=>AcG a k2) ?_ ?_
 ·exact B
 ·rintro⟨⟩ c nn;dsimp only[AcG];refine Ab 10 λb d=>?_
  refine A 6 ?_;refine sC (E:=λ(s:(List Int)) (g:Nat×Nat)=>[(5,.osl 5 g.1 0 s.length),(6,.optr 6 g.2 0 0)]) (O:=λs g=>[(5,dW g.1 1 3 (s.map NF)),(6,dV g.2 5 90 (NY b))]) (j:=λs=>ZI b s) ?_ ?_
  ·exact B
  ·rintro e ⟨f,h⟩ nn;dsimp only[ZI];exact B

def Wd (a:Int×Ob):List D:=[Av a.1,.fptr (Td a.2) 0]
def Wc (ds:List D):Int×Ob:=(uI (ds.getD 0 .top),VU (fpD (ds.getD 1 .top)))
instance:Od Wd Wc:=⟨λa=>by simp[Wc,Wd,uI,fpD]⟩
def Aip:Dw.Spec:=NO [] .val Wd Wc (λa=>VT a.1 a.2) OC noE
theorem AhE:NK Tryz.prog 258 Aip:=by
 refine fn2 2 (NG) Tryz.func258<|?_;intro a;unfold VT;exact B

def Anm:Dw.Spec:=NO [] .val QO QN (λa=>Wf a.1 a.2) OC noE
theorem Amv:NK Tryz.prog 278 Anm:=by
 refine fn2 2 (nK 219 SC<|nK 231 XL<|nK 220 Sn<|NG) Tryz.func278<|?_;intro a;unfold Wf;exact B

def ApO:Dw.Spec:=NO [] (.row 1 3) Qi Qh (λa=>Xq a) OC noE
theorem Ail:NK Tryz.prog 158 ApO:=by
 refine fn2 1 (NG) Tryz.func158<|?_;intro a;unfold Xq;exact B

def AsC:Dw.Spec:=NO [] (.row 1 3) Tv Tu (λa=>Zz a) OC noE
theorem Akg:NK Tryz.prog 160 AsC:=by
 refine fn2 1 (nK 219 SC<|nK 220 Sn<|NG) Tryz.func160<|?_;intro a;unfold Zz;exact B

def Akm:Dw.Spec:=NO [] (.row 1 3) QO QN (λa=>Yi a.1 a.2) OC noE
theorem AjT:NK Tryz.prog 96 Akm:=by
 refine fn2 2 (NG) Tryz.func96<|?_;rintro⟨a,b⟩;unfold Yi;refine A 19 ?_;refine lP (E:=λ(s:(List Int)×Int) (g:Nat)=>[(1,Av b),(5,.osl 5 g 0 s.1.length),(8,.sl (a.map NF)),(9,Av (a.length:Int)),(10,Av s.2)]) (O:=λs g=>[(5,dW g 1 3 (s.1.map NF))]) _ hX<|?_
 rintro⟨c,d⟩ e nn;dsimp only[Ado];exact B

def AhN:Dw.Spec:=NO [] .ground QO QN (λa=>Tq a.1 a.2) NJ noE
theorem AgR:NK Tryz.prog 98 AhN:=by
 refine fn2 2 (NG) Tryz.func98<|?_;rintro⟨a,b⟩;unfold Tq;refine A 14 ?_;refine lP (E:=λ(s:Int) (_g:Unit)=>[(0,.sl (a.map NF)),(1,Av b),(7,Av (a.length:Int)),(8,Av s)]) (O:=λ_ _=>[]) () hX<|?_
 rintro c ⟨⟩ nn;dsimp only[TI];exact B

def WV (a:NV):List D:=[Acg a]
def WU (ds:List D):NV:=Acm (ds.getD 0 .top)
instance:Od WV WU:=⟨λa=>by simp[WU,WV]⟩
def Ane:Dw.Spec:=NO [] (.row 1 3) WV WU (λa=>AaA a) OC noE
theorem Amf:NK Tryz.prog 99 Ane:=by
 refine fn2 1 (NG) Tryz.func99<|?_;intro a;unfold AaA;refine A 26 ?_;refine lP (E:=λ(s:(List Int)×Int×Int) (g:Nat)=>[(3,.osl 3 g 0 s.1.length),(4,Av s.2.2),(8,.sl (a.Keep.map D.bool)),(9,Av (a.Keep.length:Int)),(10,Av s.2.1)]) (O:=λs g=>[(3,dW g 1 3 (s.1.map NF))]) _ hX<|?_
 rintro⟨b,c,d⟩ e nn;dsimp only[Afw];exact B

def Xz (a:OW):List D:=[Adz a]
def Xy (ds:List D):OW:=Aed (ds.getD 0 .top)
instance:Od Xz Xy:=⟨λa=>by simp[Xy,Xz]⟩
def AgY:Dw.Spec:=NO [] (.row 1 3) Xz Xy (λa=>Wg a) OC noE
theorem Amy:NK Tryz.prog 113 AgY:=by
 refine fn2 1 (NG) Tryz.func113<|?_;intro a;unfold Wg;refine A 21 ?_;refine lP (E:=λ(s:(List Int)×Int) (g:Nat)=>[(3,.osl 3 g 0 s.1.length),(7,.sl (a.Frames.map OQ)),(8,Av (a.Frames.length:Int)),(9,Av s.2)]) (O:=λs g=>[(3,dW g 1 3 (s.1.map NF))]) _ hX<|?_
 rintro⟨b,c⟩ d nn;dsimp only[AbB];exact B

def AmN:Dw.Spec:=NO [] (.row 1 3) Qi Qh (λa=>PC a) OC noE
theorem Amc:NK Tryz.prog 270 AmN:=by
 refine fn2 1 (NG) Tryz.func270<|?_;intro a;unfold PC;refine A 8 ?_;refine sC (E:=λ(s:Bool) (g:Nat)=>[(1,.optr 1 g 0 0),(3,.bool s)]) (O:=λ_ g=>[(1,dV g 5 90 (NY a))]) (j:=λs=>OT a s) ?_ ?_
 ·exact B
 ·rintro b c nn;dsimp only[OT];refine cD r ?_ ?_
  ·refine A 8 ?_;refine bS ([a.A,a.B,a.C]:List Int) NF r r r (by simp) r r r<|?_
   exact B
  ·refine sC (E:=λ(s:Bool) (g:Nat)=>[(1,.optr 1 g 0 0),(19,.bool s)]) (O:=λ_ g=>[(1,dV g 5 90 (NY a))]) (j:=λs=>OY a s) ?_ ?_
   ·exact B
   ·rintro d e nn;dsimp only[OY];refine cD r ?_ ?_
    ·refine A 6 ?_;refine bS ([a.A,a.B]:List Int) NF r r r (by simp) r r r<|?_
     exact B
    ·refine sC (E:=λ(s:Bool) (g:Nat)=>[(1,.optr 1 g 0 0),(31,.bool s)]) (O:=λ_ g=>[(1,dV g 5 90 (NY a))]) (j:=λs=>OL a s) ?_ ?_
     ·exact B
     ·rintro f h nn;dsimp only[OL];exact B

def Atb:Dw.Spec:=NO [] .ground QO QN (λa=>Vr a.1 a.2) NX noE
theorem ZV:NK Tryz.prog 116 Atb:=by
 refine fn2 2 (NG) Tryz.func116<|?_;rintro⟨a,b⟩;unfold Vr;refine A 12 ?_;refine lP (E:=λ(s:Int) (_g:Unit)=>[(0,.sl (a.map NF)),(1,Av b),(5,Av s)]) (O:=λ_ _=>[]) () hX<|?_
 rintro c ⟨⟩ nn;dsimp only[ZU];exact B

end
end Go.Proofs.YtcaoepecbgggcaaGreatDoor
