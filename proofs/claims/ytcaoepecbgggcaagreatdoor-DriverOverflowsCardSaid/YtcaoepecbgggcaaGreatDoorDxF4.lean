/-
 The code does what its typed programs say.
-/
import Derived.Test.YtcaoepecbgggcaaGreatDoorProg
import Derived.Test.YtcaoepecbgggcaaGreatDoorDc
import Derived.KernelRfl
import Derived.Test.YtcaoepecbgggcaaGreatDoorSh
import Derived.Test.YtcaoepecbgggcaaGreatDoorDxP
import Derived.Test.YtcaoepecbgggcaaGreatDoorDxF1
import Derived.Test.YtcaoepecbgggcaaGreatDoorDxF2
namespace Go.Proofs.YtcaoepecbgggcaaGreatDoor
open Go Go.Dw Go.Proofs
open Go.IntKind (i64)
set_option maxRecDepth 100000
set_option maxHeartbeats 40000000
open Go.Dw renaming OQ -> bD,PQ -> cK,RW -> cG,PX -> cD,PH -> xL,Qm -> lP,rf -> r
noncomputable section
def Pr (a:(List NS)):List D:=[.sl (a.map OR),.clo 208 []]
def Pq (ds:List D):(List NS):=(uL Wx) (ds.getD 0 .top)
instance:Od Pr Pq:=⟨λa=>by simp[Pq,Pr,OG (u:=Wx) (en:=OR) AeN]⟩
def NK (b:Int):D:=Av b
def Sh:Dw.Spec:=NN [] .ground Pr Pq (λa=>PK a) NK noE
theorem Ww:NL Tryz.prog 253 Sh:=by
 refine fn2 2 (nK 208 Ako<|NG) Tryz.func253<|?_;intro a;unfold PK;refine A 14 ?_;refine lP (E:=λ(s:Int) (_g:Unit)=>[(0,.sl (a.map OR)),(1,.clo 208 []),(7,Av (a.length:Int)),(8,Av s)]) (O:=λ_ _=>[]) () hX<|?_
 rintro b ⟨⟩ nn;dsimp only[OZ];exact B

def RB:Dw.Spec:=NN [] .ground Pr Pq (λa=>Pt a) NX noE
theorem Vy:NL Tryz.prog 207 RB:=by
 refine fn2 2 (nK 856317 Ww<|NG) Tryz.func207<|?_;intro a;unfold Pt;refine A 9 ?_;refine bD λc b=>cG a rfl rfl (show _=some Sh from by kernel_rfl) Od.ok rfl rfl (by simp) r b r<|?_
 exact B

def Adh (a:NM×Lo):List D:=[Rk a.1,NQ a.2]
def Adg (ds:List D):NM×Lo:=(Th (ds.getD 0 .top),RX (ds.getD 1 .top))
instance:Od Adh Adg:=⟨λa=>by simp[Adg,Adh]⟩
def AqC (b:RE):D:=AjX b
def AqD:Dw.Spec:=NN [] .ground Adh Adg (λa=>Wv a.1 a.2) AqC noE
theorem AoY:NL Tryz.prog 266 AqD:=by
 refine fn2 2 (NG) Tryz.func266<|?_;intro a;unfold Wv;exact B

def VE (a:NI):List D:=[NY a]
def VD (ds:List D):NI:=PM (ds.getD 0 .top)
instance:Od VE VD:=⟨λa=>by simp[VD,VE]⟩
def AgV (b:(List Int)×NI):D:=.sl (b.1.map Mk)
def AgU (b:(List Int)×NI):List D:=[NY b.2]
def AgW:Dw.Spec:=NN [(0,(8,255))] (.row 1 3) VE VD (λa=>Qz a) AgV AgU
theorem RZ:NL Tryz.prog 220 AgW:=by
 refine fn2 1 (nK 262 AwA<|NG) Tryz.func220<|?_;intro a;unfold Qz;refine A 18 ?_;refine lP (E:=λ(s:(List Int)×Int) (g:Nat)=>[(3,.osl 3 g 0 s.1.length),(6,.optr 8192 0 0 0),(7,Av s.2)]) (O:=λs g=>[(3,dW g 1 3 (s.1.map Mk)),(8192,dV 0 8 255 (NY a))]) _ hX<|?_
 rintro⟨e,b⟩ f nn;dsimp only[Aai];refine Ac 6 ?_ ?_
 ·refine A 8 ?_;refine cK λhq=>Qw r r r hq<|bD λc d=>Qq (q:=c) (l:=a.toList) (en:=YU) (j:=b.toNat) (by simp) r r r d r (λ_=>r)<|?_
  refine A 5 ?_;refine lP (E:=λ(s:(List Int)×Int) (g:Nat)=>[(3,.osl 3 g 0 s.1.length),(4,Av b),(5,AmK s.2),(6,.optr 8192 0 0 0),(7,Av b)]) (O:=λs g=>[(3,dW g 1 3 (s.1.map Mk)),(8192,dV 0 8 255 (NY a))]) _ hX<|?_
  rintro⟨h,i⟩ k nn;dsimp only[Aaj];exact B
 ·exact B

def ZW (a:NT×Int):List D:=[PN a.1,Av a.2]
def ZV (ds:List D):NT×Int:=(Ug (ds.getD 0 .top),uI (ds.getD 1 .top))
instance:Od ZW ZV:=⟨λa=>by simp[ZV,ZW,uI]⟩
def AlP:Dw.Spec:=NN [] .ground ZW ZV (λa=>Sk a.1 a.2) NX noE
theorem AeZ:NL Tryz.prog 263 AlP:=by
 refine fn2 2 (nK 264 Age<|NG) Tryz.func263<|?_;intro a;unfold Sk;exact B

def AfG:Dw.Spec:=NN [] .ground RS RR (λa=>Sy a.1 a.2) NX noE
theorem Afb:NL Tryz.prog 222 AfG:=by
 refine fn2 2 (nK 224 XZ<|nK 263 AeZ<|NG) Tryz.func222<|?_;intro a;unfold Sy;exact B

def AoP:Dw.Spec:=NN [] .ground Wd Wc (λa=>Ads a.1 a.2) NX noE
theorem Anr:NL Tryz.prog 140 AoP:=by
 refine fn2 2 (NG) Tryz.func140<|?_;rintro⟨a,b⟩;unfold Ads;refine Ac 17 ?_ ?_
 ·exact B
 ·refine A 9 ?_;refine lP (E:=λ(s:Int) (g:Nat)=>[(1,.sl (b.map Mk)),(2,.optr 2 g 0 0),(5,Av s)]) (O:=λ_ g=>[(2,dV g 3 36 (NQ a))]) _ hX<|?_
  rintro c e nn;dsimp only[Ahy];refine Ac 9 ?_ ?_
  ·refine Ab 8 λf h=>?_
   refine A 4 ?_;refine Tz r ?_ ?_
   ·exact B
   ·refine Ab 2 λi j=>?_
    refine Ac 8 ?_ ?_
    ·exact B
    ·refine A 8 ?_;exact xL (s:=i64.wrap (c+1)) _ hX
  ·refine A 12 ?_;refine lP (E:=λ(s:Int) (g:Nat)=>[(1,.sl (b.map Mk)),(2,.optr 2 g 0 0),(6,Av s)]) (O:=λ_ g=>[(2,dV g 3 36 (NQ a))]) _ hX<|?_
   rintro d k nn;dsimp only[Ahz];refine Ac 9 ?_ ?_
   ·refine Ab 10 λl m=>?_
    refine Ab 2 λo p=>?_
    refine Ab 6 λq t=>?_
    refine A 5 ?_;refine Tz r ?_ ?_
    ·exact B
    ·refine Ab 3 λu v=>?_
     refine Ab 2 λx z=>?_
     refine Ab 4 λaa ab=>?_
     refine Ac 6 ?_ ?_
     ·exact B
     ·refine A 8 ?_;exact xL (s:=i64.wrap (d+1)) _ hX
   ·exact B

def Aow:Dw.Spec:=NN [] .ground XH XG (λa=>Se a) NX noE
theorem AcR:NL Tryz.prog 204 Aow:=by
 refine fn2 1 (nK 130 Zz<|NG) Tryz.func204<|?_;intro a;unfold Se;exact B

def Amc:Dw.Spec:=NN [] .ground Wh Wg (λa=>Yc a.1 a.2) NX noE
theorem Alk:NL Tryz.prog 227 Amc:=by
 refine fn2 2 (nK 204 AcR<|NG) Tryz.func227<|?_;intro a;unfold Yc;exact B

def AcU (a:(List NT)×NT):List D:=[.sl (a.1.map PN),PN a.2]
def AcT (ds:List D):(List NT)×NT:=((uL Ug) (ds.getD 0 .top),Ug (ds.getD 1 .top))
instance:Od AcU AcT:=⟨λa=>by simp[AcT,AcU,OG (u:=Ug) (en:=PN) AkH]⟩
def Aqf:Dw.Spec:=NN [] .ground AcU AcT (λa=>AbP a.1 a.2) NX noE
theorem Aoy:NL Tryz.prog 252 Aqf:=by
 refine fn2 2 (nK 227 Alk<|NG) Tryz.func252<|?_;rintro⟨b,a⟩;unfold AbP;refine A 13 ?_;refine lP (E:=λ(s:Int) (g:Nat)=>[(0,.sl (b.map PN)),(3,.optr 3 g 0 0),(5,Av s)]) (O:=λ_ g=>[(3,dV g 2 186 (.agg [Av a.Off,Av a.Size]))]) _ hX<|?_
 rintro c d nn;dsimp only[Aeh];exact B

end
end Go.Proofs.YtcaoepecbgggcaaGreatDoor
