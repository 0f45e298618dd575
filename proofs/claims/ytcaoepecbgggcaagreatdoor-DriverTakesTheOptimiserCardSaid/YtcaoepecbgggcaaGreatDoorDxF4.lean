/-
 The code does what its typed programs say.
-/
import Derived.Test.YtcaoepecbgggcaaGreatDoorSh
import Derived.Test.YtcaoepecbgggcaaGreatDoorDxF2
namespace Go.Proofs.YtcaoepecbgggcaaGreatDoor
open Go Go.Dw Go.Proofs
open Go.IntKind (i64)
set_option maxRecDepth 100000
set_option maxHeartbeats 40000000
open Go.Dw renaming ON -> bD,Qa -> cK,Sj -> cG,PL -> cD,Pn -> xL,Qb -> lP,rf -> r
noncomputable section
def Py (a:(List NS)):List D:=[.sl (a.map OH),.clo 208 []]
def Px (ds:List D):(List NS):=(uL Xb) (ds.getD 0 .top)
instance:Od Py Px:=⟨λa=>by simp[Px,Py,OE (u:=Xb) (en:=OH) AfO]⟩
def NJ (b:Int):D:=Av b
def Su:Dw.Spec:=NO [] .ground Py Px (λa=>PT a) NJ noE
theorem Xa:NK Tryz.prog 253 Su:=by
 refine fn2 2 (nK 208 AlX<|NG) Tryz.func253<|?_;intro a;unfold PT;refine A 14 ?_;refine lP (E:=λ(s:Int) (_g:Unit)=>[(0,.sl (a.map OH)),(1,.clo 208 []),(7,Av (a.length:Int)),(8,Av s)]) (O:=λ_ _=>[]) () hX<|?_
 rintro b ⟨⟩ nn;dsimp only[Pb];exact B

def RN:Dw.Spec:=NO [] .ground Py Px (λa=>PA a) NX noE
theorem VN:NK Tryz.prog 207 RN:=by
 refine fn2 2 (nK 856317 Xa<|NG) Tryz.func207<|?_;intro a;unfold PA;refine A 9 ?_;refine bD λc b=>cG a rfl rfl (show _=some Su from by kernel_rfl) Od.ok rfl rfl (by simp) r b r<|?_
 exact B

def Aeb (a:NM×Lo):List D:=[Rc a.1,NR a.2]
def Aea (ds:List D):NM×Lo:=(Tt (ds.getD 0 .top),RD (ds.getD 1 .top))
instance:Od Aeb Aea:=⟨λa=>by simp[Aea,Aeb]⟩
def Asj (b:RQ):D:=Alo b
def Asl:Dw.Spec:=NO [] .ground Aeb Aea (λa=>WZ a.1 a.2) Asj noE
theorem AqF:NK Tryz.prog 266 Asl:=by
 refine fn2 2 (NG) Tryz.func266<|?_;intro a;unfold WZ;exact B

def VW (a:NH):List D:=[NZ a]
def VV (ds:List D):NH:=PW (ds.getD 0 .top)
instance:Od VW VV:=⟨λa=>by simp[VV,VW]⟩
def Aia (b:(List Int)×NH):D:=.sl (b.1.map NF)
def AhZ (b:(List Int)×NH):List D:=[NZ b.2]
def Aib:Dw.Spec:=NO [(0,(8,255))] (.row 1 3) VW VV (λa=>QG a) Aia AhZ
theorem Sn:NK Tryz.prog 220 Aib:=by
 refine fn2 1 (nK 262 Ayk<|NG) Tryz.func220<|?_;intro a;unfold QG;refine A 18 ?_;refine lP (E:=λ(s:(List Int)×Int) (g:Nat)=>[(3,.osl 3 g 0 s.1.length),(6,.optr 8192 0 0 0),(7,Av s.2)]) (O:=λs g=>[(3,dW g 1 3 (s.1.map NF)),(8192,dV 0 8 255 (NZ a))]) _ hX<|?_
 rintro⟨e,b⟩ f nn;dsimp only[AaZ];refine Ac 6 ?_ ?_
 ·refine A 8 ?_;refine cK λhq=>QD r r r hq<|bD λc d=>Qy (q:=c) (l:=a.toList) (en:=ZF) (j:=b.toNat) (by simp) r r r d r (λ_=>r)<|?_
  refine A 5 ?_;refine lP (E:=λ(s:(List Int)×Int) (g:Nat)=>[(3,.osl 3 g 0 s.1.length),(4,Av b),(5,Akn s.2),(6,.optr 8192 0 0 0),(7,Av b)]) (O:=λs g=>[(3,dW g 1 3 (s.1.map NF)),(8192,dV 0 8 255 (NZ a))]) _ hX<|?_
  rintro⟨h,i⟩ k nn;dsimp only[Aba];exact B
 ·exact B

def AaM (a:NU×Int):List D:=[PX a.1,Av a.2]
def AaL (ds:List D):NU×Int:=(Uy (ds.getD 0 .top),uI (ds.getD 1 .top))
instance:Od AaM AaL:=⟨λa=>by simp[AaL,AaM,uI]⟩
def Anz:Dw.Spec:=NO [] .ground AaM AaL (λa=>Sx a.1 a.2) NX noE
theorem Agd:NK Tryz.prog 263 Anz:=by
 refine fn2 2 (nK 264 Ahe<|NG) Tryz.func263<|?_;intro a;unfold Sx;exact B

def AgI:Dw.Spec:=NO [] .ground Se Sd (λa=>SL a.1 a.2) NX noE
theorem Age:NK Tryz.prog 222 AgI:=by
 refine fn2 2 (nK 224 YB<|nK 263 Agd<|NG) Tryz.func222<|?_;intro a;unfold SL;exact B

def Aqx:Dw.Spec:=NO [] .ground WB WA (λa=>Aem a.1 a.2) NX noE
theorem AoZ:NK Tryz.prog 140 Aqx:=by
 refine fn2 2 (NG) Tryz.func140<|?_;rintro⟨a,b⟩;unfold Aem;refine Ac 17 ?_ ?_
 ·exact B
 ·refine A 9 ?_;refine lP (E:=λ(s:Int) (g:Nat)=>[(1,.sl (b.map NF)),(2,.optr 2 g 0 0),(5,Av s)]) (O:=λ_ g=>[(2,dV g 3 36 (NR a))]) _ hX<|?_
  rintro c e nn;dsimp only[AiE];refine Ac 9 ?_ ?_
  ·refine Ab 8 λf h=>?_
   refine A 4 ?_;refine RS r ?_ ?_
   ·exact B
   ·refine Ab 2 λi j=>?_
    refine Ac 8 ?_ ?_
    ·exact B
    ·refine A 8 ?_;exact xL (s:=i64.wrap (c+1)) _ hX
  ·refine A 12 ?_;refine lP (E:=λ(s:Int) (g:Nat)=>[(1,.sl (b.map NF)),(2,.optr 2 g 0 0),(6,Av s)]) (O:=λ_ g=>[(2,dV g 3 36 (NR a))]) _ hX<|?_
   rintro d k nn;dsimp only[AiF];refine Ac 9 ?_ ?_
   ·refine Ab 10 λl m=>?_
    refine Ab 2 λo p=>?_
    refine Ab 6 λq t=>?_
    refine A 5 ?_;refine RS r ?_ ?_
    ·exact B
    ·refine Ab 3 λu v=>?_
     refine Ab 2 λx z=>?_
     refine Ab 4 λaa ab=>?_
     refine Ac 6 ?_ ?_
     ·exact B
     ·refine A 8 ?_;exact xL (s:=i64.wrap (d+1)) _ hX
   ·exact B

def Aqe:Dw.Spec:=NO [] .ground Ym Yl (λa=>Sr a) NX noE
theorem AdN:NK Tryz.prog 204 Aqe:=by
 refine fn2 1 (nK 130 Aan<|NG) Tryz.func204<|?_;intro a;unfold Sr;exact B

def AnM:Dw.Spec:=NO [] .ground WL WK (λa=>YE a.1 a.2) NX noE
theorem AmT:NK Tryz.prog 227 AnM:=by
 refine fn2 2 (nK 204 AdN<|NG) Tryz.func227<|?_;intro a;unfold YE;exact B

def AdP (a:(List NU)×NU):List D:=[.sl (a.1.map PX),PX a.2]
def AdO (ds:List D):(List NU)×NU:=((uL Uy) (ds.getD 0 .top),Uy (ds.getD 1 .top))
instance:Od AdP AdO:=⟨λa=>by simp[AdO,AdP,OE (u:=Uy) (en:=PX) Amq]⟩
def ArL:Dw.Spec:=NO [] .ground AdP AdO (λa=>AcN a.1 a.2) NX noE
theorem Aqg:NK Tryz.prog 252 ArL:=by
 refine fn2 2 (nK 227 AmT<|NG) Tryz.func252<|?_;rintro⟨b,a⟩;unfold AcN;refine A 13 ?_;refine lP (E:=λ(s:Int) (g:Nat)=>[(0,.sl (b.map PX)),(3,.optr 3 g 0 0),(5,Av s)]) (O:=λ_ g=>[(3,dV g 2 186 (.agg [Av a.Off,Av a.Size]))]) _ hX<|?_
 rintro c d nn;dsimp only[Afd];exact B

end
end Go.Proofs.YtcaoepecbgggcaaGreatDoor
