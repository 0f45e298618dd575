/-
 The code does what its typed programs say.
-/
import Derived.Test.YtcaoepecbgggcaaGreatDoorDxP
namespace Go.Proofs.YtcaoepecbgggcaaGreatDoor
open Go Go.Dw Go.Proofs
open Go.IntKind (i64)
set_option maxRecDepth 100000
set_option maxHeartbeats 40000000
open Go.Dw renaming ON -> bD,Ts -> bS,PL -> cD,QZ -> xC,Pn -> xL,Qb -> lP,PI -> sC,rf -> r
def TM (a:NL):List D:=[PV a]
def TL (ds:List D):NL:=Vs (ds.getD 0 .top)
instance:Od TM TL:=⟨λa=>by simp[TL,TM]⟩
def AlG (b:Bool×NL):D:=.bool b.1
def AlF (b:Bool×NL):List D:=[PV b.2]
noncomputable def AlH:Dw.Spec:=NO [(0,(2,114))] .val TM TL (λa=>Ze a) AlG AlF
theorem Akq:NK Tryz.prog 64 AlH:=by
 refine fn2 1 (NG) Tryz.func64<|?_;intro a;unfold Ze;exact B

def VQ (a:NL×Int):List D:=[PV a.1,Av a.2]
def VP (ds:List D):NL×Int:=(Vs (ds.getD 0 .top),uI (ds.getD 1 .top))
instance:Od VQ VP:=⟨λa=>by simp[VP,VQ,uI]⟩
def Afl (b:Int×NL):D:=Av b.1
def AlI (b:Int×NL):List D:=[PV b.2]
noncomputable def AlJ:Dw.Spec:=NO [(0,(2,114))] .val VQ VP (λa=>Oc a.1 a.2) Afl AlI
theorem RF:NK Tryz.prog 22 AlJ:=by
 refine fn2 2 (nK 64 Akq<|NG) Tryz.func22<|?_;rintro⟨d,a⟩;unfold Oc;refine A 5 ?_;refine sC (E:=λ(_s:(List Int)×Int) (_g:Unit)=>[(0,.optr 8192 0 0 0),(1,Av a)]) (O:=λs _=>[(8192,dV 0 2 114 (.agg [.sl (s.1.map eU8),Av s.2]))]) (j:=λs=>WD a s.1 s.2) ?_ ?_
 ·exact B
 ·rintro⟨b,c⟩ ⟨⟩ nn;dsimp only[WD];refine Ab 10 λe f=>?_
  refine A 15 ?_;refine Aer (i:=0) (es':=[.agg [.sl (b.map eU8),Av (i64.wrap (c+1))]]) r r r r r r r (by first|trivial|(simp;done)|(simp;omega)) r r r r r r<|?_
  exact B

def AlL (b:NS×NL):D:=OH b.1
def AlK (b:NS×NL):List D:=[PV b.2]
noncomputable def AlM:Dw.Spec:=NO [(0,(2,114))] .val TM TL (λa=>Zf a) AlL AlK
theorem Akr:NK Tryz.prog 49 AlM:=by
 refine fn2 1 (nK 22 RF<|NG) Tryz.func49<|?_;intro a;unfold Zf;refine A 7 ?_;refine bS ([8,4,8,1,2,16,8]:List Int) NF r r r (by simp) r r r<|?_
 refine Ab 1 λb c=>?_
 refine Ab 2 λd e=>?_
 refine A 1 ?_;refine bS ([8,4,1,8,16,2,32,64]:List Int) NF r r r (by simp) r r r<|?_
 exact B

def Akt (b:(List NS)×NL):D:=.sl (b.1.map OH)
def Aks (b:(List NS)×NL):List D:=[PV b.2]
noncomputable def Aku:Dw.Spec:=NO [(0,(2,114))] (.row 2 87) VQ VP (λa=>VA a.1 a.2) Akt Aks
theorem AjU:NK Tryz.prog 131 Aku:=by
 refine fn2 2 (nK 22 RF<|nK 49 Akr<|NG) Tryz.func131<|?_;rintro⟨b,c⟩;unfold VA;refine Ab 16 λd e=>?_
 refine A 5 ?_;refine lP (E:=λ(s:(List Int)×Int×(List NS)×Int) (g:Nat)=>[(0,.optr 8192 0 0 0),(5,.osl 5 g 0 s.2.2.1.length),(6,Av s.2.2.2)]) (O:=λs g=>[(5,dW g 2 87 (s.2.2.1.map OH)),(8192,dV 0 2 114 (.agg [.sl (s.1.map eU8),Av s.2.1]))]) _ hX<|?_
 rintro⟨f,c5,h,i⟩ j nn;dsimp only[Adp];refine Ac 7 ?_ ?_
 ·refine Ab 7 λa k=>?_
  refine A 1 ?_;refine bS ([a.1]:List NS) OH r r r (by simp) r r r<|?_
  exact B
 ·exact B

def Za (a:NL×Lo×Int):List D:=[PV a.1,NR a.2.1,Av a.2.2]
def YZ (ds:List D):NL×Lo×Int:=(Vs (ds.getD 0 .top),RD (ds.getD 1 .top),uI (ds.getD 2 .top))
instance:Od Za YZ:=⟨λa=>by simp[YZ,Za,uI]⟩
def AlT (b:Int×NL):List D:=[PV b.2]
noncomputable def AlU:Dw.Spec:=NO [(0,(2,114))] .val Za YZ (λa=>Zg a.1 a.2.1 a.2.2) Afl AlT
theorem Akw:NK Tryz.prog 194 AlU:=by
 refine fn2 3 (nK 22 RF<|NG) Tryz.func194<|?_;rintro⟨a,b,c⟩;unfold Zg;refine A 18 ?_;refine lP (E:=λ(s:(List Int)×Int) (g:Nat×Nat)=>[(0,.optr 8192 0 0 0),(2,Av c),(4,.optr 4 g.1 0 0),(7,.osl 7 g.2 0 s.1.length),(8,Av s.2)]) (O:=λs g=>[(4,dV g.1 3 36 (NR b)),(7,dW g.2 1 3 (s.1.map NF)),(8192,dV 0 2 114 (.agg [.sl (a.list.map eU8),Av a.at_]))]) (_,_) hX<|?_
 rintro⟨d,k5⟩ ⟨e,f⟩ nn;dsimp only[Aez];exact B

def AlO (b:Int×NL):D:=Akn b.1
def AlN (b:Int×NL):List D:=[PV b.2]
noncomputable def AlP:Dw.Spec:=NO [(0,(2,114))] .val TM TL (λa=>WG a) AlO AlN
theorem Aey:NK Tryz.prog 48 AlP:=by
 refine fn2 1 (nK 22 RF<|NG) Tryz.func48<|?_;intro a;unfold WG;exact B

end Go.Proofs.YtcaoepecbgggcaaGreatDoor
