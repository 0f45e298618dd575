/-
 The code does what its typed programs say.
-/
import Derived.Test.YtcaoepecbgggcaaGreatDoorDxF6
import Derived.Test.YtcaoepecbgggcaaGreatDoorDxF8
import Derived.Test.YtcaoepecbgggcaaGreatDoorDxF9
namespace Go.Proofs.YtcaoepecbgggcaaGreatDoor
open Go Go.Dw Go.Proofs
open Go.IntKind (i64)
set_option maxRecDepth 100000
set_option maxHeartbeats 40000000
open Go.Dw renaming ON -> bD,PL -> cD,QZ -> xC,Pn -> xL,AgC -> cP,Qb -> lP,PI -> sC,Acl -> mF,rf -> r
noncomputable section
def Aou:Dw.Spec:=NO [] .val Rt Rs (λa=>Un a.1 a.2) OC noE
theorem AgX:NK Tryz.prog 216 Aou:=by
 refine fn2 2 (nK 219 SC<|nK 1069315 Acx<|nK 220 Sn<|NG) Tryz.func216<|?_;rintro⟨d,e⟩;unfold Un;refine Ab 8 λa f=>?_
 refine Ab 2 λb g=>?_
 refine A 1 ?_;refine bD λh c=>cP (a,b) rfl rfl (show _=some Xx from by kernel_rfl) Od.ok rfl rfl (by simp) r c<|?_
 exact B

def Wj (a:Mk×(List Int)):List D:=[NY a.1,.sl (a.2.map NF)]
def Wi (ds:List D):Mk×(List Int):=(SR (ds.getD 0 .top),(uL uI) (ds.getD 1 .top))
instance:Od Wj Wi:=⟨λa=>by simp[Wi,Wj,OE (u:=uI) (en:=NF) (λ_=>rfl)]⟩
def AsJ:Dw.Spec:=NO [] .val Wj Wi (λa=>AeD a.1 a.2) OC noE
theorem Arj:NK Tryz.prog 257 AsJ:=by
 refine fn2 2 (nK 159 UR<|nK 278 Amv<|nK 158 Ail<|nK 160 Akg<|nK 216 AgX<|NG) Tryz.func257<|?_;intro a;unfold AeD;exact B

def Aot:Dw.Spec:=NO [] .val Rt Rs (λa=>XI a.1 a.2) OC noE
theorem Anl:NK Tryz.prog 217 Aot:=by
 refine fn2 2 (nK 219 SC<|nK 1073411 Acw<|nK 220 Sn<|NG) Tryz.func217<|?_;rintro⟨d,e⟩;unfold XI;refine Ab 8 λa f=>?_
 refine Ab 2 λb g=>?_
 refine A 1 ?_;refine bD λh c=>cP (a,b) rfl rfl (show _=some Xv from by kernel_rfl) Od.ok rfl rfl (by simp) r c<|?_
 exact B

def TG (a:(List Int)×(List Int)×Ob×Int):List D:=[.sl (a.1.map NF),.sl (a.2.1.map NF),.fptr (Td a.2.2.1) 0,.fptr (Av a.2.2.2) 0]
def TF (ds:List D):(List Int)×(List Int)×Ob×Int:=((uL uI) (ds.getD 0 .top),(uL uI) (ds.getD 1 .top),VU (fpD (ds.getD 2 .top)),uI (fpD (ds.getD 3 .top)))
instance:Od TG TF:=⟨λa=>by simp[TF,TG,uI,fpD,OE (u:=uI) (en:=NF) (λ_=>rfl)]⟩
def Yh (b:Bool×(List Int)):D:=.bool b.1
def AeI (b:Bool×(List Int)):List D:=[.sl (b.2.map NF)]
def AeJ:Dw.Spec:=NO [(1,(1,37))] .val TG TF (λa=>SS a.1 a.2.1 a.2.2.1 a.2.2.2) Yh AeI
theorem AdD:NK Tryz.prog 215 AeJ:=by
 refine fn2 4 (nK 217 Anl<|nK 216 AgX<|NG) Tryz.func215<|?_;rintro⟨b,c,d,e⟩;unfold SS;refine Ab 12 λf g=>?_
 refine Ab 2 λh j=>?_
 refine Ab 1 λa k=>?_
 refine A 1 ?_;refine Aer (i:=0) (es':=[.sl (a.map NF)]) r r r r r r r (by first|trivial|(simp;done)|(simp;omega)) r r r r r r<|?_
 exact B

def RH (b:Mk):D:=NY b
def AmF:Dw.Spec:=NO [] .ground Wj Wi (λa=>XP a.1 a.2) RH noE
theorem AlV:NK Tryz.prog 161 AmF:=by
 refine fn2 2 (nK 221 Ahz<|NG) Tryz.func161<|?_;rintro⟨b,a⟩;unfold XP;refine A 6 ?_;refine Qq (E:=[(2,.optr 2 _ 0 0),(3,.fptr (.sl (a.map NF)) 0),(4,.optr 4 _ 0 0)]) (O:=[(2,dV _ 5 90 (NY b)),(4,dV _ 5 90 (.agg [Av 0,Av 0,Av 0,Av 0,Akn 0]))]) ((hV 3 r (hY))) λnn=>?_
 refine A 2 ?_;refine mF (caps:=[.fptr (.sl (a.map NF)) 0]) r r (by simp[SO])<|?_
 exact B

def AoR:Dw.Spec:=NO [] (.row 1 3) QO QN (λa=>ZW a.1 a.2) OC noE
theorem AnN:NK Tryz.prog 206 AoR:=by
 refine fn2 2 (NG) Tryz.func206<|?_;rintro⟨c,d⟩;unfold ZW;refine A 17 ?_;refine lP (E:=λ(s:(List Int)×Int) (g:Nat)=>[(0,.sl (c.map NF)),(1,Av d),(5,.osl 5 g 0 s.1.length),(6,Av s.2)]) (O:=λs g=>[(5,dW g 1 3 (s.1.map NF))]) _ hX<|?_
 rintro⟨a,b⟩ f nn;dsimp only[UF];refine Ac 9 ?_ ?_
 ·refine Ab 8 λh i=>?_
  refine Ac 6 ?_ ?_
  ·refine Ab 4 λe j=>?_
   refine A 13 ?_;exact xL (s:=(a++([e]:List Int),i64.wrap (b+1))) _ hX
  ·refine A 8 ?_;exact xL (s:=(a,i64.wrap (b+1))) _ hX
 ·exact B

def ArP:Dw.Spec:=NO [] (.row 1 3) Qi Qh (λa=>Vm a) OC noE
theorem AjJ:NK Tryz.prog 142 ArP:=by
 refine fn2 1 (NG) Tryz.func142<|?_;intro a;unfold Vm;exact B

def Ata:Dw.Spec:=NO [] (.row 1 3) QO QN (λa=>WQ a.1 a.2) OC noE
theorem Agl:NK Tryz.prog 67 Ata:=by
 refine fn2 2 (nK 125 AjH<|NG) Tryz.func67<|?_;rintro⟨a,b⟩;unfold WQ;refine Ab 13 λf h=>?_
 refine A 12 ?_;refine lP (E:=λ(s:(List Int)×Bool×Int) (g:Nat)=>[(0,.sl (a.map NF)),(1,Av b),(5,.osl 5 g 0 s.1.length),(6,.bool s.2.1),(7,Av s.2.2)]) (O:=λs g=>[(5,dW g 1 3 (s.1.map NF))]) _ hX<|?_
 rintro⟨d,e,c⟩ i nn;dsimp only[Ss];refine Ac 9 ?_ ?_
 ·refine A 4 ?_;refine sC (E:=λ(s:(List Int)×Bool) (g:Nat)=>[(0,.sl (a.map NF)),(1,Av b),(5,.osl 5 g 0 s.1.length),(6,.bool s.2),(7,Av c)]) (O:=λs g=>[(5,dW g 1 3 (s.1.map NF))]) (j:=λs=>Tl a c s.1 s.2) ?_ ?_
  ·refine sC (E:=λ(s:Bool) (g:Nat)=>[(0,.sl (a.map NF)),(1,Av b),(5,.osl 5 g 0 d.length),(6,.bool e),(7,Av c),(26,.bool s)]) (O:=λ_ g=>[(5,dW g 1 3 (d.map NF))]) (j:=λs=>Uw a c b d e s) ?_ ?_
   ·exact B
   ·rintro k l nn;dsimp only[Uw];exact B
  ·rintro⟨m,o⟩ p nn;dsimp only[Tl];exact B
 ·exact B

end
end Go.Proofs.YtcaoepecbgggcaaGreatDoor
