/-
 The code does what its typed programs say.
-/
import Derived.Test.YtcaoepecbgggcaaGreatDoorProg
import Derived.Test.YtcaoepecbgggcaaGreatDoorDc
import Derived.KernelRfl
import Derived.Test.YtcaoepecbgggcaaGreatDoorDxP
import Derived.Test.YtcaoepecbgggcaaGreatDoorDxF1
import Derived.Test.YtcaoepecbgggcaaGreatDoorDxF2
import Derived.Test.YtcaoepecbgggcaaGreatDoorDxF3
import Derived.Test.YtcaoepecbgggcaaGreatDoorDxF4
namespace Go.Proofs.YtcaoepecbgggcaaGreatDoor
open Go Go.Dw Go.Proofs
open Go.IntKind (i64)
set_option maxRecDepth 100000
set_option maxHeartbeats 40000000
open Go.Dw renaming OQ -> bD,RW -> cG,PX -> cD,PH -> xL,Qm -> lP,Abo -> mF,rf -> r
noncomputable section
def Tj (a:(List Int)):List D:=[.sl (a.map Mk)]
def Ti (ds:List D):(List Int):=(uL uI) (ds.getD 0 .top)
instance:Od Tj Ti:=⟨λa=>by simp[Ti,Tj,OG (u:=uI) (en:=Mk) (λ_=>rfl)]⟩
def AlG (b:NI):D:=NY b
def AlH:Dw.Spec:=NN [] (.ptr 8 255) Tj Ti (λa=>QC a) AlG noE
theorem Sp:NL Tryz.prog 219 AlH:=by
 refine fn2 1 (nK 231 Xf<|NG) Tryz.func219<|?_;intro a;unfold QC;refine A 21 ?_;refine lP (E:=λ(s:NI×Int) (g:Nat)=>[(3,.optr 7 g 0 0),(8,.sl (a.map Mk)),(9,Av (a.length:Int)),(10,Av s.2)]) (O:=λs g=>[(7,dV g 8 255 (NY s.1))]) _ hX<|?_
 rintro⟨b,c⟩ d nn;dsimp only[AeU];exact B

def QG (a:(List Int)×Int):List D:=[.sl (a.1.map Mk),Av a.2]
def QF (ds:List D):(List Int)×Int:=((uL uI) (ds.getD 0 .top),uI (ds.getD 1 .top))
instance:Od QG QF:=⟨λa=>by simp[QF,QG,uI,OG (u:=uI) (en:=Mk) (λ_=>rfl)]⟩
def Aps:Dw.Spec:=NN [] .ground QG QF (λa=>Abz a.1 a.2) NX noE
theorem Aof:NL Tryz.prog 172 Aps:=by
 refine fn2 2 (nK 219 Sp<|nK 232 AgT<|NG) Tryz.func172<|?_;intro a;unfold Abz;exact B

def Qa (a:(List Int)×NI):List D:=[.sl (a.1.map Mk),.clo 234 [.fptr (.fptr (NY a.2) 0) 0]]
def PZ (ds:List D):(List Int)×NI:=((uL uI) (ds.getD 0 .top),PM (fpD (fpD (AdY (ds.getD 1 .top) 0))))
instance:Od Qa PZ:=⟨λa=>by simp[PZ,Qa,fpD,AdY,OG (u:=uI) (en:=Mk) (λ_=>rfl)]⟩
def TN:Dw.Spec:=NN [] .ground Qa PZ (λa=>Qv a.1 a.2) NK noE
theorem Yw:NL Tryz.prog 267 TN:=by
 refine fn2 2 (nK 234 AgS<|NG) Tryz.func267<|?_;rintro⟨a,b⟩;unfold Qv;refine A 14 ?_;refine lP (E:=λ(s:Int) (_g:Unit)=>[(0,.sl (a.map Mk)),(1,.clo 234 [.fptr (.fptr (NY b) 0) 0]),(7,Av (a.length:Int)),(8,Av s)]) (O:=λ_ _=>[]) () hX<|?_
 rintro c ⟨⟩ nn;dsimp only[Ty];exact B

def Te:Dw.Spec:=NN [] .ground Qa PZ (λa=>Qc a.1 a.2) NX noE
theorem Xx:NL Tryz.prog 233 Te:=by
 refine fn2 2 (nK 962827 Yw<|NG) Tryz.func233<|?_;rintro⟨a,b⟩;unfold Qc;refine A 9 ?_;refine bD λd c=>cG (a,b) rfl rfl (show _=some TN from by kernel_rfl) Od.ok rfl rfl (by simp) r c r<|?_
 exact B

def Rh (a:(List Int)×(List Int)):List D:=[.sl (a.1.map Mk),.sl (a.2.map Mk)]
def Rg (ds:List D):(List Int)×(List Int):=((uL uI) (ds.getD 0 .top),(uL uI) (ds.getD 1 .top))
instance:Od Rh Rg:=⟨λa=>by simp[Rg,Rh,OG (u:=uI) (en:=Mk) (λ_=>rfl)]⟩
def AlF:Dw.Spec:=NN [] .ground Rh Rg (λa=>XX a.1 a.2) NX noE
theorem AkO:NL Tryz.prog 173 AlF:=by
 refine fn2 2 (nK 219 Sp<|nK 962793 Xx<|NG) Tryz.func173<|?_;rintro⟨b,d⟩;unfold XX;refine Ab 8 λa e=>?_
 refine A 4 ?_;refine Qh (E:=[(0,.sl (b.map Mk)),(5,.fptr (.fptr (NY a) 0) 0)]) (O:=[]) ((hV 7 r (hV 5 r (hY)))) λnn=>?_
 refine A 3 ?_;refine mF (caps:=[.fptr (.fptr (NY a) 0) 0]) r r (by simp[SB])<|bD λf c=>cG (b,a) rfl rfl (show _=some Te from by kernel_rfl) Od.ok rfl rfl (by simp) r c r<|?_
 exact B

def OC (b:(List Int)):D:=.sl (b.map Mk)
def AiV:Dw.Spec:=NN [] (.row 1 3) QG QF (λa=>Aby a.1 a.2) OC noE
theorem Ais:NL Tryz.prog 171 AiV:=by
 refine fn2 2 (nK 219 Sp<|nK 231 Xf<|nK 220 RZ<|NG) Tryz.func171<|?_;intro a;unfold Aby;exact B

def AmG:Dw.Spec:=NN [] .ground Tj Ti (λa=>YO a) NX noE
theorem AfV:NL Tryz.prog 211 AmG:=by
 refine fn2 1 (nK 254 UH<|NG) Tryz.func211<|?_;intro a;unfold YO;refine A 14 ?_;refine lP (E:=λ(s:Int) (_g:Unit)=>[(0,.sl (a.map Mk)),(5,.sl (a.map Mk)),(6,Av (a.length:Int)),(7,Av s)]) (O:=λ_ _=>[]) () hX<|?_
 rintro b ⟨⟩ nn;dsimp only[SP];exact B

def Pe (a:(List Int)):List D:=[.sl (a.map Mk),.clo 271 []]
def PL (ds:List D):(List Int):=(uL uI) (ds.getD 0 .top)
instance:Od Pe PL:=⟨λa=>by simp[PL,Pe,OG (u:=uI) (en:=Mk) (λ_=>rfl)]⟩
def Tf:Dw.Spec:=NN [] .ground Pe PL (λa=>Ps a) NK noE
theorem Xy:NL Tryz.prog 267 Tf:=by
 refine fn2 2 (nK 271 Ahk<|NG) Tryz.func267<|?_;intro a;unfold Ps;refine A 14 ?_;refine lP (E:=λ(s:Int) (_g:Unit)=>[(0,.sl (a.map Mk)),(1,.clo 271 []),(7,Av (a.length:Int)),(8,Av s)]) (O:=λ_ _=>[]) () hX<|?_
 rintro b ⟨⟩ nn;dsimp only[QP];exact B

def Sn:Dw.Spec:=NN [] .ground Pe PL (λa=>Pf a) NX noE
theorem WN:NL Tryz.prog 233 Sn:=by
 refine fn2 2 (nK 1114379 Xy<|NG) Tryz.func233<|?_;intro a;unfold Pf;refine A 9 ?_;refine bD λc b=>cG a rfl rfl (show _=some Tf from by kernel_rfl) Od.ok rfl rfl (by simp) r b r<|?_
 exact B

def Aoz:Dw.Spec:=NN [] .ground Tj Ti (λa=>Aap a) NX noE
theorem Ahr:NL Tryz.prog 226 Aoz:=by
 refine fn2 1 (nK 125 Aiy<|NG) Tryz.func226<|?_;intro b;unfold Aap;refine A 12 ?_;refine lP (E:=λ(s:Int) (_g:Unit)=>[(0,.sl (b.map Mk)),(3,Av s)]) (O:=λ_ _=>[]) () hX<|?_
 rintro a ⟨⟩ nn;dsimp only[TG];refine Ac 9 ?_ ?_
 ·refine Ab 8 λc d=>?_
  refine Ab 2 λe f=>?_
  refine A 3 ?_;refine Tz r ?_ ?_
  ·exact B
  ·refine A 3 ?_;refine Tz r ?_ ?_
   ·refine Ab 2 λg h=>?_
    refine Ab 5 λi j=>?_
    refine Ac 7 ?_ ?_
    ·exact B
    ·refine A 8 ?_;exact xL (s:=i64.wrap (a+1)) () hX
   ·refine A 23 ?_;exact xL (s:=i64.wrap (a+1)) () hX
 ·exact B

end
end Go.Proofs.YtcaoepecbgggcaaGreatDoor
