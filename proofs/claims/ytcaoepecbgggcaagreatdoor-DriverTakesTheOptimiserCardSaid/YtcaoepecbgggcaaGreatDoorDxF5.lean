/-
 The code does what its typed programs say.
-/
import Derived.Test.YtcaoepecbgggcaaGreatDoorDxF3
import Derived.Test.YtcaoepecbgggcaaGreatDoorDxF4
namespace Go.Proofs.YtcaoepecbgggcaaGreatDoor
open Go Go.Dw Go.Proofs
open Go.IntKind (i64)
set_option maxRecDepth 100000
set_option maxHeartbeats 40000000
open Go.Dw renaming ON -> bD,Sj -> cG,PL -> cD,Pn -> xL,Qb -> lP,Acl -> mF,rf -> r
noncomputable section
def Tv (a:(List Int)):List D:=[.sl (a.map NF)]
def Tu (ds:List D):(List Int):=(uL uI) (ds.getD 0 .top)
instance:Od Tv Tu:=⟨λa=>by simp[Tu,Tv,OE (u:=uI) (en:=NF) (λ_=>rfl)]⟩
def Ano (b:NH):D:=NZ b
def Anp:Dw.Spec:=NO [] (.ptr 8 255) Tv Tu (λa=>QJ a) Ano noE
theorem SC:NK Tryz.prog 219 Anp:=by
 refine fn2 1 (nK 231 XL<|NG) Tryz.func219<|?_;intro a;unfold QJ;refine A 21 ?_;refine lP (E:=λ(s:NH×Int) (g:Nat)=>[(3,.optr 7 g 0 0),(8,.sl (a.map NF)),(9,Av (a.length:Int)),(10,Av s.2)]) (O:=λs g=>[(7,dV g 8 255 (NZ s.1))]) _ hX<|?_
 rintro⟨b,c⟩ d nn;dsimp only[AfV];exact B

def QO (a:(List Int)×Int):List D:=[.sl (a.1.map NF),Av a.2]
def QN (ds:List D):(List Int)×Int:=((uL uI) (ds.getD 0 .top),uI (ds.getD 1 .top))
instance:Od QO QN:=⟨λa=>by simp[QN,QO,uI,OE (u:=uI) (en:=NF) (λ_=>rfl)]⟩
def AqX:Dw.Spec:=NO [] .ground QO QN (λa=>Acv a.1 a.2) NX noE
theorem ApN:NK Tryz.prog 172 AqX:=by
 refine fn2 2 (nK 219 SC<|nK 232 AhY<|NG) Tryz.func172<|?_;intro a;unfold Acv;exact B

def Ql (a:(List Int)×NH):List D:=[.sl (a.1.map NF),.clo 234 [.fptr (.fptr (NZ a.2) 0) 0]]
def Qk (ds:List D):(List Int)×NH:=((uL uI) (ds.getD 0 .top),PW (fpD (fpD (AeV (ds.getD 1 .top) 0))))
instance:Od Ql Qk:=⟨λa=>by simp[Qk,Ql,fpD,AeV,OE (u:=uI) (en:=NF) (λ_=>rfl)]⟩
def Ud:Dw.Spec:=NO [] .ground Ql Qk (λa=>QC a.1 a.2) NJ noE
theorem Zb:NK Tryz.prog 267 Ud:=by
 refine fn2 2 (nK 234 AhX<|NG) Tryz.func267<|?_;rintro⟨a,b⟩;unfold QC;refine A 14 ?_;refine lP (E:=λ(s:Int) (_g:Unit)=>[(0,.sl (a.map NF)),(1,.clo 234 [.fptr (.fptr (NZ b) 0) 0]),(7,Av (a.length:Int)),(8,Av s)]) (O:=λ_ _=>[]) () hX<|?_
 rintro c ⟨⟩ nn;dsimp only[TO];exact B

def Tn:Dw.Spec:=NO [] .ground Ql Qk (λa=>Qm a.1 a.2) NX noE
theorem Ye:NK Tryz.prog 233 Tn:=by
 refine fn2 2 (nK 962827 Zb<|NG) Tryz.func233<|?_;rintro⟨a,b⟩;unfold Qm;refine A 9 ?_;refine bD λd c=>cG (a,b) rfl rfl (show _=some Ud from by kernel_rfl) Od.ok rfl rfl (by simp) r c r<|?_
 exact B

def Rt (a:(List Int)×(List Int)):List D:=[.sl (a.1.map NF),.sl (a.2.map NF)]
def Rs (ds:List D):(List Int)×(List Int):=((uL uI) (ds.getD 0 .top),(uL uI) (ds.getD 1 .top))
instance:Od Rt Rs:=⟨λa=>by simp[Rs,Rt,OE (u:=uI) (en:=NF) (λ_=>rfl)]⟩
def Ann:Dw.Spec:=NO [] .ground Rt Rs (λa=>Yz a.1 a.2) NX noE
theorem Amx:NK Tryz.prog 173 Ann:=by
 refine fn2 2 (nK 219 SC<|nK 962793 Ye<|NG) Tryz.func173<|?_;rintro⟨b,d⟩;unfold Yz;refine Ab 8 λa e=>?_
 refine A 4 ?_;refine Qq (E:=[(0,.sl (b.map NF)),(5,.fptr (.fptr (NZ a) 0) 0)]) (O:=[]) ((hV 7 r (hV 5 r (hY)))) λnn=>?_
 refine A 3 ?_;refine mF (caps:=[.fptr (.fptr (NZ a) 0) 0]) r r (by simp[SO])<|bD λf c=>cG (b,a) rfl rfl (show _=some Tn from by kernel_rfl) Od.ok rfl rfl (by simp) r c r<|?_
 exact B

def OC (b:(List Int)):D:=.sl (b.map NF)
def Akf:Dw.Spec:=NO [] (.row 1 3) QO QN (λa=>Acu a.1 a.2) OC noE
theorem AjB:NK Tryz.prog 171 Akf:=by
 refine fn2 2 (nK 219 SC<|nK 231 XL<|nK 220 Sn<|NG) Tryz.func171<|?_;intro a;unfold Acu;exact B

def Aos:Dw.Spec:=NO [] .ground Tv Tu (λa=>Zy a) NX noE
theorem AgW:NK Tryz.prog 211 Aos:=by
 refine fn2 1 (nK 254 UY<|NG) Tryz.func211<|?_;intro a;unfold Zy;refine A 14 ?_;refine lP (E:=λ(s:Int) (_g:Unit)=>[(0,.sl (a.map NF)),(5,.sl (a.map NF)),(6,Av (a.length:Int)),(7,Av s)]) (O:=λ_ _=>[]) () hX<|?_
 rintro b ⟨⟩ nn;dsimp only[Tb];exact B

def Ph (a:(List Int)):List D:=[.sl (a.map NF),.clo 271 []]
def PU (ds:List D):(List Int):=(uL uI) (ds.getD 0 .top)
instance:Od Ph PU:=⟨λa=>by simp[PU,Ph,OE (u:=uI) (en:=NF) (λ_=>rfl)]⟩
def Tp:Dw.Spec:=NO [] .ground Ph PU (λa=>Pz a) NJ noE
theorem Yf:NK Tryz.prog 267 Tp:=by
 refine fn2 2 (nK 271 Air<|NG) Tryz.func267<|?_;intro a;unfold Pz;refine A 14 ?_;refine lP (E:=λ(s:Int) (_g:Unit)=>[(0,.sl (a.map NF)),(1,.clo 271 []),(7,Av (a.length:Int)),(8,Av s)]) (O:=λ_ _=>[]) () hX<|?_
 rintro b ⟨⟩ nn;dsimp only[QX];exact B

def SA:Dw.Spec:=NO [] .ground Ph PU (λa=>Pj a) NX noE
theorem Xu:NK Tryz.prog 233 SA:=by
 refine fn2 2 (nK 1114379 Yf<|NG) Tryz.func233<|?_;intro a;unfold Pj;refine A 9 ?_;refine bD λc b=>cG a rfl rfl (show _=some Tp from by kernel_rfl) Od.ok rfl rfl (by simp) r b r<|?_
 exact B

def Aqh:Dw.Spec:=NO [] .ground Tv Tu (λa=>Abi a) NX noE
theorem Aiw:NK Tryz.prog 226 Aqh:=by
 refine fn2 1 (nK 125 AjH<|NG) Tryz.func226<|?_;intro b;unfold Abi;refine A 12 ?_;refine lP (E:=λ(s:Int) (_g:Unit)=>[(0,.sl (b.map NF)),(3,Av s)]) (O:=λ_ _=>[]) () hX<|?_
 rintro a ⟨⟩ nn;dsimp only[TV];refine Ac 9 ?_ ?_
 ·refine Ab 8 λc d=>?_
  refine Ab 2 λe f=>?_
  refine A 3 ?_;refine RS r ?_ ?_
  ·exact B
  ·refine A 3 ?_;refine RS r ?_ ?_
   ·refine Ab 2 λg h=>?_
    refine Ab 5 λi j=>?_
    refine Ac 7 ?_ ?_
    ·exact B
    ·refine A 8 ?_;exact xL (s:=i64.wrap (a+1)) () hX
   ·refine A 23 ?_;exact xL (s:=i64.wrap (a+1)) () hX
 ·exact B

end
end Go.Proofs.YtcaoepecbgggcaaGreatDoor
