/-
 The code does what its typed programs say.
-/
import Derived.Test.YtcaoepecbgggcaaGreatDoorProg
import Derived.Test.YtcaoepecbgggcaaGreatDoorDc
import Derived.KernelRfl
import Derived.Test.YtcaoepecbgggcaaGreatDoorDxP
namespace Go.Proofs.YtcaoepecbgggcaaGreatDoor
open Go Go.Dw Go.Proofs
set_option maxRecDepth 100000
set_option maxHeartbeats 40000000
open Go.Dw renaming OQ -> bD,PX -> cD,RJ -> xC,PH -> xL,Qm -> lP,Qd -> sC,rf -> r
noncomputable section
def SD (a:Int×Int):List D:=[Av a.1,Av a.2]
def SC (ds:List D):Int×Int:=(uI (ds.getD 0 .top),uI (ds.getD 1 .top))
instance:Od SD SC:=⟨λa=>by simp[SC,SD,uI]⟩
def NX (b:Bool):D:=.bool b
def AqE:Dw.Spec:=NN [] .ground SD SC (λa=>Sm a.1 a.2) NX noE
theorem AiE:NL Tryz.prog 228 AqE:=by
 refine fn2 2 (NG) Tryz.func228<|?_;intro a;unfold Sm;exact B

def PA (a:Int):List D:=[Av a]
def Pz (ds:List D):Int:=uI (ds.getD 0 .top)
instance:Od PA Pz:=⟨λa=>by simp[Pz,PA,uI]⟩
def AqP:Dw.Spec:=NN [] .ground PA Pz (λa=>Wy a) NX noE
theorem AiH:NL Tryz.prog 209 AqP:=by
 refine fn2 1 (NG) Tryz.func209<|?_;intro a;unfold Wy;exact B

def AmO:Dw.Spec:=NN [] .ground PA Pz (λa=>Qp a) NX noE
theorem YE:NL Tryz.prog 150 AmO:=by
 refine fn2 1 (NG) Tryz.func150<|?_;intro a;unfold Qp;exact B

def PV (a:NH):List D:=[Ob a]
def PU (ds:List D):NH:=SE (ds.getD 0 .top)
instance:Od PV PU:=⟨λa=>by simp[PU,PV]⟩
def XE (b:Int×Bool):D:=.tup [Av b.1,.bool b.2]
def AkV:Dw.Spec:=NN [] .ground PV PU (λa=>RH a) XE noE
theorem UC:NL Tryz.prog 159 AkV:=by
 refine fn2 1 (NG) Tryz.func159<|?_;intro a;unfold RH;exact B

def Wd (a:Lo×(List Int)):List D:=[NQ a.1,.sl (a.2.map Mk)]
def Wc (ds:List D):Lo×(List Int):=(RX (ds.getD 0 .top),(uL uI) (ds.getD 1 .top))
instance:Od Wd Wc:=⟨λa=>by simp[Wc,Wd,OG (u:=uI) (en:=Mk) (λ_=>rfl)]⟩
def AkR:Dw.Spec:=NN [] .ground Wd Wc (λa=>Xi a.1 a.2) NX noE
theorem Akl:NL Tryz.prog 155 AkR:=by
 refine fn2 2 (NG) Tryz.func155<|?_;rintro⟨b,a⟩;unfold Xi;refine Ac 17 ?_ ?_
 ·exact B
 ·refine A 11 ?_;refine lP (E:=λ(s:Int) (g:Nat)=>[(1,.sl (a.map Mk)),(2,.optr 2 g 0 0),(13,.sl (a.map Mk)),(14,Av (a.length:Int)),(15,Av s)]) (O:=λ_ g=>[(2,dV g 3 36 (NQ b))]) _ hX<|?_
  rintro c d nn;dsimp only[ZR];exact B

def Ajr:Dw.Spec:=NN [] .ground PV PU (λa=>XF a) NX noE
theorem AiN:NL Tryz.prog 156 Ajr:=by
 refine fn2 1 (nK 159 UC<|NG) Tryz.func156<|?_;intro a;unfold XF;exact B

def Sj (a:Int×Lo×NU×Oa):List D:=[Av a.1,.fptr (NQ a.2.1) 0,.fptr (Abi a.2.2.1) 0,.fptr (SQ a.2.2.2) 0]
def Si (ds:List D):Int×Lo×NU×Oa:=(uI (ds.getD 0 .top),RX (fpD (ds.getD 1 .top)),Abp (fpD (ds.getD 2 .top)),VC (fpD (ds.getD 3 .top)))
instance:Od Sj Si:=⟨λa=>by simp[Si,Sj,uI,fpD]⟩
def Abq:Dw.Spec:=NN [] .ground Sj Si (λa=>Qx a.1 a.2.1 a.2.2.1 a.2.2.2) XE noE
theorem Abf:NL Tryz.prog 218 Abq:=by
 refine fn2 4 (nK 159 UC<|NG) Tryz.func218<|?_;rintro⟨k1,e,a,c⟩;unfold Qx;refine Ab 11 λf g=>?_
 refine Ab 9 λb h=>?_
 refine A 8 ?_;refine sC (E:=λ(_s:Unit) (_g:Unit)=>[(0,Av k1),(2,.fptr (.agg [.sl (a.To.map Mk),.sl (a.Keep.map D.bool)]) 0),(3,.fptr (.agg [.sl (c.Out.map (eL Mk))]) 0),(8,Av b.1)]) (O:=λ_ _=>[]) (j:=λ_=>Py c k1 a b) ?_ ?_
 ·exact B
 ·rintro⟨⟩ ⟨⟩ nn;dsimp only[Py];refine Ab 6 λd i=>?_
  refine A 7 ?_;refine lP (E:=λ(s:Int) (_g:Unit)=>[(0,Av k1),(2,.fptr (.agg [.sl (a.To.map Mk),.sl (a.Keep.map D.bool)]) 0),(8,Av b.1),(48,.sl (d.map Mk)),(49,Av (d.length:Int)),(50,Av s)]) (O:=λ_ _=>[]) () hX<|?_
  rintro k ⟨⟩ nn;dsimp only[Vz];exact B

def Wh (a:NT×NT):List D:=[PN a.1,PN a.2]
def Wg (ds:List D):NT×NT:=(Ug (ds.getD 0 .top),Ug (ds.getD 1 .top))
instance:Od Wh Wg:=⟨λa=>by simp[Wg,Wh]⟩
def Aoh:Dw.Spec:=NN [] .ground Wh Wg (λa=>Adl a.1 a.2) NX noE
theorem AmR:NL Tryz.prog 265 Aoh:=by
 refine fn2 2 (NG) Tryz.func265<|?_;intro a;unfold Adl;exact B

def Aoq:Dw.Spec:=NN [] .ground SD SC (λa=>Rc a.1 a.2) NX noE
theorem AcI:NL Tryz.prog 244 Aoq:=by
 refine fn2 2 (NG) Tryz.func244<|?_;intro a;unfold Rc;exact B

def TF (a:NH×OU×Ox):List D:=[Ob a.1,.fptr (AcD a.2.1) 0,.fptr (Qf a.2.2) 0]
def TE (ds:List D):NH×OU×Ox:=(SE (ds.getD 0 .top),Adj (fpD (ds.getD 1 .top)),Yu (fpD (ds.getD 2 .top)))
instance:Od TF TE:=⟨λa=>by simp[TE,TF,fpD]⟩
def Aee:Dw.Spec:=NN [] .ground TF TE (λa=>Rv a.1 a.2.1 a.2.2) NX noE
theorem AdO:NL Tryz.prog 246 Aee:=by
 refine fn2 3 (NG) Tryz.func246<|?_;intro a;unfold Rv;exact B

def Aku:Dw.Spec:=NN [] .ground PV PU (λa=>RU a) NX noE
theorem AdQ:NL Tryz.prog 141 Aku:=by
 refine fn2 1 (NG) Tryz.func141<|?_;intro a;unfold RU;exact B

def Amf:Dw.Spec:=NN [] .ground PV PU (λa=>Sl a) XE noE
theorem XQ:NL Tryz.prog 143 Amf:=by
 refine fn2 1 (nK 141 AdQ<|NG) Tryz.func143<|?_;intro a;unfold Sl;exact B

def AaV (a:NS×NS):List D:=[OR a.1,OR a.2]
def AaU (ds:List D):NS×NS:=(Wx (ds.getD 0 .top),Wx (ds.getD 1 .top))
instance:Od AaV AaU:=⟨λa=>by simp[AaU,AaV]⟩
def Anz:Dw.Spec:=NN [] .ground AaV AaU (λa=>Acg a.1 a.2) NX noE
theorem Amq:NL Tryz.prog 251 Anz:=by
 refine fn2 2 (NG) Tryz.func251<|?_;intro a;unfold Acg;exact B

end
end Go.Proofs.YtcaoepecbgggcaaGreatDoor
