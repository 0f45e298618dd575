/-
 The code does what its typed programs say.
-/
import Derived.Test.YtcaoepecbgggcaaGreatDoorDxP
namespace Go.Proofs.YtcaoepecbgggcaaGreatDoor
open Go Go.Dw Go.Proofs
set_option maxRecDepth 100000
set_option maxHeartbeats 40000000
open Go.Dw renaming ON -> bD,PL -> cD,QZ -> xC,Pn -> xL,Qb -> lP,PI -> sC,rf -> r
noncomputable section
def SQ (a:Int×Int):List D:=[Av a.1,Av a.2]
def SP (ds:List D):Int×Int:=(uI (ds.getD 0 .top),uI (ds.getD 1 .top))
instance:Od SQ SP:=⟨λa=>by simp[SP,SQ,uI]⟩
def NX (b:Bool):D:=.bool b
def Asm:Dw.Spec:=NO [] .ground SQ SP (λa=>Sz a.1 a.2) NX noE
theorem AjN:NK Tryz.prog 228 Asm:=by
 refine fn2 2 (NG) Tryz.func228<|?_;intro a;unfold Sz;exact B

def PG (a:Int):List D:=[Av a]
def PF (ds:List D):Int:=uI (ds.getD 0 .top)
instance:Od PG PF:=⟨λa=>by simp[PF,PG,uI]⟩
def Asx:Dw.Spec:=NO [] .ground PG PF (λa=>Xc a) NX noE
theorem AjQ:NK Tryz.prog 209 Asx:=by
 refine fn2 1 (NG) Tryz.func209<|?_;intro a;unfold Xc;exact B

def Aoz:Dw.Spec:=NO [] .ground PG PF (λa=>Qx a) NX noE
theorem Zl:NK Tryz.prog 150 Aoz:=by
 refine fn2 1 (NG) Tryz.func150<|?_;intro a;unfold Qx;exact B

def Qi (a:Mk):List D:=[NY a]
def Qh (ds:List D):Mk:=SR (ds.getD 0 .top)
instance:Od Qi Qh:=⟨λa=>by simp[Qh,Qi]⟩
def Yj (b:Int×Bool):D:=.tup [Av b.1,.bool b.2]
def AmE:Dw.Spec:=NO [] .ground Qi Qh (λa=>RT a) Yj noE
theorem UR:NK Tryz.prog 159 AmE:=by
 refine fn2 1 (NG) Tryz.func159<|?_;intro a;unfold RT;exact B

def WB (a:Lo×(List Int)):List D:=[NR a.1,.sl (a.2.map NF)]
def WA (ds:List D):Lo×(List Int):=(RD (ds.getD 0 .top),(uL uI) (ds.getD 1 .top))
instance:Od WB WA:=⟨λa=>by simp[WA,WB,OE (u:=uI) (en:=NF) (λ_=>rfl)]⟩
def AmA:Dw.Spec:=NO [] .ground WB WA (λa=>XN a.1 a.2) NX noE
theorem AlE:NK Tryz.prog 155 AmA:=by
 refine fn2 2 (NG) Tryz.func155<|?_;rintro⟨b,a⟩;unfold XN;refine Ac 17 ?_ ?_
 ·exact B
 ·refine A 11 ?_;refine lP (E:=λ(s:Int) (g:Nat)=>[(1,.sl (a.map NF)),(2,.optr 2 g 0 0),(13,.sl (a.map NF)),(14,Av (a.length:Int)),(15,Av s)]) (O:=λ_ g=>[(2,dV g 3 36 (NR b))]) _ hX<|?_
  rintro c d nn;dsimp only[AaH];exact B

def AkH:Dw.Spec:=NO [] .ground Qi Qh (λa=>Yk a) NX noE
theorem AjX:NK Tryz.prog 156 AkH:=by
 refine fn2 1 (nK 159 UR<|NG) Tryz.func156<|?_;intro a;unfold Yk;exact B

def Sw (a:Int×Lo×NV×Ob):List D:=[Av a.1,.fptr (NR a.2.1) 0,.fptr (Acg a.2.2.1) 0,.fptr (Td a.2.2.2) 0]
def Sv (ds:List D):Int×Lo×NV×Ob:=(uI (ds.getD 0 .top),RD (fpD (ds.getD 1 .top)),Acm (fpD (ds.getD 2 .top)),VU (fpD (ds.getD 3 .top)))
instance:Od Sw Sv:=⟨λa=>by simp[Sv,Sw,uI,fpD]⟩
def Aco:Dw.Spec:=NO [] .ground Sw Sv (λa=>QE a.1 a.2.1 a.2.2.1 a.2.2.2) Yj noE
theorem AbZ:NK Tryz.prog 218 Aco:=by
 refine fn2 4 (nK 159 UR<|NG) Tryz.func218<|?_;rintro⟨k1,e,a,c⟩;unfold QE;refine Ab 11 λf g=>?_
 refine Ab 9 λb h=>?_
 refine A 8 ?_;refine sC (E:=λ(_s:Unit) (_g:Unit)=>[(0,Av k1),(2,.fptr (.agg [.sl (a.To.map NF),.sl (a.Keep.map D.bool)]) 0),(3,.fptr (.agg [.sl (c.Out.map (eL NF))]) 0),(8,Av b.1)]) (O:=λ_ _=>[]) (j:=λ_=>PE c k1 a b) ?_ ?_
 ·exact B
 ·rintro⟨⟩ ⟨⟩ nn;dsimp only[PE];refine Ab 6 λd i=>?_
  refine A 7 ?_;refine lP (E:=λ(s:Int) (_g:Unit)=>[(0,Av k1),(2,.fptr (.agg [.sl (a.To.map NF),.sl (a.Keep.map D.bool)]) 0),(8,Av b.1),(48,.sl (d.map NF)),(49,Av (d.length:Int)),(50,Av s)]) (O:=λ_ _=>[]) () hX<|?_
  rintro k ⟨⟩ nn;dsimp only[VO];exact B

def WL (a:NU×NU):List D:=[PX a.1,PX a.2]
def WK (ds:List D):NU×NU:=(Uy (ds.getD 0 .top),Uy (ds.getD 1 .top))
instance:Od WL WK:=⟨λa=>by simp[WK,WL]⟩
def ApP:Dw.Spec:=NO [] .ground WL WK (λa=>Aeg a.1 a.2) NX noE
theorem AoC:NK Tryz.prog 265 ApP:=by
 refine fn2 2 (NG) Tryz.func265<|?_;intro a;unfold Aeg;exact B

def ApY:Dw.Spec:=NO [] .ground SQ SP (λa=>Ro a.1 a.2) NX noE
theorem AdE:NK Tryz.prog 244 ApY:=by
 refine fn2 2 (NG) Tryz.func244<|?_;intro a;unfold Ro;exact B

def TU (a:Mk×OW×Oz):List D:=[NY a.1,.fptr (Adz a.2.1) 0,.fptr (Qo a.2.2) 0]
def TT (ds:List D):Mk×OW×Oz:=(SR (ds.getD 0 .top),Aed (fpD (ds.getD 1 .top)),YV (fpD (ds.getD 2 .top)))
instance:Od TU TT:=⟨λa=>by simp[TT,TU,fpD]⟩
def Afa:Dw.Spec:=NO [] .ground TU TT (λa=>RI a.1 a.2.1 a.2.2) NX noE
theorem AeL:NK Tryz.prog 246 Afa:=by
 refine fn2 3 (NG) Tryz.func246<|?_;intro a;unfold RI;exact B

def Amd:Dw.Spec:=NO [] .ground Qi Qh (λa=>Sg a) NX noE
theorem AeN:NK Tryz.prog 141 Amd:=by
 refine fn2 1 (NG) Tryz.func141<|?_;intro a;unfold Sg;exact B

def AnP:Dw.Spec:=NO [] .ground Qi Qh (λa=>Sy a) Yj noE
theorem Yu:NK Tryz.prog 143 AnP:=by
 refine fn2 1 (nK 141 AeN<|NG) Tryz.func143<|?_;intro a;unfold Sy;exact B

def AbP (a:NS×NS):List D:=[OH a.1,OH a.2]
def AbO (ds:List D):NS×NS:=(Xb (ds.getD 0 .top),Xb (ds.getD 1 .top))
instance:Od AbP AbO:=⟨λa=>by simp[AbO,AbP]⟩
def Apf:Dw.Spec:=NO [] .ground AbP AbO (λa=>Ade a.1 a.2) NX noE
theorem Aoa:NK Tryz.prog 251 Apf:=by
 refine fn2 2 (NG) Tryz.func251<|?_;intro a;unfold Ade;exact B

end
end Go.Proofs.YtcaoepecbgggcaaGreatDoor
