/-
 The code does what its typed programs say.
-/
import Derived.Test.YtcaoepecbgggcaaGreatDoorDxF7
import Derived.Test.YtcaoepecbgggcaaGreatDoorDxF10
namespace Go.Proofs.YtcaoepecbgggcaaGreatDoor
open Go Go.Dw Go.Proofs
set_option maxRecDepth 100000
set_option maxHeartbeats 40000000
open Go.Dw renaming ON -> bD,Ts -> bS,PL -> cD,QZ -> xC,Pn -> xL,Qb -> lP,PI -> sC,rf -> r
noncomputable section
def Qr (a:Lo×Int×Ob×(List Int)×Ob×Int):List D:=[NR a.1,Av a.2.1,.clo 258 [.fptr (Td a.2.2.1) 0],.clo 215 [.sl (a.2.2.2.1.map NF),.fptr (Td a.2.2.2.2.1) 0,.fptr (Av a.2.2.2.2.2) 0]]
def RB (ds:List D):Lo×Int×Ob×(List Int)×Ob×Int:=(RD (ds.getD 0 .top),uI (ds.getD 1 .top),VU (fpD (AeV (ds.getD 2 .top) 0)),(uL uI) (AeV (ds.getD 3 .top) 0),VU (fpD (AeV (ds.getD 3 .top) 1)),uI (fpD (AeV (ds.getD 3 .top) 2)))
instance:Od Qr RB:=⟨λa=>by simp[RB,Qr,uI,fpD,AeV,OE (u:=uI) (en:=NF) (λ_=>rfl)]⟩
def Aah (b:Bool×(List Int)):List D:=[.sl (b.2.map NF)]
def UE:Dw.Spec:=NO [(256,(1,37))] .val Qr RB (λa=>Qj a.1 a.2.1 a.2.2.1 a.2.2.2.1 a.2.2.2.2.1 a.2.2.2.2.2) Yh Aah
theorem ZM:NK Tryz.prog 213 UE:=by
 refine fn2 4 (nK 256 Aro<|nK 258 AhE<|nK 257 Arj<|nK 215 AdD<|NG) Tryz.func213<|?_;rintro⟨b,k2,c,f,d,e⟩;unfold Qj;refine Ab 11 λa h=>?_
 refine A 6 ?_;refine lP (E:=λ(s:(List Int)×Int) (g:Nat×Nat)=>[(2,.clo 258 [.fptr (.agg [.sl (c.Out.map (eL NF))]) 0]),(3,.clo 215 [.optr 8448 256 0 0,.fptr (.agg [.sl (d.Out.map (eL NF))]) 0,.fptr (Av e) 0]),(4,.optr 4 g.1 0 0),(13,.osl 13 g.2 0 a.length),(14,Av (a.length:Int)),(15,Av s.2)]) (O:=λs g=>[(4,dV g.1 3 36 (NR b)),(13,dW g.2 1 3 (a.map NF)),(8448,dV 256 1 37 (.sl (s.1.map NF)))]) (_,_) hX<|?_
 rintro⟨i,j⟩ ⟨k,l⟩ nn;dsimp only[PM];exact B

def AbW (a:Lo×NV×(List Int)):List D:=[NR a.1,Acg a.2.1,.sl (a.2.2.map NF)]
def AbV (ds:List D):Lo×NV×(List Int):=(RD (ds.getD 0 .top),Acm (ds.getD 1 .top),(uL uI) (ds.getD 2 .top))
instance:Od AbW AbV:=⟨λa=>by simp[AbV,AbW,OE (u:=uI) (en:=NF) (λ_=>rfl)]⟩
def Api (b:(List Mk)):D:=.sl (b.map NY)
def Apj:Dw.Spec:=NO [] (.row 5 90) AbW AbV (λa=>Yc a.1 a.2.1 a.2.2) Api noE
theorem Ahm:NK Tryz.prog 100 Apj:=by
 refine fn2 3 (nK 161 AlV<|NG) Tryz.func100<|?_;rintro⟨a,b,c⟩;unfold Yc;refine A 22 ?_;refine lP (E:=λ(s:(List Mk)×Int) (g:Nat×Nat)=>[(2,.sl (c.map NF)),(4,.optr 4 g.1 0 0),(7,.osl 7 g.2 0 s.1.length),(11,.sl (a.Code.map NY)),(12,Av (a.Code.length:Int)),(13,Av s.2)]) (O:=λs g=>[(4,dV g.1 2 48 (.agg [.sl (b.To.map NF),.sl (b.Keep.map D.bool)])),(7,dW g.2 5 90 (s.1.map NY))]) (_,_) hX<|?_
 rintro⟨d,e⟩ ⟨i,k⟩ nn;dsimp only[Ahl];refine Ac 6 ?_ ?_
 ·refine Ab 7 λf l=>?_
  refine A 7 ?_;refine sC (E:=λ(s:Bool) (g:Nat×Nat×Nat)=>[(2,.sl (c.map NF)),(4,.optr 4 g.1 0 0),(7,.osl 7 g.2.1 0 d.length),(9,.optr 9 g.2.2 0 0),(11,.sl (a.Code.map NY)),(12,Av (a.Code.length:Int)),(13,Av e),(29,.bool s)]) (O:=λ_ g=>[(4,dV g.1 2 48 (.agg [.sl (b.To.map NF),.sl (b.Keep.map D.bool)])),(7,dW g.2.1 5 90 (d.map NY)),(9,dV g.2.2 5 90 (NY f))]) (j:=λs=>WX f c d e s) ?_ ?_
  ·exact B
  ·rintro m ⟨o,p,q⟩ nn;dsimp only[WX];refine cD r ?_ ?_
   ·refine Ab 4 λh t=>?_
    refine A 1 ?_;refine bS ([h]:List Mk) NY r r r (by simp) r r r<|?_
    exact B
   ·exact B
 ·exact B

def PO (a:Lo×NT×Mk):List D:=[NR a.1,PK a.2.1,NY a.2.2]
def PN (ds:List D):Lo×NT×Mk:=(RD (ds.getD 0 .top),AfN (ds.getD 1 .top),SR (ds.getD 2 .top))
instance:Od PO PN:=⟨λa=>by simp[PN,PO]⟩
def AhF:Dw.Spec:=NO [] .ground PO PN (λa=>Vf a.1 a.2.1 a.2.2) RH noE
theorem AgM:NK Tryz.prog 236 AhF:=by
 refine fn2 3 (NG) Tryz.func236<|?_;intro a;unfold Vf;exact B

def AhG:Dw.Spec:=NO [] .ground PO PN (λa=>Vg a.1 a.2.1 a.2.2) RH noE
theorem AgN:NK Tryz.prog 237 AhG:=by
 refine fn2 3 (NG) Tryz.func237<|?_;intro a;unfold Vg;exact B

def AhH:Dw.Spec:=NO [] .ground PO PN (λa=>Vh a.1 a.2.1 a.2.2) RH noE
theorem AgO:NK Tryz.prog 238 AhH:=by
 refine fn2 3 (NG) Tryz.func238<|?_;intro a;unfold Vh;exact B

def AhI:Dw.Spec:=NO [] .ground PO PN (λa=>Vi a.1 a.2.1 a.2.2) RH noE
theorem AgP:NK Tryz.prog 239 AhI:=by
 refine fn2 3 (NG) Tryz.func239<|?_;intro a;unfold Vi;exact B

def AhJ:Dw.Spec:=NO [] .ground PO PN (λa=>Vj a.1 a.2.1 a.2.2) RH noE
theorem AgQ:NK Tryz.prog 240 AhJ:=by
 refine fn2 3 (NG) Tryz.func240<|?_;intro a;unfold Vj;exact B

def Arz:Dw.Spec:=NO [] .ground PO PN (λa=>AfB a.1 a.2.1 a.2.2) RH noE
theorem ApS:NK Tryz.prog 235 Arz:=by
 refine fn2 3 (NG) Tryz.func235<|?_;intro a;unfold AfB;exact B

def Aqk:Dw.Spec:=NO [] (.row 1 3) Rt Rs (λa=>Uk a.1 a.2) OC noE
theorem Aao:NK Tryz.prog 124 Aqk:=by
 refine fn2 2 (nK 67 Agl<|NG) Tryz.func124<|?_;rintro⟨b,a⟩;unfold Uk;refine A 19 ?_;refine lP (E:=λ(s:(List Int)×Int) (g:Nat)=>[(1,.sl (a.map NF)),(5,.osl 5 g 0 s.1.length),(6,Av s.2)]) (O:=λs g=>[(5,dW g 1 3 (s.1.map NF))]) _ hX<|?_
 rintro⟨c,d⟩ e nn;dsimp only[XW];exact B

def Auw:Dw.Spec:=NO [] (.row 1 3) Wj Wi (λa=>AdR a.1 a.2) OC noE
theorem Amo:NK Tryz.prog 249 Auw:=by
 refine fn2 2 (nK 143 Yu<|nK 206 AnN<|nK 142 AjJ<|nK 124 Aao<|NG) Tryz.func249<|?_;intro a;unfold AdR;exact B

def AnQ:Dw.Spec:=NO [] .ground Wj Wi (λa=>Wm a.1 a.2) RH noE
theorem Agm:NK Tryz.prog 81 AnQ:=by
 refine fn2 2 (nK 144 AmV<|NG) Tryz.func81<|?_;intro a;unfold Wm;exact B

def ArV:Dw.Spec:=NO [] (.row 1 3) Rv Ru (λa=>Aaw a.1 a.2) OC noE
theorem AqD:NK Tryz.prog 77 ArV:=by
 refine fn2 2 (nK 81 Agm<|nK 142 AjJ<|nK 124 Aao<|nK 143 Yu<|nK 67 Agl<|NG) Tryz.func77<|?_;rintro⟨b,a⟩;unfold Aaw;refine A 19 ?_;refine lP (E:=λ(s:(List Int)×Int) (g:Nat×Nat×Nat)=>[(2,.optr 2 g.1 0 0),(3,.optr 3 g.2.1 0 0),(5,.osl 5 g.2.2 0 s.1.length),(6,Av s.2)]) (O:=λs g=>[(2,dV g.1 3 36 (NR b)),(3,dV g.2.1 2 48 (.agg [.sl (a.To.map NF),.sl (a.Keep.map D.bool)])),(5,dW g.2.2 1 3 (s.1.map NF))]) (_,_,_) hX<|?_
 rintro⟨c,k4⟩ ⟨d,e,f⟩ nn;dsimp only[Aff];refine sC (E:=λ(_s:Unit) (g:Nat×Nat×Nat)=>[(2,.optr 2 g.1 0 0),(3,.optr 3 g.2.1 0 0),(5,.osl 5 g.2.2 0 c.length),(6,Av k4),(16,Av k4),(17,.optr 3 g.2.1 0 1),(18,.sl (a.Keep.map D.bool)),(19,Av (a.Keep.length:Int)),(20,.bool (decide (k4<(a.Keep.length:Int))))]) (O:=λ_ g=>[(2,dV g.1 3 36 (NR b)),(3,dV g.2.1 2 48 (.agg [.sl (a.To.map NF),.sl (a.Keep.map D.bool)])),(5,dW g.2.2 1 3 (c.map NF))]) (j:=λ_=>YJ a k4 c b) ?_ ?_
 ·exact B
 ·rintro⟨⟩ ⟨h,i,k⟩ nn;dsimp only[YJ];exact B

end
end Go.Proofs.YtcaoepecbgggcaaGreatDoor
