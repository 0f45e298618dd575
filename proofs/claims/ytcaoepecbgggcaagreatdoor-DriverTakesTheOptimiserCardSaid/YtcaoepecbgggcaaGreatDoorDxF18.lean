/-
 The code does what its typed programs say.
-/
import Derived.Test.YtcaoepecbgggcaaGreatDoorDxF6
import Derived.Test.YtcaoepecbgggcaaGreatDoorDxF9
namespace Go.Proofs.YtcaoepecbgggcaaGreatDoor
open Go Go.Dw Go.Proofs
set_option maxRecDepth 100000
set_option maxHeartbeats 40000000
open Go.Dw renaming ON -> bD,Sj -> cG,PL -> cD,QZ -> xC,Pn -> xL,Qb -> lP,PI -> sC,Rr -> bC,rf -> r
def Ys (a:Oz×Mk):List D:=[Qo a.1,NY a.2]
def Yr (ds:List D):Oz×Mk:=(YV (ds.getD 0 .top),SR (ds.getD 1 .top))
instance:Od Ys Yr:=⟨λa=>by simp[Yr,Ys]⟩
noncomputable def AkY:Dw.Spec:=NO [] .ground Ys Yr (λa=>OX a.1 a.2) NJ noE
theorem AjZ:NK Tryz.prog 243 AkY:=by
 refine fn2 2 (nK 244 AdE<|nK 269 AoL<|nK 270 Amc<|nK 1114345 Xu<|nK 272 Ais<|nK 209 AjQ<|nK 273 ApU<|nK 274 AoK<|nK 263 Agd<|NG) Tryz.func243<|?_;rintro⟨a,b⟩;unfold OX;refine A 7 ?_;refine sC (E:=λ(_s:Unit) (g:Nat×Nat)=>[(2,.optr 2 g.1 0 0),(3,.optr 3 g.2 0 0)]) (O:=λ_ g=>[(2,dV g.1 5 200 (Qo a)),(3,dV g.2 5 90 (NY b))]) (j:=λ_=>OO b a) ?_ ?_
 ·exact B
 ·rintro⟨⟩ ⟨e,f⟩ nn;dsimp only[OO];refine Ab 4 λh i=>?_
  refine Ac 3 ?_ ?_
  ·exact B
  ·refine A 2 ?_;refine sC (E:=λ(_s:Unit) (g:Nat×Nat)=>[(2,.optr 2 g.1 0 0),(3,.optr 3 g.2 0 0)]) (O:=λ_ g=>[(2,dV g.1 5 200 (Qo a)),(3,dV g.2 5 90 (NY b))]) (j:=λ_=>OJ b a) ?_ ?_
   ·refine Ab 3 λc k=>?_
    refine A 1 ?_;refine bD λl d=>cG c rfl rfl (show _=some SA from by kernel_rfl) Od.ok rfl rfl (by simp) (by first|rfl|(simp only[NN];rfl)|(simp only[NQ];rfl)|(simp only[NN,NQ];rfl)|simp[Ph]) d r<|?_
    exact B
   ·rintro⟨⟩ ⟨m,o⟩ nn;dsimp only[OJ];refine sC (E:=λ(_s:Unit) (g:Nat×Nat)=>[(2,.optr 2 g.1 0 0),(3,.optr 3 g.2 0 0)]) (O:=λ_ g=>[(2,dV g.1 5 200 (Qo a)),(3,dV g.2 5 90 (NY b))]) (j:=λ_=>OK a b) ?_ ?_
    ·exact B
    ·rintro⟨⟩ ⟨p,q⟩ nn;dsimp only[OK];refine Ab 5 λs t=>?_
     refine Ab 14 λu v=>?_
     refine A 9 ?_;refine sC (E:=λ(_s:Unit) (g:Nat×Nat)=>[(2,.optr 2 g.1 0 0),(3,.optr 3 g.2 0 0)]) (O:=λ_ g=>[(2,dV g.1 5 200 (Qo a)),(3,dV g.2 5 90 (NY b))]) (j:=λ_=>OA b a) ?_ ?_
     ·exact B
     ·rintro⟨⟩ ⟨x,z⟩ nn;dsimp only[OA];exact B

noncomputable def ArM:Dw.Spec:=NO [] .ground Rt Rs (λa=>AcO a.1 a.2) NX noE
theorem Aqj:NK Tryz.prog 63 ArM:=by
 refine fn2 2 (NG) Tryz.func63<|?_;rintro⟨a,b⟩;unfold AcO;refine Ac 15 ?_ ?_
 ·exact B
 ·refine A 9 ?_;refine lP (E:=λ(s:Int) (_g:Unit)=>[(0,.sl (a.map NF)),(1,.sl (b.map NF)),(5,Av s)]) (O:=λ_ _=>[]) () hX<|?_
  rintro c ⟨⟩ nn;dsimp only[Wl];exact B

def AaP (a:(List (List Int))×(List (List Int))):List D:=[.sl (a.1.map (eL NF)),.sl (a.2.map (eL NF))]
def AaO (ds:List D):(List (List Int))×(List (List Int)):=((uL (uL uI)) (ds.getD 0 .top),(uL (uL uI)) (ds.getD 1 .top))
instance:Od AaP AaO:=⟨λa=>by simp[AaO,AaP,OE (u:=(uL uI)) (en:=(eL NF)) (OE (u:=uI) (en:=NF) (λ_=>rfl))]⟩
noncomputable def AnO:Dw.Spec:=NO [] .ground AaP AaO (λa=>YF a.1 a.2) NX noE
theorem AmU:NK Tryz.prog 250 AnO:=by
 refine fn2 2 (nK 63 Aqj<|NG) Tryz.func250<|?_;rintro⟨a,b⟩;unfold YF;refine Ac 15 ?_ ?_
 ·exact B
 ·refine A 9 ?_;refine lP (E:=λ(s:Int) (_g:Unit)=>[(0,.sl (a.map (eL NF))),(1,.sl (b.map (eL NF))),(5,Av s)]) (O:=λ_ _=>[]) () hX<|?_
  rintro c ⟨⟩ nn;dsimp only[TW];exact B

def AdT (a:Ob×Ob):List D:=[Td a.1,Td a.2]
def AdS (ds:List D):Ob×Ob:=(VU (ds.getD 0 .top),VU (ds.getD 1 .top))
instance:Od AdT AdS:=⟨λa=>by simp[AdS,AdT]⟩
noncomputable def ArQ:Dw.Spec:=NO [] .ground AdT AdS (λa=>AcP a.1 a.2) NX noE
theorem Aqm:NK Tryz.prog 196 ArQ:=by
 refine fn2 2 (nK 250 AmU<|NG) Tryz.func196<|?_;intro a;unfold AcP;exact B

def AaV (a:NV×(List Int)):List D:=[Acg a.1,.sl (a.2.map NF)]
def AaU (ds:List D):NV×(List Int):=(Acm (ds.getD 0 .top),(uL uI) (ds.getD 1 .top))
instance:Od AaV AaU:=⟨λa=>by simp[AaU,AaV,OE (u:=uI) (en:=NF) (λ_=>rfl)]⟩
noncomputable def AnY:Dw.Spec:=NO [] (.row 1 3) AaV AaU (λa=>YK a.1 a.2) OC noE
theorem AmZ:NK Tryz.prog 79 AnY:=by
 refine fn2 2 (NG) Tryz.func79<|?_;rintro⟨a,b⟩;unfold YK;refine A 18 ?_;refine lP (E:=λ(s:(List Int)×Int) (g:Nat×Nat)=>[(1,.sl (b.map NF)),(2,.optr 2 g.1 0 0),(5,.osl 5 g.2 0 s.1.length),(6,Av s.2)]) (O:=λs g=>[(2,dV g.1 2 48 (.agg [.sl (a.To.map NF),.sl (a.Keep.map D.bool)])),(5,dW g.2 1 3 (s.1.map NF))]) (_,_) hX<|?_
 rintro⟨d,c⟩ ⟨e,f⟩ nn;dsimp only[Agr];refine Ac 10 ?_ ?_
 ·refine A 2 ?_;refine bC (E:=λ(s:(List Int)) (g:Nat×Nat)=>[(1,.sl (b.map NF)),(2,.optr 2 g.1 0 0),(5,.osl 5 g.2 0 s.length),(6,Av c)]) (O:=λs g=>[(2,dV g.1 2 48 (.agg [.sl (a.To.map NF),.sl (a.Keep.map D.bool)])),(5,dW g.2 1 3 (s.map NF))]) (j:=λs=>Yw c s) ?_ ?_
  ·refine A 12 ?_;refine lP (E:=λ(s:Int×Int) (g:Nat×Nat)=>[(1,.sl (b.map NF)),(2,.optr 2 g.1 0 0),(5,.osl 5 g.2 0 d.length),(6,Av c),(7,Av s.1),(8,Av s.2)]) (O:=λ_ g=>[(2,dV g.1 2 48 (.agg [.sl (a.To.map NF),.sl (a.Keep.map D.bool)])),(5,dW g.2 1 3 (d.map NF))]) (_,_) hX<|?_
   rintro⟨h,i⟩ ⟨k,l⟩ nn;dsimp only[Ags];exact B
  ·rintro m ⟨o,p⟩ nn;dsimp only[Yw];exact B
 ·exact B

noncomputable def Apc:Dw.Spec:=NO [] (.row 1 3) WV WU (λa=>AcZ a) OC noE
theorem AnW:NK Tryz.prog 80 Apc:=by
 refine fn2 1 (NG) Tryz.func80<|?_;intro a;unfold AcZ;refine A 23 ?_;refine lP (E:=λ(s:(List Int)×Int×Int) (g:Nat×Nat)=>[(1,.optr 1 g.1 0 0),(3,.osl 3 g.2 0 s.1.length),(4,Av s.2.1),(5,Av s.2.2)]) (O:=λs g=>[(1,dV g.1 2 48 (.agg [.sl (a.To.map NF),.sl (a.Keep.map D.bool)])),(3,dW g.2 1 3 (s.1.map NF))]) (_,_) hX<|?_
 rintro⟨b,c,k4⟩ ⟨d,e⟩ nn;dsimp only[Ahj];exact B

end Go.Proofs.YtcaoepecbgggcaaGreatDoor
