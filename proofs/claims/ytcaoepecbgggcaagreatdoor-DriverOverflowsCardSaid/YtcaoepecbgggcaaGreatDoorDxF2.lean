/-
 The code does what its typed programs say.
-/
import Derived.Test.YtcaoepecbgggcaaGreatDoorProg
import Derived.Test.YtcaoepecbgggcaaGreatDoorDc
import Derived.KernelRfl
import Derived.Test.YtcaoepecbgggcaaGreatDoorDxP
import Derived.Test.YtcaoepecbgggcaaGreatDoorDxF1
namespace Go.Proofs.YtcaoepecbgggcaaGreatDoor
open Go Go.Dw Go.Proofs
set_option maxRecDepth 100000
set_option maxHeartbeats 40000000
open Go.Dw renaming OQ -> bD,PX -> cD,RJ -> xC,PH -> xL,Qm -> lP,Qd -> sC,Rf -> bC,rf -> r
noncomputable section
def YW (a:NS):List D:=[OR a]
def YV (ds:List D):NS:=Wx (ds.getD 0 .top)
instance:Od YW YV:=⟨λa=>by simp[YV,YW]⟩
def AkY:Dw.Spec:=NN [] .ground YW YV (λa=>TC a) NX noE
theorem Ako:NL Tryz.prog 208 AkY:=by
 refine fn2 1 (nK 209 AiH<|nK 150 YE<|NG) Tryz.func208<|?_;intro a;unfold TC;exact B

def Alx:Dw.Spec:=NN [] .ground PA Pz (λa=>PJ a) NX noE
theorem Aah:NL Tryz.prog 230 Alx:=by
 refine fn2 1 (NG) Tryz.func230<|?_;intro a;unfold PJ;exact B

def AiI:Dw.Spec:=NN [] .ground PA Pz (λa=>Qe a) NX noE
theorem UH:NL Tryz.prog 254 AiI:=by
 refine fn2 1 (NG) Tryz.func254<|?_;intro a;unfold Qe;exact B

def AmQ:Dw.Spec:=NN [] .ground PA Pz (λa=>SR a) NX noE
theorem AbH:NL Tryz.prog 149 AmQ:=by
 refine fn2 1 (NG) Tryz.func149<|?_;intro a;unfold SR;exact B

def Vm (b:Int×Int):D:=.tup [Av b.1,Av b.2]
def AkZ:Dw.Spec:=NN [] .ground PA Pz (λa=>TD a) Vm noE
theorem Aew:NL Tryz.prog 151 AkZ:=by
 refine fn2 1 (NG) Tryz.func151<|?_;intro a;unfold TD;exact B

def RS (a:Ou×Int):List D:=[Qo a.1,Av a.2]
def RR (ds:List D):Ou×Int:=(Uq (ds.getD 0 .top),uI (ds.getD 1 .top))
instance:Od RS RR:=⟨λa=>by simp[RR,RS,uI]⟩
def Aez (b:NT):D:=PN b
def AeA:Dw.Spec:=NN [] .ground RS RR (λa=>PO a.1 a.2) Aez noE
theorem XZ:NL Tryz.prog 224 AeA:=by
 refine fn2 2 (NG) Tryz.func224<|?_;intro a;unfold PO;exact B

def XH (a:NT):List D:=[PN a]
def XG (ds:List D):NT:=Ug (ds.getD 0 .top)
instance:Od XH XG:=⟨λa=>by simp[XG,XH]⟩
def AmS:Dw.Spec:=NN [] .ground XH XG (λa=>Vn a) NX noE
theorem Age:NL Tryz.prog 264 AmS:=by
 refine fn2 1 (nK 149 AbH<|NG) Tryz.func264<|?_;intro a;unfold Vn;exact B

def AiJ:Dw.Spec:=NN [] .ground PA Pz (λa=>RL a) NX noE
theorem AbF:NL Tryz.prog 241 AiJ:=by
 refine fn2 1 (NG) Tryz.func241<|?_;intro a;unfold RL;exact B

def Adn (a:OU×Int):List D:=[AcD a.1,Av a.2]
def Adm (ds:List D):OU×Int:=(Adj (ds.getD 0 .top),uI (ds.getD 1 .top))
instance:Od Adn Adm:=⟨λa=>by simp[Adm,Adn,uI]⟩
def AnT (b:Ox×Bool):D:=.tup [Qf b.1,.bool b.2]
def AtC:Dw.Spec:=NN [] .val Adn Adm (λa=>AeL a.1 a.2) AnT noE
theorem AlV:NL Tryz.prog 181 AtC:=by
 refine fn2 2 (nK 244 AcI<|nK 150 YE<|NG) Tryz.func181<|?_;rintro⟨a,c⟩;unfold AeL;refine Ab 14 λd e=>?_
 refine Ac 4 ?_ ?_
 ·refine A 9 ?_;refine Qt (b:=((Ox.mk (OE.mk 0 0 ([])) 0 0),false)) r ?_ r r ?_ (by first|rfl|(simp only[NP];rfl)|(simp only[NR];rfl)|(simp only[NP,NR];rfl)|(simp[AnT,Qf];try rfl)) (by decide)
  all_goals first|(simp;done)|(simp;omega)|rfl|(simp[Pn,Pc];done)|(simp[cells];done)
 ·exact B

def Aoo:Dw.Spec:=NN [] .ground PA Pz (λa=>Qg a) NX noE
theorem Ahl:NL Tryz.prog 272 Aoo:=by
 refine fn2 1 (NG) Tryz.func272<|?_;intro a;unfold Qg;exact B

def Aop:Dw.Spec:=NN [] .ground PV PU (λa=>Qs a) NX noE
theorem Ana:NL Tryz.prog 269 Aop:=by
 refine fn2 1 (nK 272 Ahl<|NG) Tryz.func269<|?_;intro a;unfold Qs;refine A 6 ?_;refine sC (E:=λ(s:Bool) (g:Nat)=>[(1,.optr 1 g 0 0),(3,.bool s)]) (O:=λ_ g=>[(1,dV g 5 90 (Ob a))]) (j:=λs=>Pl a s) ?_ ?_
 ·exact B
 ·rintro b c nn;dsimp only[Pl];refine A 5 ?_;refine bC (E:=λ(s:Int) (g:Nat)=>[(1,.optr 1 g 0 0),(3,.bool b),(4,Av s)]) (O:=λ_ g=>[(1,dV g 5 90 (Ob a))]) (j:=λs=>OO a b s) ?_ ?_
  ·refine sC (E:=λ(s:Bool) (g:Nat)=>[(1,.optr 1 g 0 0),(3,.bool b),(4,Av 2),(13,.bool s)]) (O:=λ_ g=>[(1,dV g 5 90 (Ob a))]) (j:=λs=>Pd a b s) ?_ ?_
   ·exact B
   ·rintro d e nn;dsimp only[Pd];refine cD r ?_ ?_
    ·exact B
    ·refine sC (E:=λ(s:Bool) (g:Nat)=>[(1,.optr 1 g 0 0),(3,.bool b),(4,Av 2),(25,.bool s)]) (O:=λ_ g=>[(1,dV g 5 90 (Ob a))]) (j:=λs=>Px a b s) ?_ ?_
     ·exact B
     ·rintro f h nn;dsimp only[Px];exact B
  ·rintro i k nn;dsimp only[OO];exact B

def Aij:Dw.Spec:=NN [] .ground PA Pz (λa=>Uc a) NX noE
theorem Ahk:NL Tryz.prog 271 Aij:=by
 refine fn2 1 (nK 244 AcI<|NG) Tryz.func271<|?_;intro a;unfold Uc;exact B

def Aqh:Dw.Spec:=NN [] .ground PA Pz (λa=>Wn a) NX noE
theorem Aiy:NL Tryz.prog 125 Aqh:=by
 refine fn2 1 (NG) Tryz.func125<|?_;intro a;unfold Wn;exact B

def Aqd:Dw.Spec:=NN [] .ground PA Pz (λa=>Tb a) NX noE
theorem Aos:NL Tryz.prog 185 Aqd:=by
 refine fn2 1 (NG) Tryz.func185<|?_;intro a;unfold Tb;exact B

def Aov:Dw.Spec:=NN [] .ground PA Pz (λa=>QM a) NX noE
theorem AcQ:NL Tryz.prog 68 Aov:=by
 refine fn2 1 (NG) Tryz.func68<|?_;intro a;unfold QM;refine A 12 ?_;refine lP (E:=λ(s:Int) (_g:Unit)=>[(0,Av a),(3,Av s)]) (O:=λ_ _=>[]) () hX<|?_
 rintro k2 ⟨⟩ nn;dsimp only[RI];exact B

def Aou:Dw.Spec:=NN [] .ground PA Pz (λa=>SO a) NX noE
theorem Zz:NL Tryz.prog 130 Aou:=by
 refine fn2 1 (NG) Tryz.func130<|?_;intro a;unfold SO;exact B

end
end Go.Proofs.YtcaoepecbgggcaaGreatDoor
