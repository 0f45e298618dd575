/-
 The code does what its typed programs say.
-/
import Derived.Test.YtcaoepecbgggcaaGreatDoorProg
import Derived.Test.YtcaoepecbgggcaaGreatDoorDc
import Derived.KernelRfl
import Derived.Test.YtcaoepecbgggcaaGreatDoorDxP
import Derived.Test.YtcaoepecbgggcaaGreatDoorDxF1
import Derived.Test.YtcaoepecbgggcaaGreatDoorDxF2
import Derived.Test.YtcaoepecbgggcaaGreatDoorDxF3
import Derived.Test.YtcaoepecbgggcaaGreatDoorDxF4
namespace Go.Proofs.YtcaoepecbgggcaaGreatDoor
open Go Go.Dw Go.Proofs
open Go.IntKind (i64)
set_option maxRecDepth 100000
set_option maxHeartbeats 40000000
open Go.Dw renaming OQ -> bD,RW -> cG,PX -> cD,RJ -> xC,PH -> xL,Qm -> lP,Qd -> sC,rf -> r
noncomputable section
def Sr (a:(List NS)):List D:=[.sl (a.map OR)]
def Sq (ds:List D):(List NS):=(uL Wx) (ds.getD 0 .top)
instance:Od Sr Sq:=⟨λa=>by simp[Sq,Sr,OG (u:=Wx) (en:=OR) AeN]⟩
def AmP:Dw.Spec:=NN [] .ground Sr Sq (λa=>Ub a) NK noE
theorem Agd:NL Tryz.prog 148 AmP:=by
 refine fn2 1 (nK 856271 Vy<|NG) Tryz.func148<|?_;intro a;unfold Ub;refine Ac 13 ?_ ?_
 ·exact B
 ·refine A 6 ?_;refine bD λc b=>cG a rfl rfl (show _=some RB from by kernel_rfl) Od.ok rfl rfl (by simp) r b r<|?_
  exact B

def AmN:Dw.Spec:=NN [] .ground Sr Sq (λa=>Sb a) NK noE
theorem AlO:NL Tryz.prog 87 AmN:=by
 refine fn2 1 (nK 148 Agd<|NG) Tryz.func87<|?_;intro a;unfold Sb;refine Ab 14 λb c=>?_
 refine Ac 4 ?_ ?_
 ·refine A 8 ?_;refine lP (E:=λ(s:Int×Int) (_g:Unit)=>[(3,Av s.2),(9,.sl (a.map OR)),(10,Av (a.length:Int)),(11,Av s.1)]) (O:=λ_ _=>[]) () hX<|?_
  rintro⟨d,e⟩ ⟨⟩ nn;dsimp only[YD];exact B
 ·exact B

def Ard:Dw.Spec:=NN [] .ground SD SC (λa=>AdH a.1 a.2) NK noE
theorem ApH:NL Tryz.prog 152 Ard:=by
 refine fn2 2 (NG) Tryz.func152<|?_;intro a;unfold AdH;exact B

def Arc:Dw.Spec:=NN [] .ground SD SC (λa=>Abj a.1 a.2) Vm noE
theorem Ajt:NL Tryz.prog 89 Arc:=by
 refine fn2 2 (nK 149 AbH<|nK 150 YE<|nK 152 ApH<|nK 151 Aew<|NG) Tryz.func89<|?_;rintro⟨a,b⟩;unfold Abj;refine A 6 ?_;refine sC (E:=λ(_s:Unit) (_g:Unit)=>[(0,Av a),(1,Av b)]) (O:=λ_ _=>[]) (j:=λ_=>AbG a b) ?_ ?_
 ·exact B
 ·rintro⟨⟩ ⟨⟩ nn;dsimp only[AbG];exact B

def AcO (a:NV×Int×Int):List D:=[QH a.1,Av a.2.1,Av a.2.2]
def AcN (ds:List D):NV×Int×Int:=(AeM (ds.getD 0 .top),uI (ds.getD 1 .top),uI (ds.getD 2 .top))
instance:Od AcO AcN:=⟨λa=>by simp[AcN,AcO,uI]⟩
def Sd (b:NV×Int):D:=.tup [QH b.1,Av b.2]
def ApX:Dw.Spec:=NN [] .val AcO AcN (λa=>AeE a.1 a.2.1 a.2.2) Sd noE
theorem Aor:NL Tryz.prog 91 ApX:=by
 refine fn2 3 (nK 89 Ajt<|nK 90 Aeb<|NG) Tryz.func91<|?_;rintro⟨a,d,e⟩;unfold AeE;refine Ab 11 λc f=>?_
 refine A 8 ?_;refine sC (E:=λ(s:Int) (g:Nat×Nat)=>[(3,.optr 3 g.1 0 0),(6,.optr 6 g.2 0 0),(8,Av c.1),(9,Av s)]) (O:=λ_ g=>[(3,dV g.1 3 39 (QH a)),(6,dV g.2 3 39 (.agg [Av 0,Av 0,.nils]))]) (j:=λs=>Yb a c s) ?_ ?_
 ·exact B
 ·rintro h ⟨i,k⟩ nn;dsimp only[Yb];refine Ac 7 ?_ ?_
  ·refine A 9 ?_;refine Qt (b:=((NV.mk 0 0 ([])),9)) r ?_ r r ?_ (by first|rfl|(simp only[NP];rfl)|(simp only[NR];rfl)|(simp only[NP,NR];rfl)|(simp[Sd,QH];try rfl)) (by decide)
   all_goals first|(simp;done)|(simp;omega)|rfl|(simp[Pn,Pc];done)|(simp[cells];done)
  ·exact B

def VH (a:Int×(List Int)):List D:=[Av a.1,.fptr (.sl (a.2.map Mk)) 0]
def VG (ds:List D):Int×(List Int):=(uI (ds.getD 0 .top),(uL uI) (fpD (ds.getD 1 .top)))
instance:Od VH VG:=⟨λa=>by simp[VG,VH,uI,fpD,OG (u:=uI) (en:=Mk) (λ_=>rfl)]⟩
def Ahd:Dw.Spec:=NN [] .ground VH VG (λa=>QA a.1 a.2) NK noE
theorem Agx:NL Tryz.prog 221 Ahd:=by
 refine fn2 2 (NG) Tryz.func221<|?_;intro a;unfold QA;exact B

def Aac (a:Int×(List Int)):List D:=[Av a.1,.sl (a.2.map Mk)]
def Aab (ds:List D):Int×(List Int):=(uI (ds.getD 0 .top),(uL uI) (ds.getD 1 .top))
instance:Od Aac Aab:=⟨λa=>by simp[Aab,Aac,uI,OG (u:=uI) (en:=Mk) (λ_=>rfl)]⟩
def Amh:Dw.Spec:=NN [] .ground Aac Aab (λa=>Tp a.1 a.2) NK noE
theorem Aln:NL Tryz.prog 144 Amh:=by
 refine fn2 2 (NG) Tryz.func144<|?_;intro a;unfold Tp;exact B

def Aox:Dw.Spec:=NN [] .ground Sr Sq (λa=>TU a) NK noE
theorem Ahq:NL Tryz.prog 121 Aox:=by
 refine fn2 1 (nK 185 Aos<|nK 68 AcQ<|NG) Tryz.func121<|?_;intro a;unfold TU;refine Ac 13 ?_ ?_
 ·exact B
 ·refine A 9 ?_;refine lP (E:=λ(s:Int) (_g:Unit)=>[(0,.sl (a.map OR)),(3,Av s)]) (O:=λ_ _=>[]) () hX<|?_
  rintro b ⟨⟩ nn;dsimp only[Ahp];refine Ac 9 ?_ ?_
  ·refine Ab 8 λc d=>?_
   refine Ab 3 λe f=>?_
   refine A 3 ?_;refine Tz r ?_ ?_
   ·exact B
   ·refine Ab 2 λg h=>?_
    refine Ab 3 λi j=>?_
    refine Ac 5 ?_ ?_
    ·exact B
    ·refine A 8 ?_;exact xL (s:=i64.wrap (b+1)) () hX
  ·exact B

def Aot:Dw.Spec:=NN [] .ground Sr Sq (λa=>Va a) NK noE
theorem Ang:NL Tryz.prog 75 Aot:=by
 refine fn2 1 (nK 121 Ahq<|NG) Tryz.func75<|?_;intro a;unfold Va;refine Ab 14 λb c=>?_
 refine Ac 4 ?_ ?_
 ·exact B
 ·refine A 9 ?_;refine lP (E:=λ(s:Int×Int) (_g:Unit)=>[(0,.sl (a.map OR)),(3,Av s.1),(4,Av s.2)]) (O:=λ_ _=>[]) () hX<|?_
  rintro⟨d,e⟩ ⟨⟩ nn;dsimp only[Zy];exact B

def Ael (a:(List NS)×(List Int)):List D:=[.sl (a.1.map OR),.sl (a.2.map Mk)]
def Aek (ds:List D):(List NS)×(List Int):=((uL Wx) (ds.getD 0 .top),(uL uI) (ds.getD 1 .top))
instance:Od Ael Aek:=⟨λa=>by simp[Aek,Ael,OG (u:=Wx) (en:=OR) AeN,OG (u:=uI) (en:=Mk) (λ_=>rfl)]⟩
def Ars:Dw.Spec:=NN [] .ground Ael Aek (λa=>AdR a.1 a.2) NK noE
theorem Aqq:NL Tryz.prog 205 Ars:=by
 refine fn2 2 (NG) Tryz.func205<|?_;rintro⟨c,a⟩;unfold AdR;refine A 17 ?_;refine lP (E:=λ(s:Int×Int) (_g:Unit)=>[(0,.sl (c.map OR)),(1,.sl (a.map Mk)),(5,Av s.1),(6,Av s.2)]) (O:=λ_ _=>[]) () hX<|?_
 rintro⟨d,b⟩ ⟨⟩ nn;dsimp only[Afp];refine sC (E:=λ(_s:Unit) (_g:Unit)=>[(0,.sl (c.map OR)),(1,.sl (a.map Mk)),(5,Av d),(6,Av b),(12,Av b),(13,.sl (a.map Mk)),(14,Av (a.length:Int)),(15,.bool (decide (b<(a.length:Int))))]) (O:=λ_ _=>[]) (j:=λ_=>Acf a b c d) ?_ ?_
 ·exact B
 ·rintro⟨⟩ ⟨⟩ nn;dsimp only[Acf];exact B

end
end Go.Proofs.YtcaoepecbgggcaaGreatDoor
