/-
 The code does what its typed programs say.
-/
import Derived.Test.YtcaoepecbgggcaaGreatDoorDxF3
import Derived.Test.YtcaoepecbgggcaaGreatDoorDxF4
namespace Go.Proofs.YtcaoepecbgggcaaGreatDoor
open Go Go.Dw Go.Proofs
open Go.IntKind (i64)
set_option maxRecDepth 100000
set_option maxHeartbeats 40000000
open Go.Dw renaming ON -> bD,Sj -> cG,PL -> cD,QZ -> xC,Pn -> xL,Qb -> lP,PI -> sC,rf -> r
noncomputable section
def SE (a:(List NS)):List D:=[.sl (a.map OH)]
def SD (ds:List D):(List NS):=(uL Xb) (ds.getD 0 .top)
instance:Od SE SD:=⟨λa=>by simp[SD,SE,OE (u:=Xb) (en:=OH) AfO]⟩
def AoA:Dw.Spec:=NO [] .ground SE SD (λa=>Uu a) NJ noE
theorem Ahd:NK Tryz.prog 148 AoA:=by
 refine fn2 1 (nK 856271 VN<|NG) Tryz.func148<|?_;intro a;unfold Uu;refine Ac 13 ?_ ?_
 ·exact B
 ·refine A 6 ?_;refine bD λc b=>cG a rfl rfl (show _=some RN from by kernel_rfl) Od.ok rfl rfl (by simp) r b r<|?_
  exact B

def Aoy:Dw.Spec:=NO [] .ground SE SD (λa=>XQ a) NJ noE
theorem Anx:NK Tryz.prog 87 Aoy:=by
 refine fn2 1 (nK 148 Ahd<|NG) Tryz.func87<|?_;intro a;unfold XQ;refine Ab 14 λb c=>?_
 refine Ac 4 ?_ ?_
 ·refine A 8 ?_;refine lP (E:=λ(s:Int×Int) (_g:Unit)=>[(3,Av s.2),(9,.sl (a.map OH)),(10,Av (a.length:Int)),(11,Av s.1)]) (O:=λ_ _=>[]) () hX<|?_
  rintro⟨d,e⟩ ⟨⟩ nn;dsimp only[AcD];exact B
 ·exact B

def AsM:Dw.Spec:=NO [] .ground SQ SP (λa=>AeE a.1 a.2) NJ noE
theorem Arn:NK Tryz.prog 152 AsM:=by
 refine fn2 2 (NG) Tryz.func152<|?_;intro a;unfold AeE;exact B

def AsL:Dw.Spec:=NO [] .ground SQ SP (λa=>Ach a.1 a.2) VB noE
theorem AkJ:NK Tryz.prog 89 AsL:=by
 refine fn2 2 (nK 149 AcF<|nK 150 Zl<|nK 152 Arn<|nK 151 Afu<|NG) Tryz.func89<|?_;rintro⟨a,b⟩;unfold Ach;refine A 6 ?_;refine sC (E:=λ(_s:Unit) (_g:Unit)=>[(0,Av a),(1,Av b)]) (O:=λ_ _=>[]) (j:=λ_=>AcE a b) ?_ ?_
 ·exact B
 ·rintro⟨⟩ ⟨⟩ nn;dsimp only[AcE];exact B

def AdK (a:NT×Int×Int):List D:=[PK a.1,Av a.2.1,Av a.2.2]
def AdJ (ds:List D):NT×Int×Int:=(AfN (ds.getD 0 .top),uI (ds.getD 1 .top),uI (ds.getD 2 .top))
instance:Od AdK AdJ:=⟨λa=>by simp[AdJ,AdK,uI]⟩
def PZ (b:NT×Int):D:=.tup [PK b.1,Av b.2]
def ArE:Dw.Spec:=NO [] .val AdK AdJ (λa=>AfE a.1 a.2.1 a.2.2) PZ noE
theorem ApZ:NK Tryz.prog 91 ArE:=by
 refine fn2 3 (nK 89 AkJ<|nK 90 AeY<|NG) Tryz.func91<|?_;rintro⟨a,d,e⟩;unfold AfE;refine Ab 11 λc f=>?_
 refine A 8 ?_;refine sC (E:=λ(s:Int) (g:Nat×Nat)=>[(3,.optr 3 g.1 0 0),(6,.optr 6 g.2 0 0),(8,Av c.1),(9,Av s)]) (O:=λ_ g=>[(3,dV g.1 3 39 (PK a)),(6,dV g.2 3 39 (.agg [Av 0,Av 0,.nils]))]) (j:=λs=>YD a c s) ?_ ?_
 ·exact B
 ·rintro h ⟨i,k⟩ nn;dsimp only[YD];refine Ac 7 ?_ ?_
  ·refine A 9 ?_;refine Pu (b:=((NT.mk 0 0 ([])),9)) r ?_ r r ?_ (by first|rfl|(simp only[NN];rfl)|(simp only[NQ];rfl)|(simp only[NN,NQ];rfl)|(simp[PZ,PK];try rfl)) (by decide)
   all_goals first|(simp;done)|(simp;omega)|rfl|(simp[Pd,OU];done)|(simp[cells];done)
  ·exact B

def Wa (a:Int×(List Int)):List D:=[Av a.1,.fptr (.sl (a.2.map NF)) 0]
def VZ (ds:List D):Int×(List Int):=(uI (ds.getD 0 .top),(uL uI) (fpD (ds.getD 1 .top)))
instance:Od Wa VZ:=⟨λa=>by simp[VZ,Wa,uI,fpD,OE (u:=uI) (en:=NF) (λ_=>rfl)]⟩
def Aik:Dw.Spec:=NO [] .ground Wa VZ (λa=>QH a.1 a.2) NJ noE
theorem Ahz:NK Tryz.prog 221 Aik:=by
 refine fn2 2 (NG) Tryz.func221<|?_;intro a;unfold QH;exact B

def AaR (a:Int×(List Int)):List D:=[Av a.1,.sl (a.2.map NF)]
def AaQ (ds:List D):Int×(List Int):=(uI (ds.getD 0 .top),(uL uI) (ds.getD 1 .top))
instance:Od AaR AaQ:=⟨λa=>by simp[AaQ,AaR,uI,OE (u:=uI) (en:=NF) (λ_=>rfl)]⟩
def AnR:Dw.Spec:=NO [] .ground AaR AaQ (λa=>TA a.1 a.2) NJ noE
theorem AmV:NK Tryz.prog 144 AnR:=by
 refine fn2 2 (NG) Tryz.func144<|?_;intro a;unfold TA;exact B

def Aqf:Dw.Spec:=NO [] .ground SE SD (λa=>Uj a) NJ noE
theorem Aiv:NK Tryz.prog 121 Aqf:=by
 refine fn2 1 (nK 185 Aqa<|nK 68 AdM<|NG) Tryz.func121<|?_;intro a;unfold Uj;refine Ac 13 ?_ ?_
 ·exact B
 ·refine A 9 ?_;refine lP (E:=λ(s:Int) (_g:Unit)=>[(0,.sl (a.map OH)),(3,Av s)]) (O:=λ_ _=>[]) () hX<|?_
  rintro b ⟨⟩ nn;dsimp only[Aiu];refine Ac 9 ?_ ?_
  ·refine Ab 8 λc d=>?_
   refine Ab 3 λe f=>?_
   refine A 3 ?_;refine RS r ?_ ?_
   ·exact B
   ·refine Ab 2 λg h=>?_
    refine Ab 3 λi j=>?_
    refine Ac 5 ?_ ?_
    ·exact B
    ·refine A 8 ?_;exact xL (s:=i64.wrap (b+1)) () hX
  ·exact B

def Aqb:Dw.Spec:=NO [] .ground SE SD (λa=>Vq a) NJ noE
theorem AoP:NK Tryz.prog 75 Aqb:=by
 refine fn2 1 (nK 121 Aiv<|NG) Tryz.func75<|?_;intro a;unfold Vq;refine Ab 14 λb c=>?_
 refine Ac 4 ?_ ?_
 ·exact B
 ·refine A 9 ?_;refine lP (E:=λ(s:Int×Int) (_g:Unit)=>[(0,.sl (a.map OH)),(3,Av s.1),(4,Av s.2)]) (O:=λ_ _=>[]) () hX<|?_
  rintro⟨d,e⟩ ⟨⟩ nn;dsimp only[Aam];exact B

def Afh (a:(List NS)×(List Int)):List D:=[.sl (a.1.map OH),.sl (a.2.map NF)]
def Afg (ds:List D):(List NS)×(List Int):=((uL Xb) (ds.getD 0 .top),(uL uI) (ds.getD 1 .top))
instance:Od Afh Afg:=⟨λa=>by simp[Afg,Afh,OE (u:=Xb) (en:=OH) AfO,OE (u:=uI) (en:=NF) (λ_=>rfl)]⟩
def Atc:Dw.Spec:=NO [] .ground Afh Afg (λa=>AeO a.1 a.2) NJ noE
theorem ArW:NK Tryz.prog 205 Atc:=by
 refine fn2 2 (NG) Tryz.func205<|?_;rintro⟨c,a⟩;unfold AeO;refine A 17 ?_;refine lP (E:=λ(s:Int×Int) (_g:Unit)=>[(0,.sl (c.map OH)),(1,.sl (a.map NF)),(5,Av s.1),(6,Av s.2)]) (O:=λ_ _=>[]) () hX<|?_
 rintro⟨d,b⟩ ⟨⟩ nn;dsimp only[Agt];refine sC (E:=λ(_s:Unit) (_g:Unit)=>[(0,.sl (c.map OH)),(1,.sl (a.map NF)),(5,Av d),(6,Av b),(12,Av b),(13,.sl (a.map NF)),(14,Av (a.length:Int)),(15,.bool (decide (b<(a.length:Int))))]) (O:=λ_ _=>[]) (j:=λ_=>Adc a b c d) ?_ ?_
 ·exact B
 ·rintro⟨⟩ ⟨⟩ nn;dsimp only[Adc];exact B

end
end Go.Proofs.YtcaoepecbgggcaaGreatDoor
