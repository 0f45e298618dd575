/-
 The code does what its typed programs say.
-/
import Derived.Test.YtcaoepecbgggcaaGreatDoorDxF7
import Derived.Test.YtcaoepecbgggcaaGreatDoorDxF15
open List renaming replicate->aA
namespace Go.Proofs.YtcaoepecbgggcaaGreatDoor
open Go Go.Dw Go.Proofs
set_option maxRecDepth 100000
set_option maxHeartbeats 40000000
open Go.Dw renaming ON -> bD,Ts -> bS,PL -> cD,QZ -> xC,Pn -> xL,Qb -> lP,PI -> sC,Rr -> bC,rf -> r
noncomputable def AlD:Dw.Spec:=NO [] .ground Zd Zc (λa=>UA a) NX noE
theorem Aex:NK Tryz.prog 174 AlD:=by
 refine fn2 1 (nK 211 AgW<|NG) Tryz.func174<|?_;intro a;unfold UA;refine A 14 ?_;refine lP (E:=λ(s:Int) (_g:Unit)=>[(0,.sl (a.map (eL NF))),(5,.sl (a.map (eL NF))),(6,Av (a.length:Int)),(7,Av s)]) (O:=λ_ _=>[]) () hX<|?_
 rintro b ⟨⟩ nn;dsimp only[Aew];exact B

def AeU (a:(List (List Int))×(List Int)):List D:=[.sl (a.1.map (eL NF)),.sl (a.2.map NF)]
def AeT (ds:List D):(List (List Int))×(List Int):=((uL (uL uI)) (ds.getD 0 .top),(uL uI) (ds.getD 1 .top))
instance:Od AeU AeT:=⟨λa=>by simp[AeT,AeU,OE (u:=(uL uI)) (en:=(eL NF)) (OE (u:=uI) (en:=NF) (λ_=>rfl)),OE (u:=uI) (en:=NF) (λ_=>rfl)]⟩
noncomputable def Ahr:Dw.Spec:=NO [] .val AeU AeT (λa=>Wy a.1 a.2) AeW noE
theorem Akj:NK Tryz.prog 111 Ahr:=by
 refine fn2 2 (nK 174 Aex<|nK 110 Aif<|nK 175 Aic<|NG) Tryz.func111<|?_;rintro⟨a,b⟩;unfold Wy;refine A 6 ?_;refine sC (E:=λ(_s:Unit) (_g:Unit)=>[(0,.sl (a.map (eL NF))),(1,.sl (b.map NF))]) (O:=λ_ _=>[]) (j:=λ_=>AfX b a) ?_ ?_
 ·exact B
 ·rintro⟨⟩ ⟨⟩ nn;dsimp only[AfX];refine A 9 ?_;refine lP (E:=λ(s:Int) (_g:Unit)=>[(0,.sl (a.map (eL NF))),(1,.sl (b.map NF)),(24,.sl (b.map NF)),(25,Av (b.length:Int)),(26,Av s)]) (O:=λ_ _=>[]) () hX<|?_
  rintro h ⟨⟩ nn;dsimp only[Akh];refine Ac 6 ?_ ?_
  ·exact B
  ·refine Ab 9 λk m=>?_
   refine Ac 14 ?_ ?_
   ·exact B
   ·refine A 26 ?_;refine lP (E:=λ(s:(List (List Int))×(List Int)×(List Bool)×(List Int)×Int) (g:Nat)=>[(10,.optr 4150 g 0 0),(56,Av (a.length:Int)),(57,Av s.2.2.2.2)]) (O:=λs g=>[(4150,dV g 4 194 (.agg [.sl (s.1.map (eL NF)),.sl (s.2.1.map NF),.row 1 4 (s.2.2.1.map D.bool),.row 1 3 (s.2.2.2.1.map NF)]))]) _ (((Aum (g:=54) (g2:=4150) (es':=[.agg [.sl (a.map (eL NF)),.sl (b.map NF),.osl 49 _ 0 ((aA (a.length:Int).toNat false).length),.osl 52 _ 0 ((aA (a.length:Int).toNat (0:Int)).length)]]) r r r (AxJ (by repeat' first|exact AfP.nil|apply AfP.same rfl|apply AfP.row (by decide))) (Aci (g:=4150) (i:=0) (off:=2) (g':=49) (l:=aA (a.length:Int).toNat false) (en:=D.bool) r r r (.inr ⟨rfl,r⟩) r r (λ_=>r) r (Aci (g:=4150) (i:=0) (off:=3) (g':=52) (l:=aA (a.length:Int).toNat (0:Int)) (en:=NF) r r r (.inr ⟨rfl,r⟩) r r (λ_=>r) r hX)))))<|?_
    rintro⟨d,e,f,c,o⟩ p nn;dsimp only[Aki];refine Ac 6 ?_ ?_
    ·exact B
    ·refine A 6 ?_;refine AfH (E:=[(10,.optr 4150 _ 0 0)]) (O:=[(4150,dV _ 4 194 (.agg [.sl (d.map (eL NF)),.sl (e.map NF),.row 1 4 (f.map D.bool),.osl 4697 _ 0 c.length])),(4697,dW _ 1 3 (c.map NF))]) ((Ain (g:=4150) (off:=3) 601 (c) NF r r r hX)) λnn=>?_
     exact B

def RV (a:(List (List Int))×(List Int)×(List Int)):List D:=[.sl (a.1.map (eL NF)),.sl (a.2.1.map NF),.sl (a.2.2.map NF)]
def TH (ds:List D):(List (List Int))×(List Int)×(List Int):=((uL (uL uI)) (ds.getD 0 .top),(uL uI) (ds.getD 1 .top),(uL uI) (ds.getD 2 .top))
instance:Od RV TH:=⟨λa=>by simp[TH,RV,OE (u:=(uL uI)) (en:=(eL NF)) (OE (u:=uI) (en:=NF) (λ_=>rfl)),OE (u:=uI) (en:=NF) (λ_=>rfl)]⟩
noncomputable def Aid:Dw.Spec:=NO [] .ground RV TH (λa=>Sl a.1 a.2.1 a.2.2) NX noE
theorem Abc:NK Tryz.prog 178 Aid:=by
 refine fn2 3 (nK 174 Aex<|nK 241 AcB<|NG) Tryz.func178<|?_;rintro⟨b,a,c⟩;unfold Sl;refine A 5 ?_;refine sC (E:=λ(_s:Unit) (_g:Unit)=>[(1,.sl (a.map NF))]) (O:=λ_ _=>[]) (j:=λ_=>So a) ?_ ?_
 ·exact B
 ·rintro⟨⟩ ⟨⟩ nn;dsimp only[So];refine A 9 ?_;refine lP (E:=λ(s:Int) (_g:Unit)=>[(26,.sl (a.map NF)),(27,Av (a.length:Int)),(28,Av s)]) (O:=λ_ _=>[]) () hX<|?_
  rintro d ⟨⟩ nn;dsimp only[Xm];exact B

def AbN (a:(List NS)×(List (List Int))×Int):List D:=[.sl (a.1.map OH),.sl (a.2.1.map (eL NF)),Av a.2.2]
def AbM (ds:List D):(List NS)×(List (List Int))×Int:=((uL Xb) (ds.getD 0 .top),(uL (uL uI)) (ds.getD 1 .top),uI (ds.getD 2 .top))
instance:Od AbN AbM:=⟨λa=>by simp[AbM,AbN,uI,OE (u:=Xb) (en:=OH) AfO,OE (u:=(uL uI)) (en:=(eL NF)) (OE (u:=uI) (en:=NF) (λ_=>rfl))]⟩
noncomputable def Apd:Dw.Spec:=NO [] .val AbN AbM (λa=>ZY a.1 a.2.1 a.2.2) AeW noE
theorem AnZ:NK Tryz.prog 138 Apd:=by
 refine fn2 3 (nK 121 Aiv<|nK 201 AoV<|nK 130 Aan<|nK 202 Ape<|nK 116 ZV<|nK 203 ArK<|NG) Tryz.func138<|?_;rintro⟨b,c,d⟩;unfold ZY;refine Ab 10 λp q=>?_
 refine Ac 10 ?_ ?_
 ·exact B
 ·refine A 2 ?_;refine sC (E:=λ(_s:Unit) (_g:Unit)=>[(0,.sl (b.map OH)),(1,.sl (c.map (eL NF))),(2,Av d)]) (O:=λ_ _=>[]) (j:=λ_=>Zq b c d) ?_ ?_
  ·exact B
  ·rintro⟨⟩ ⟨⟩ nn;dsimp only[Zq];refine Ab 15 λa t=>?_
   refine A 11 ?_;refine lP (E:=λ(s:(List Bool)×(List Int)×Int) (g:Nat×Nat×Nat)=>[(0,.sl (b.map OH)),(1,.sl (c.map (eL NF))),(2,Av d),(9,.osl 9 g.1 0 s.2.1.length),(10,.osl 10 g.2.1 0 s.1.length),(11,.osl 11 g.2.2 0 a.length),(12,Av s.2.2)]) (O:=λs g=>[(9,dW g.1 1 3 (s.2.1.map NF)),(10,dW g.2.1 1 4 (s.1.map D.bool)),(11,dW g.2.2 1 3 (a.map NF))]) (_,_,_) hX<|?_
   rintro⟨f,e,h⟩ ⟨u,v,x⟩ nn;dsimp only[Ada];refine Ac 9 ?_ ?_
   ·refine A 2 ?_;refine bC (E:=λ(s:(List Bool)×(List Int)) (g:Nat×Nat×Nat)=>[(0,.sl (b.map OH)),(1,.sl (c.map (eL NF))),(2,Av d),(9,.osl 9 g.1 0 s.2.length),(10,.osl 10 g.2.1 0 s.1.length),(11,.osl 11 g.2.2 0 a.length),(12,Av h)]) (O:=λs g=>[(9,dW g.1 1 3 (s.2.map NF)),(10,dW g.2.1 1 4 (s.1.map D.bool)),(11,dW g.2.2 1 3 (a.map NF))]) (j:=λs=>Zr h s.1 s.2) ?_ ?_
    ·refine Ab 5 λk z=>?_
     refine A 16 ?_;refine lP (E:=λ(s:(List NU)×Int) (g:Nat×Nat×Nat×Nat)=>[(0,.sl (b.map OH)),(1,.sl (c.map (eL NF))),(2,Av d),(9,.osl 9 g.1 0 e.length),(10,.osl 10 g.2.1 0 f.length),(11,.osl 11 g.2.2.1 0 a.length),(12,Av h),(13,Av k),(14,.osl 14 g.2.2.2 0 s.1.length),(15,Av s.2)]) (O:=λs g=>[(9,dW g.1 1 3 (e.map NF)),(10,dW g.2.1 1 4 (f.map D.bool)),(11,dW g.2.2.1 1 3 (a.map NF)),(14,dW g.2.2.2 2 186 (s.1.map PX))]) (_,_,_,_) hX<|?_
     rintro⟨i,l⟩ ⟨aa,ab,ac,ad⟩ nn;dsimp only[Adb];refine Ac 9 ?_ ?_
     ·refine A 4 ?_;refine sC (E:=λ(s:Bool) (g:Nat×Nat×Nat×Nat)=>[(0,.sl (b.map OH)),(1,.sl (c.map (eL NF))),(2,Av d),(9,.osl 9 g.1 0 e.length),(10,.osl 10 g.2.1 0 f.length),(11,.osl 11 g.2.2.1 0 a.length),(12,Av h),(13,Av k),(14,.osl 14 g.2.2.2 0 i.length),(15,Av l),(68,.bool s)]) (O:=λ_ g=>[(9,dW g.1 1 3 (e.map NF)),(10,dW g.2.1 1 4 (f.map D.bool)),(11,dW g.2.2.1 1 3 (a.map NF)),(14,dW g.2.2.2 2 186 (i.map PX))]) (j:=λs=>Sh l e b i s) ?_ ?_
      ·exact B
      ·rintro ae ⟨af,ag,ah,ai⟩ nn;dsimp only[Sh];refine cD r ?_ ?_
       ·refine Ab 5 λm aj=>?_
        refine Ab 3 λo ak=>?_
        refine A 4 ?_;refine bS ([(NU.mk m o.Size)]:List NU) PX r r r (by simp) r r r<|?_
        exact B
       ·exact B
     ·exact B
    ·rintro⟨ao,ap⟩ ⟨aq,ar,au⟩ nn;dsimp only[Zr];exact B
   ·exact B

end Go.Proofs.YtcaoepecbgggcaaGreatDoor
