/-
 The code does what its typed programs say.
-/
import Derived.Test.YtcaoepecbgggcaaGreatDoorProg
import Derived.Test.YtcaoepecbgggcaaGreatDoorDc
import Derived.KernelRfl
import Derived.Test.YtcaoepecbgggcaaGreatDoorDxP
import Derived.Test.YtcaoepecbgggcaaGreatDoorDxF1
import Derived.Test.YtcaoepecbgggcaaGreatDoorDxF5
import Derived.Test.YtcaoepecbgggcaaGreatDoorDxF6
import Derived.Test.YtcaoepecbgggcaaGreatDoorDxF8
namespace Go.Proofs.YtcaoepecbgggcaaGreatDoor
open Go Go.Dw Go.Proofs
open Go.IntKind (i64)
set_option maxRecDepth 100000
set_option maxHeartbeats 40000000
open Go.Dw renaming OQ -> bD,PQ -> cK,Akc -> aP,PX -> cD,RJ -> xC,PH -> xL,Qm -> lP,Qd -> sC,Rf -> bC,rf -> r
def Yy (a:(List (List Int))):List D:=[.sl (a.map (eL Mk))]
def Yx (ds:List D):(List (List Int)):=(uL (uL uI)) (ds.getD 0 .top)
instance:Od Yy Yx:=⟨λa=>by simp[Yx,Yy,OG (u:=(uL uI)) (en:=(eL Mk)) (OG (u:=uI) (en:=Mk) (λ_=>rfl))]⟩
def AdZ (b:(List Int)×Int):D:=.tup [.sl (b.1.map Mk),Av b.2]
noncomputable def Ait:Dw.Spec:=NN [] .val Yy Yx (λa=>Rb a) AdZ noE
theorem Ahb:NL Tryz.prog 110 Ait:=by
 refine fn2 1 (nK 172 Aof<|nK 173 AkO<|nK 171 Ais<|NG) Tryz.func110<|?_;intro a;unfold Rb;refine A 12 ?_;refine bC (E:=λ(s:(List Int)) (g:Nat)=>[(4,.osl 4 g 0 s.length)]) (O:=λs g=>[(4,dW g 1 3 (s.map Mk))]) (j:=λs=>AcC s) ?_ ?_
 ·refine lP (E:=λ(s:(List Int)×(List Int)) (g:Nat×Nat)=>[(0,.sl (a.map (eL Mk))),(4,.osl 4 g.1 0 s.1.length),(5,.osl 5 g.2 0 s.2.length)]) (O:=λs g=>[(4,dW g.1 1 3 (s.1.map Mk)),(5,dW g.2 1 3 (s.2.map Mk))]) (_,_) hX<|?_
  rintro⟨b,c⟩ ⟨d,e⟩ nn;dsimp only[Zr];refine Ac 10 ?_ ?_
  ·refine A 8 ?_;refine sC (E:=λ(s:Int) (g:Nat×Nat)=>[(0,.sl (a.map (eL Mk))),(4,.osl 4 g.1 0 b.length),(5,.osl 5 g.2 0 c.length),(6,Av s)]) (O:=λ_ g=>[(4,dW g.1 1 3 (b.map Mk)),(5,dW g.2 1 3 (c.map Mk))]) (j:=λs=>Ve b c s) ?_ ?_
   ·refine A 8 ?_;refine lP (E:=λ(s:Int) (g:Nat×Nat)=>[(0,.sl (a.map (eL Mk))),(4,.osl 4 g.1 0 b.length),(5,.osl 5 g.2 0 c.length),(6,Av (-1)),(14,.sl (a.map (eL Mk))),(15,Av (a.length:Int)),(16,Av s)]) (O:=λ_ g=>[(4,dW g.1 1 3 (b.map Mk)),(5,dW g.2 1 3 (c.map Mk))]) (_,_) hX<|?_
    rintro f ⟨h,i⟩ nn;dsimp only[Sw];exact B
   ·rintro k ⟨l,m⟩ nn;dsimp only[Ve];exact B
  ·exact B
 ·rintro o p nn;dsimp only[AcC];exact B

def AbU (a:(List (List Int))×Int):List D:=[.sl (a.1.map (eL Mk)),Av a.2]
def AbT (ds:List D):(List (List Int))×Int:=((uL (uL uI)) (ds.getD 0 .top),uI (ds.getD 1 .top))
instance:Od AbU AbT:=⟨λa=>by simp[AbT,AbU,uI,OG (u:=(uL uI)) (en:=(eL Mk)) (OG (u:=uI) (en:=Mk) (λ_=>rfl))]⟩
noncomputable def AoK:Dw.Spec:=NN [] .ground AbU AbT (λa=>Aat a.1 a.2) NX noE
theorem Ann:NL Tryz.prog 201 AoK:=by
 refine fn2 2 (nK 226 Ahr<|nK 116 Zh<|NG) Tryz.func201<|?_;rintro⟨b,c⟩;unfold Aat;refine Ac 14 ?_ ?_
 ·exact B
 ·refine A 9 ?_;refine lP (E:=λ(s:Int) (_g:Unit)=>[(0,.sl (b.map (eL Mk))),(1,Av c),(5,Av s)]) (O:=λ_ _=>[]) () hX<|?_
  rintro a ⟨⟩ nn;dsimp only[Re];refine Ac 8 ?_ ?_
  ·refine A 2 ?_;refine bC (E:=λ(s:(List Int)×(List Int)×Bool) (_g:Unit)=>[(0,.sl (b.map (eL Mk))),(1,Av c),(5,Av a),(24,.sl (b.map (eL Mk))),(25,Av a),(26,.fptr (.sl (s.1.map Mk)) 0),(27,.sl (s.2.1.map Mk)),(28,Av a),(29,.bool s.2.2)]) (O:=λ_ _=>[]) (j:=λs=>ZC a s.1 s.2.1 s.2.2) ?_ ?_
   ·refine sC (E:=λ(s:(List Int)×(List Int)×Bool) (_g:Unit)=>[(0,.sl (b.map (eL Mk))),(1,Av c),(5,Av a),(24,.sl (b.map (eL Mk))),(25,Av a),(26,.fptr (.sl (s.1.map Mk)) 0),(27,.sl (s.2.1.map Mk)),(28,Av a),(29,.bool s.2.2)]) (O:=λ_ _=>[]) (j:=λs=>Xq b a c s.1 s.2.1 s.2.2) ?_ ?_
    ·refine Ab 4 λk l=>?_
     refine Ab 2 λm o=>?_
     refine A 3 ?_;refine Tz r ?_ ?_
     ·exact B
     ·refine Ab 2 λd p=>?_
      refine Ab 3 λh q=>?_
      refine Ac 4 ?_ ?_
      ·exact B
      ·refine A 1 ?_;exact xC (s:=(d,d,h)) () hX
    ·rintro⟨e,f,g⟩ ⟨⟩ nn;dsimp only[Xq];refine A 6 ?_;refine lP (E:=λ(s:Int) (_g:Unit)=>[(0,.sl (b.map (eL Mk))),(1,Av c),(5,Av a),(6,Av s),(24,.sl (b.map (eL Mk))),(25,Av a),(26,.fptr (.sl (e.map Mk)) 0),(27,.sl (f.map Mk)),(28,Av a),(29,.bool g)]) (O:=λ_ _=>[]) () hX<|?_
     rintro i ⟨⟩ nn;dsimp only[Vg];refine Ab 6 λt u=>?_
     refine Ac 6 ?_ ?_
     ·refine Ab 8 λv x=>?_
      refine Ab 3 λz aa=>?_
      refine A 11 ?_;refine Tz r ?_ ?_
      ·exact B
      ·refine Ab 2 λab ac=>?_
       refine Ab 3 λad ae=>?_
       refine Ac 5 ?_ ?_
       ·exact B
       ·refine A 8 ?_;exact xL (s:=i64.wrap (i+1)) () hX
     ·refine A 4 ?_;exact Ago (s:=(e,f,g)) () hX
   ·rintro⟨x4,x5,x6⟩ ⟨⟩ nn;dsimp only[ZC];exact B
  ·exact B

noncomputable def AoW:Dw.Spec:=NN [] (.row 1 3) Sr Sq (λa=>Adu a) OC noE
theorem Anx:NL Tryz.prog 202 AoW:=by
 refine fn2 1 (nK 251 Amq<|NG) Tryz.func202<|?_;intro c;unfold Adu;refine A 17 ?_;refine lP (E:=λ(s:(List Int)×Int) (g:Nat)=>[(0,.sl (c.map OR)),(3,.osl 3 g 0 s.1.length),(4,Av s.2)]) (O:=λs g=>[(3,dW g 1 3 (s.1.map Mk))]) _ hX<|?_
 rintro⟨a,b⟩ d nn;dsimp only[AhD];refine Ac 9 ?_ ?_
 ·refine A 2 ?_;refine bC (E:=λ(s:(List Int)) (g:Nat)=>[(0,.sl (c.map OR)),(3,.osl 3 g 0 s.length),(4,Av b)]) (O:=λs g=>[(3,dW g 1 3 (s.map Mk))]) (j:=λs=>ZJ b s) ?_ ?_
  ·refine A 7 ?_;refine bC (E:=λ(s:Int) (g:Nat)=>[(0,.sl (c.map OR)),(3,.osl 3 g 0 a.length),(4,Av b),(5,Av s)]) (O:=λ_ g=>[(3,dW g 1 3 (a.map Mk))]) (j:=λs=>Vh a b s) ?_ ?_
   ·refine lP (E:=λ(s:Int) (g:Nat)=>[(0,.sl (c.map OR)),(3,.osl 3 g 0 a.length),(4,Av b),(5,Av s)]) (O:=λ_ g=>[(3,dW g 1 3 (a.map Mk))]) _ hX<|?_
    rintro k6 e nn;dsimp only[AhE];exact B
   ·rintro k5 f nn;dsimp only[Vh];refine A 4 ?_;refine cK λhq=>AhI (l:=a) r r r r r r hq<|cK λhq=>aP (([]:List Int)) (a.take k5.toNat) Mk r r r r r r r (by first|(simp;done)|(simp;omega)) (by simp[List.map_take]) r r (by simp) r (λ_=>r) r hq<|?_
    refine A 7 ?_;refine cK λhq=>aP (([]:List Int)++(a.take k5.toNat)) (([b]:List Int)) Mk r r r r r r r (by simp) (Acm _ _ r) r r (by simp) (Yn _ _ r) (λ_=>r) r hq<|?_
    refine A 2 ?_;refine cK λhq=>AhJ (l:=a) r r r r r r hq<|cK λhq=>aP ((([]:List Int)++(a.take k5.toNat))++([b]:List Int)) (a.drop k5.toNat) Mk r r r r r r r (by first|(simp;done)|(simp;omega)) (AjT _ _ _) r r (by simp) (Yn _ _ r) (λ_=>r) r hq<|?_
    exact B
  ·rintro h i nn;dsimp only[ZJ];exact B
 ·exact B

end Go.Proofs.YtcaoepecbgggcaaGreatDoor
