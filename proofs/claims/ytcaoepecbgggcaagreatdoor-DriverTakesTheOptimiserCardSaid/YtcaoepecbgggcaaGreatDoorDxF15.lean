/-
 The code does what its typed programs say.
-/
import Derived.Test.YtcaoepecbgggcaaGreatDoorDxF6
import Derived.Test.YtcaoepecbgggcaaGreatDoorDxF8
namespace Go.Proofs.YtcaoepecbgggcaaGreatDoor
open Go Go.Dw Go.Proofs
open Go.IntKind (i64)
set_option maxRecDepth 100000
set_option maxHeartbeats 40000000
open Go.Dw renaming ON -> bD,Qa -> cK,Alu -> aP,PL -> cD,QZ -> xC,Pn -> xL,Qb -> lP,PI -> sC,Rr -> bC,rf -> r
def Zd (a:(List (List Int))):List D:=[.sl (a.map (eL NF))]
def Zc (ds:List D):(List (List Int)):=(uL (uL uI)) (ds.getD 0 .top)
instance:Od Zd Zc:=⟨λa=>by simp[Zc,Zd,OE (u:=(uL uI)) (en:=(eL NF)) (OE (u:=uI) (en:=NF) (λ_=>rfl))]⟩
def AeW (b:(List Int)×Int):D:=.tup [.sl (b.1.map NF),Av b.2]
noncomputable def AjC:Dw.Spec:=NO [] .val Zd Zc (λa=>Rm a) AeW noE
theorem Aif:NK Tryz.prog 110 AjC:=by
 refine fn2 1 (nK 172 ApN<|nK 173 Amx<|nK 171 AjB<|NG) Tryz.func110<|?_;intro a;unfold Rm;refine A 12 ?_;refine bC (E:=λ(s:(List Int)) (g:Nat)=>[(4,.osl 4 g 0 s.length)]) (O:=λs g=>[(4,dW g 1 3 (s.map NF))]) (j:=λs=>Ady s) ?_ ?_
 ·refine lP (E:=λ(s:(List Int)×(List Int)) (g:Nat×Nat)=>[(0,.sl (a.map (eL NF))),(4,.osl 4 g.1 0 s.1.length),(5,.osl 5 g.2 0 s.2.length)]) (O:=λs g=>[(4,dW g.1 1 3 (s.1.map NF)),(5,dW g.2 1 3 (s.2.map NF))]) (_,_) hX<|?_
  rintro⟨b,c⟩ ⟨d,e⟩ nn;dsimp only[Aaf];refine Ac 10 ?_ ?_
  ·refine A 8 ?_;refine sC (E:=λ(s:Int) (g:Nat×Nat)=>[(0,.sl (a.map (eL NF))),(4,.osl 4 g.1 0 b.length),(5,.osl 5 g.2 0 c.length),(6,Av s)]) (O:=λ_ g=>[(4,dW g.1 1 3 (b.map NF)),(5,dW g.2 1 3 (c.map NF))]) (j:=λs=>Vu b c s) ?_ ?_
   ·refine A 8 ?_;refine lP (E:=λ(s:Int) (g:Nat×Nat)=>[(0,.sl (a.map (eL NF))),(4,.osl 4 g.1 0 b.length),(5,.osl 5 g.2 0 c.length),(6,Av (-1)),(14,.sl (a.map (eL NF))),(15,Av (a.length:Int)),(16,Av s)]) (O:=λ_ g=>[(4,dW g.1 1 3 (b.map NF)),(5,dW g.2 1 3 (c.map NF))]) (_,_) hX<|?_
    rintro f ⟨h,i⟩ nn;dsimp only[SJ];exact B
   ·rintro k ⟨l,m⟩ nn;dsimp only[Vu];exact B
  ·exact B
 ·rintro o p nn;dsimp only[Ady];exact B

def AcS (a:(List (List Int))×Int):List D:=[.sl (a.1.map (eL NF)),Av a.2]
def AcR (ds:List D):(List (List Int))×Int:=((uL (uL uI)) (ds.getD 0 .top),uI (ds.getD 1 .top))
instance:Od AcS AcR:=⟨λa=>by simp[AcR,AcS,uI,OE (u:=(uL uI)) (en:=(eL NF)) (OE (u:=uI) (en:=NF) (λ_=>rfl))]⟩
noncomputable def Aqs:Dw.Spec:=NO [] .ground AcS AcR (λa=>Abm a.1 a.2) NX noE
theorem AoV:NK Tryz.prog 201 Aqs:=by
 refine fn2 2 (nK 226 Aiw<|nK 116 ZV<|NG) Tryz.func201<|?_;rintro⟨b,c⟩;unfold Abm;refine Ac 14 ?_ ?_
 ·exact B
 ·refine A 9 ?_;refine lP (E:=λ(s:Int) (_g:Unit)=>[(0,.sl (b.map (eL NF))),(1,Av c),(5,Av s)]) (O:=λ_ _=>[]) () hX<|?_
  rintro a ⟨⟩ nn;dsimp only[Rp];refine Ac 8 ?_ ?_
  ·refine A 2 ?_;refine bC (E:=λ(s:(List Int)×(List Int)×Bool) (_g:Unit)=>[(0,.sl (b.map (eL NF))),(1,Av c),(5,Av a),(24,.sl (b.map (eL NF))),(25,Av a),(26,.fptr (.sl (s.1.map NF)) 0),(27,.sl (s.2.1.map NF)),(28,Av a),(29,.bool s.2.2)]) (O:=λ_ _=>[]) (j:=λs=>Aaq a s.1 s.2.1 s.2.2) ?_ ?_
   ·refine sC (E:=λ(s:(List Int)×(List Int)×Bool) (_g:Unit)=>[(0,.sl (b.map (eL NF))),(1,Av c),(5,Av a),(24,.sl (b.map (eL NF))),(25,Av a),(26,.fptr (.sl (s.1.map NF)) 0),(27,.sl (s.2.1.map NF)),(28,Av a),(29,.bool s.2.2)]) (O:=λ_ _=>[]) (j:=λs=>XX b a c s.1 s.2.1 s.2.2) ?_ ?_
    ·refine Ab 4 λk l=>?_
     refine Ab 2 λm o=>?_
     refine A 3 ?_;refine RS r ?_ ?_
     ·exact B
     ·refine Ab 2 λd p=>?_
      refine Ab 3 λh q=>?_
      refine Ac 4 ?_ ?_
      ·exact B
      ·refine A 1 ?_;exact xC (s:=(d,d,h)) () hX
    ·rintro⟨e,f,g⟩ ⟨⟩ nn;dsimp only[XX];refine A 6 ?_;refine lP (E:=λ(s:Int) (_g:Unit)=>[(0,.sl (b.map (eL NF))),(1,Av c),(5,Av a),(6,Av s),(24,.sl (b.map (eL NF))),(25,Av a),(26,.fptr (.sl (e.map NF)) 0),(27,.sl (f.map NF)),(28,Av a),(29,.bool g)]) (O:=λ_ _=>[]) () hX<|?_
     rintro i ⟨⟩ nn;dsimp only[Vw];refine Ab 6 λt u=>?_
     refine Ac 6 ?_ ?_
     ·refine Ab 8 λv x=>?_
      refine Ab 3 λz aa=>?_
      refine A 11 ?_;refine RS r ?_ ?_
      ·exact B
      ·refine Ab 2 λab ac=>?_
       refine Ab 3 λad ae=>?_
       refine Ac 5 ?_ ?_
       ·exact B
       ·refine A 8 ?_;exact xL (s:=i64.wrap (i+1)) () hX
     ·refine A 4 ?_;exact Aho (s:=(e,f,g)) () hX
   ·rintro⟨x4,x5,x6⟩ ⟨⟩ nn;dsimp only[Aaq];exact B
  ·exact B

noncomputable def AqE:Dw.Spec:=NO [] (.row 1 3) SE SD (λa=>Aeo a) OC noE
theorem Ape:NK Tryz.prog 202 AqE:=by
 refine fn2 1 (nK 251 Aoa<|NG) Tryz.func202<|?_;intro c;unfold Aeo;refine A 17 ?_;refine lP (E:=λ(s:(List Int)×Int) (g:Nat)=>[(0,.sl (c.map OH)),(3,.osl 3 g 0 s.1.length),(4,Av s.2)]) (O:=λs g=>[(3,dW g 1 3 (s.1.map NF))]) _ hX<|?_
 rintro⟨a,b⟩ d nn;dsimp only[AiK];refine Ac 9 ?_ ?_
 ·refine A 2 ?_;refine bC (E:=λ(s:(List Int)) (g:Nat)=>[(0,.sl (c.map OH)),(3,.osl 3 g 0 s.length),(4,Av b)]) (O:=λs g=>[(3,dW g 1 3 (s.map NF))]) (j:=λs=>Aax b s) ?_ ?_
  ·refine A 7 ?_;refine bC (E:=λ(s:Int) (g:Nat)=>[(0,.sl (c.map OH)),(3,.osl 3 g 0 a.length),(4,Av b),(5,Av s)]) (O:=λ_ g=>[(3,dW g 1 3 (a.map NF))]) (j:=λs=>Vx a b s) ?_ ?_
   ·refine lP (E:=λ(s:Int) (g:Nat)=>[(0,.sl (c.map OH)),(3,.osl 3 g 0 a.length),(4,Av b),(5,Av s)]) (O:=λ_ g=>[(3,dW g 1 3 (a.map NF))]) _ hX<|?_
    rintro k6 e nn;dsimp only[AiL];exact B
   ·rintro k5 f nn;dsimp only[Vx];refine A 4 ?_;refine cK λhq=>AiP (l:=a) r r r r r r hq<|cK λhq=>aP (([]:List Int)) (a.take k5.toNat) NF r r r r r r r (by first|(simp;done)|(simp;omega)) (by simp[List.map_take]) r r (by simp) r (λ_=>r) r hq<|?_
    refine A 7 ?_;refine cK λhq=>aP (([]:List Int)++(a.take k5.toNat)) (([b]:List Int)) NF r r r r r r r (by simp) (Zt _ _ r) r r (by simp) (Ws _ _ r) (λ_=>r) r hq<|?_
    refine A 2 ?_;refine cK λhq=>AiQ (l:=a) r r r r r r hq<|cK λhq=>aP ((([]:List Int)++(a.take k5.toNat))++([b]:List Int)) (a.drop k5.toNat) NF r r r r r r r (by first|(simp;done)|(simp;omega)) (Alk _ _ _) r r (by simp) (Ws _ _ r) (λ_=>r) r hq<|?_
    exact B
  ·rintro h i nn;dsimp only[Aax];exact B
 ·exact B

end Go.Proofs.YtcaoepecbgggcaaGreatDoor
