/-
 The code does what its typed programs say.
-/
import Derived.Test.YtcaoepecbgggcaaGreatDoorDxP
namespace Go.Proofs.YtcaoepecbgggcaaGreatDoor
open Go Go.Dw Go.Proofs
open Go.IntKind (i64)
set_option maxRecDepth 100000
set_option maxHeartbeats 40000000
open Go.Dw renaming OO -> bD,TR -> bS,Qs -> cD,Rp -> xC,PY -> xL,QS -> lP,PQ -> sC,rf -> r
abbrev VI:=en1 Oh
abbrev VH:=de1 Rq
def Alp (b:Bool×Mk):D:=.bool b.1
def Alo (b:Bool×Mk):List D:=[Oh b.2]
theorem Akg:Nr Tryz.prog 64 (NO [(0,(2,114))] .val VI VH (λa=>YF a) Alp Alo):=by
 refine fn2 1 (Np) Tryz.func64<|?_;intro a;unfold YF;exact B

abbrev Acq:=en2 Oh Av
abbrev Acp:=de2 Rq uI
def Aah (b:Int×Mk):D:=Nm b.1
def Alr (b:Int×Mk):List D:=[Oh b.2]
theorem OK:Nr Tryz.prog 22 (NO [(0,(2,114))] .val Acq Acp (λa=>Ny a.1 a.2) Aah Alr):=by
 refine fn2 2 (nK 64 Akg<|Np) Tryz.func22<|?_;rintro⟨e,b⟩;unfold Ny;refine A 5 ?_;refine sC (E:=λ(_s:(List Int)×Int) (_g:Unit)=>[(0,.optr 8192 0 0 0),oI 1 b]) (O:=λs _=>[(8192,dV 0 2 114 (.agg [.sl (s.1.map eU8),Nm s.2]))]) (j:=λs=>Wg b s.1 s.2) ?_ ?_
 ·exact B
 ·rintro⟨c,d⟩ ⟨⟩ nn;dsimp only[Wg];refine Ab 10 λf g=>?_
  refine A 15 ?_;refine Adw (i:=0) (es':=[.agg [.sl (c.map eU8),Nm (i64.wrap (d+1))]]) r r r r r r r (by first|trivial|(simp;done)|(simp;omega)) r r r r r r<|?_
  exact B

def Alu (b:NB×Mk):D:=On b.1
def Als (b:NB×Mk):List D:=[Oh b.2]
theorem Aki:Nr Tryz.prog 49 (NO [(0,(2,114))] .val VI VH (λa=>YG a) Alu Als):=by
 refine fn2 1 (nK 22 OK<|Np) Tryz.func49<|?_;intro b;unfold YG;refine A 7 ?_;refine bS ([8,4,8,1,2,16,8]:List Int) Av r r r (by simp) r r r<|?_
 refine Ab 1 λc d=>?_
 refine Ab 2 λe f=>?_
 refine A 1 ?_;refine bS ([8,4,1,8,16,2,32,64]:List Int) Av r r r (by simp) r r r<|?_
 exact B

def Akk (b:(List NB)×Mk):D:=.sl (b.1.map On)
def Akj (b:(List NB)×Mk):List D:=[Oh b.2]
theorem AjE:Nr Tryz.prog 131 (NO [(0,(2,114))] (.row 2 87) Acq Acp (λa=>Vr a.1 a.2) Akk Akj):=by
 refine fn2 2 (nK 22 OK<|nK 49 Aki<|Np) Tryz.func131<|?_;rintro⟨c,d⟩;unfold Vr;refine Ab 16 λe f=>?_
 refine A 5 ?_;refine lP (E:=λ(s:(List Int)×Int×(List NB)×Int) (g:Nat)=>[(0,.optr 8192 0 0 0),oT 5 g s.2.2.1,oI 6 s.2.2.2]) (O:=λs g=>[(5,dW g 2 87 (s.2.2.1.map On)),(8192,dV 0 2 114 (.agg [.sl (s.1.map eU8),Nm s.2.1]))]) _ hX<|?_
 rintro⟨h,c5,i,j⟩ k nn;dsimp only[Acs];refine Ac 7 ?_ ?_
 ·refine Ab 7 λb l=>?_
  refine A 1 ?_;refine bS ([b.1]:List NB) On r r r (by simp) r r r<|?_
  exact B
 ·exact B

abbrev AjI:=en3 Oh Nz Av
abbrev AjH:=de3 Rq Rh uI
def Alz (b:Int×Mk):List D:=[Oh b.2]
theorem AdL:Nr Tryz.prog 194 (NO [(0,(2,114))] .val AjI AjH (λa=>Wl a.1 a.2.1 a.2.2) Aah Alz):=by
 refine fn2 3 (nK 22 OK<|Np) Tryz.func194<|?_;rintro⟨b,c,d⟩;unfold Wl;refine A 18 ?_;refine lP (E:=λ(s:(List Int)×Int) (g:Nat×Nat)=>[(0,.optr 8192 0 0 0),oI 2 d,oP 4 g.1,oT 7 g.2 s.1,oI 8 s.2]) (O:=λs g=>[(4,dV g.1 3 36 (Nz c)),(7,dW g.2 1 3 (s.1.map Av)),(8192,dV 0 2 114 (.agg [.sl (b.list.map eU8),Nm b.at_]))]) (_,_) hX<|?_
 rintro⟨e,k5⟩ ⟨f,h⟩ nn;dsimp only[AdK];exact B

def Alw (b:Int×Mk):D:=Aoc b.1
def Alv (b:Int×Mk):List D:=[Oh b.2]
theorem AdJ:Nr Tryz.prog 48 (NO [(0,(2,114))] .val VI VH (λa=>Wi a) Alw Alv):=by
 refine fn2 1 (nK 22 OK<|Np) Tryz.func48<|?_;intro a;unfold Wi;exact B

def Amr (b:Int×Mk):List D:=[Oh b.2]
theorem Aag:Nr Tryz.prog 47 (NO [(0,(2,114))] .val VI VH (λa=>RL a) Aah Amr):=by
 refine fn2 1 (nK 22 OK<|Np) Tryz.func47<|?_;intro b;unfold RL;refine Ab 8 λc d=>?_
 refine Ac 11 ?_ ?_
 ·refine A 2 ?_;refine bS ([9223372036854775807,(-9223372036854775808),2147483648,2147483647,(-1),16777216,33554432,1048577,512,80]:List Int) Av r r r (by simp) r r r<|?_
  exact B
 ·exact B

end Go.Proofs.YtcaoepecbgggcaaGreatDoor
