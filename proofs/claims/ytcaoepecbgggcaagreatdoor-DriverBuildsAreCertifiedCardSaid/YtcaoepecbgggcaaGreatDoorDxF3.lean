/-
 The code does what its typed programs say.
-/
import Derived.Test.YtcaoepecbgggcaaGreatDoorSh
import Derived.Test.YtcaoepecbgggcaaGreatDoorDxF1
namespace Go.Proofs.YtcaoepecbgggcaaGreatDoor
open Go Go.Dw Go.Proofs
set_option maxRecDepth 100000
set_option maxHeartbeats 40000000
open Go.Dw renaming OO -> bD,Qk -> cK,Qs -> cD,Rp -> xC,PY -> xL,QS -> lP,PQ -> sC,rf -> r
abbrev AoP:=en2 PJ Nz
abbrev AxY:=de2 Rr Rh
def Arp (b:RI):D:=AhG b
theorem ApS:Nr Tryz.prog 266 (fS .ground AoP (λa=>Wz a.1 a.2) Arp):=by
 refine fn2 2 (Np) Tryz.func266<|?_;intro a;unfold Wz;exact B

abbrev AfP:=en1 NI
abbrev AfO:=de1 PC
def Ahw (b:(List Int)×Nt):D:=.sl (b.1.map Av)
def Ahv (b:(List Int)×Nt):List D:=[NI b.2]
theorem Sd:Nr Tryz.prog 220 (NO [(0,(8,255))] (.row 1 3) AfP AfO (λa=>QI a) Ahw Ahv):=by
 refine fn2 1 (nK 262 Ayg<|Np) Tryz.func220<|?_;intro b;unfold QI;refine A 18 ?_;refine lP (E:=λ(s:(List Int)×Int) (g:Nat)=>[oT 3 g s.1,(6,.optr 8192 0 0 0),oI 7 s.2]) (O:=λs g=>[(3,dW g 1 3 (s.1.map Av)),(8192,dV 0 8 255 (NI b))]) _ hX<|?_
 rintro⟨f,c⟩ h nn;dsimp only[Aaq];refine Ac 6 ?_ ?_
 ·refine A 8 ?_;refine cK λhq=>QG r r r hq<|bD λd e=>Qv (q:=d) (l:=b.toList) (en:=XN) (j:=c.toNat) (by simp) r r r e r (λ_=>r)<|?_
  refine A 5 ?_;refine lP (E:=λ(s:(List Int)×Int) (g:Nat)=>[oT 3 g s.1,oI 4 c,(5,Aoc s.2),(6,.optr 8192 0 0 0),oI 7 c]) (O:=λs g=>[(3,dW g 1 3 (s.1.map Av)),(8192,dV 0 8 255 (NI b))]) _ hX<|?_
  rintro⟨i,k⟩ m nn;dsimp only[Aar];exact B
 ·exact B

abbrev XH:=en2 Qf Av
abbrev Apk:=de2 Th uI
def AeF (b:NH):D:=Qa b
theorem Yf:Nr Tryz.prog 224 (fS .ground XH (λa=>PS a.1 a.2) AeF):=by
 refine fn2 2 (Np) Tryz.func224<|?_;intro a;unfold PS;exact B

abbrev Ahi:=en2 Xl Av
abbrev Azf:=de2 XC uI
def Apm (b:OG×Bool):D:=.tup [Qb b.1,.bool b.2]
theorem Anu:Nr Tryz.prog 181 (fS .val Ahi (λa=>AeT a.1 a.2) Apm):=by
 refine fn2 2 (nK 244 AcG<|nK 150 YL<|Np) Tryz.func181<|?_;rintro⟨c,d⟩;unfold AeT;refine Ab 14 λe f=>?_
 refine Ac 4 ?_ ?_
 ·refine A 9 ?_;refine Po (b:=((OG.mk (NX.mk 0 0 ([])) 0 0),false)) r ?_ r r ?_ (by first|rfl|(simp only[Nu];rfl)|(simp only[Nx];rfl)|(simp only[Nu,Nx];rfl)|(simp[Apm,Qb];try rfl)) (by decide)
  all_goals first|(simp;done)|(simp;omega)|rfl|(simp[OQ,OH];done)|(simp[cells];done)
 ·exact B

abbrev ZE:=en2 NW NG
abbrev AxF:=de2 Aci RD
def AbT (b:NH×Bool):D:=.tup [Qa b.1,.bool b.2]
theorem ApF:Nr Tryz.prog 273 (fS .val ZE (λa=>Rb a.1 a.2) AbT):=by
 refine fn2 2 (Np) Tryz.func273<|?_;intro a;unfold Rb;exact B

theorem Aom:Nr Tryz.prog 274 (fS .val ZE (λa=>Qw a.1 a.2) AbT):=by
 refine fn2 2 (Np) Tryz.func274<|?_;intro a;unfold Qw;exact B

theorem Aow:Nr Tryz.prog 191 (fS .val ZE (λa=>Qz a.1 a.2) AbT):=by
 refine fn2 2 (Np) Tryz.func191<|?_;rintro⟨c,b⟩;unfold Qz;refine A 9 ?_;refine sC (E:=λ(s:Bool) (g:Nat×Nat)=>[oP 3 g.1,oP 4 g.2,oB 13 s]) (O:=λ_ g=>[(3,dV g.1 5 90 (NG b)),(4,dV g.2 2 186 (.agg [Nm 0,Nm 0]))]) (j:=λs=>Pk b s) ?_ ?_
 ·exact B
 ·rintro d ⟨e,f⟩ nn;dsimp only[Pk];exact B

theorem AnB:Nr Tryz.prog 192 (fS .val ZE (λa=>Qi a.1 a.2) AbT):=by
 refine fn2 2 (Np) Tryz.func192<|?_;rintro⟨c,b⟩;unfold Qi;refine A 9 ?_;refine sC (E:=λ(s:Bool) (g:Nat×Nat)=>[oP 3 g.1,oP 4 g.2,oB 13 s]) (O:=λ_ g=>[(3,dV g.1 5 90 (NG b)),(4,dV g.2 2 186 (.agg [Nm 0,Nm 0]))]) (j:=λs=>OY b s) ?_ ?_
 ·exact B
 ·rintro d ⟨e,f⟩ nn;dsimp only[OY];exact B

end Go.Proofs.YtcaoepecbgggcaaGreatDoor
