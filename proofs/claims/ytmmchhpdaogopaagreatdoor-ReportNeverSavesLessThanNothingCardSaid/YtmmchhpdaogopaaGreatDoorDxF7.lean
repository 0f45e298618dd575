/-
 The code does what its typed programs say.
-/
import Derived.Test.YtmmchhpdaogopaaGreatDoorDxF5
namespace Go.Proofs.YtmmchhpdaogopaaGreatDoor
open Go Go.Dw Go.Proofs
set_option maxRecDepth 100000
set_option maxHeartbeats 40000000
open Go.Dw renaming Px -> bD,Sp -> bS,QU -> cD,RO -> xC,Qx -> xL,Rq -> lP,Qq -> sC,Qk -> bC,rf -> r
def AnL (b:(List PW)):D:=.sl (b.map Tk)
theorem Amx:NM Tryz.prog 192 (fS (.row 2 129) AeZ (λa=>ZK a) AnL):=by
 refine fn2 1 (NK) Tryz.func192<|?_;intro d;unfold ZK;refine A 18 ?_;refine lP (E:=λ(s:(List PW)×Int) (g:Nat×Nat)=>[oP 1 g.1,oT 3 g.2 s.1,oI 4 s.2]) (O:=λs g=>[(1,dV g.1 3 57 (NU d)),(3,dW g.2 2 129 (s.1.map Tk))]) (_,_) hX<|?_
 rintro⟨c,k3⟩ ⟨e,f⟩ nn;dsimp only[AbM];refine Ac 10 ?_ ?_
 ·refine A 2 ?_;refine bC (E:=λ(s:(List PW)) (g:Nat×Nat)=>[oP 1 g.1,oT 3 g.2 s,oI 4 k3]) (O:=λs g=>[(1,dV g.1 3 57 (NU d)),(3,dW g.2 2 129 (s.map Tk))]) (j:=λs=>WU k3 s) ?_ ?_
  ·refine Ab 5 λb h=>?_
   refine A 17 ?_;refine sC (E:=λ(s:Bool) (g:Nat×Nat×Nat)=>[oP 1 g.1,oT 3 g.2.1 c,oI 4 k3,oP 6 g.2.2,oB 7 s]) (O:=λ_ g=>[(1,dV g.1 3 57 (NU d)),(3,dW g.2.1 2 129 (c.map Tk)),(6,dV g.2.2 2 129 (.agg [Mk b.A,Mk b.B]))]) (j:=λs=>WV c b k3 s) ?_ ?_
   ·exact B
   ·rintro i ⟨k,l,m⟩ nn;dsimp only[WV];refine A 7 ?_;refine lP (E:=λ(s:Bool×Int) (g:Nat×Nat×Nat)=>[oP 1 g.1,oT 3 g.2.1 c,oI 4 k3,oP 6 g.2.2,oB 7 s.1,oI 8 s.2]) (O:=λ_ g=>[(1,dV g.1 3 57 (NU d)),(3,dW g.2.1 2 129 (c.map Tk)),(6,dV g.2.2 2 129 (.agg [Mk b.A,Mk b.B]))]) (_,_,_) hX<|?_
    rintro⟨o,p⟩ ⟨q,t,u⟩ nn;dsimp only[Ago];refine Ac 9 ?_ ?_
    ·exact B
    ·refine Ac 11 ?_ ?_
     ·refine A 3 ?_;refine bS ([(PW.mk b.A b.B)]:List PW) Tk r r r (by simp) r r r<|?_
      exact B
     ·exact B
  ·rintro v ⟨x,z⟩ nn;dsimp only[WU];exact B
 ·exact B

end Go.Proofs.YtmmchhpdaogopaaGreatDoor
