/-
 The code does what its typed programs say.
-/
import Derived.Test.YtcaoepecbgggcaaGreatDoorDe
import Derived.Test.YtcaoepecbgggcaaGreatDoorProg
import Derived.Test.YtcaoepecbgggcaaGreatDoorDc
import Derived.KernelRfl
import Derived.Test.YtcaoepecbgggcaaGreatDoorDxP
import Derived.Test.YtcaoepecbgggcaaGreatDoorDxF1
import Derived.Test.YtcaoepecbgggcaaGreatDoorDxF2
import Derived.Test.YtcaoepecbgggcaaGreatDoorDxF4
import Derived.Test.YtcaoepecbgggcaaGreatDoorDxF5
import Derived.Test.YtcaoepecbgggcaaGreatDoorDxF6
import Derived.Test.YtcaoepecbgggcaaGreatDoorDxF7
import Derived.Test.YtcaoepecbgggcaaGreatDoorDxF14
import Derived.Test.YtcaoepecbgggcaaGreatDoorDxF17
import Derived.Test.YtcaoepecbgggcaaGreatDoorDxF18
open List renaming replicate->aA
namespace Go.Proofs.YtcaoepecbgggcaaGreatDoor
open Go Go.Dw Go.Proofs
open Go.IntKind (i64)
set_option maxRecDepth 100000
set_option maxHeartbeats 40000000
open Go.Dw renaming OQ -> bD,PQ -> cK,WO -> bS,PX -> cD,RJ -> xC,PH -> xL,Qm -> lP,Qd -> sC,Rf -> bC,rf -> r
noncomputable def Aks:Dw.Spec:=NN [] .ground Adn Adm (λa=>Wi a.1 a.2) NK noE
theorem AjE:NL Tryz.prog 180 Aks:=by
 refine fn2 2 (nK 181 AlV<|nK 243 AiP<|nK 230 Aah<|NG) Tryz.func180<|?_;rintro⟨b,c⟩;unfold Wi;refine Ab 10 λa d=>?_
 refine Ac 18 ?_ ?_
 ·exact B
 ·refine Ac 10 ?_ ?_
  ·exact B
  ·refine A 14 ?_;refine lP (E:=λ(s:Int) (g:Nat)=>[(5,.optr 5 g 0 0),(28,.sl (a.1.Frame.Code.map Ob)),(29,Av (a.1.Frame.Code.length:Int)),(30,Av s)]) (O:=λ_ g=>[(5,dV g 5 200 (Qf a.1))]) _ hX<|?_
   rintro e f nn;dsimp only[Wj];exact B

noncomputable def AjF:Dw.Spec:=NN [] .ground WU WT (λa=>Zv a) NK noE
theorem Aol:NL Tryz.prog 115 AjF:=by
 refine fn2 1 (nK 150 YE<|nK 180 AjE<|nK 181 AlV<|nK 182 AiO<|NG) Tryz.func115<|?_;intro a;unfold Zv;refine A 6 ?_;refine sC (E:=λ(_s:Unit) (g:Nat)=>[(1,.optr 1 g 0 0)]) (O:=λ_ g=>[(1,dV g 2 58 (.agg [Av a.Align,.sl (a.Frames.map ON)]))]) (j:=λ_=>AaA a) ?_ ?_
 ·refine Ac 16 ?_ ?_
  ·exact B
  ·refine Ac 7 ?_ ?_
   ·exact B
   ·refine sC (E:=λ(s:Bool) (g:Nat)=>[(1,.optr 1 g 0 0),(18,.bool s)]) (O:=λ_ g=>[(1,dV g 2 58 (.agg [Av a.Align,.sl (a.Frames.map ON)]))]) (j:=λs=>Ya a s) ?_ ?_
    ·exact B
    ·rintro b c nn;dsimp only[Ya];exact B
 ·rintro⟨⟩ d nn;dsimp only[AaA];refine A 10 ?_;refine lP (E:=λ(s:Int) (g:Nat)=>[(1,.optr 1 g 0 0),(37,Av (a.Frames.length:Int)),(38,Av s)]) (O:=λ_ g=>[(1,dV g 2 58 (.agg [Av a.Align,.sl (a.Frames.map ON)]))]) _ hX<|?_
  rintro e f nn;dsimp only[Aix];refine Ac 6 ?_ ?_
  ·exact B
  ·refine A 15 ?_;refine lP (E:=λ(s:Int) (g:Nat)=>[(1,.optr 1 g 0 0),(50,Av (a.Frames.length:Int)),(51,Av s)]) (O:=λ_ g=>[(1,dV g 2 58 (.agg [Av a.Align,.sl (a.Frames.map ON)]))]) _ hX<|?_
   rintro h i nn;dsimp only[Aed];exact B

def YH (a:Lo):List D:=[NQ a]
def YG (ds:List D):Lo:=RX (ds.getD 0 .top)
instance:Od YH YG:=⟨λa=>by simp[YG,YH]⟩
noncomputable def AoF:Dw.Spec:=NN [] .val YH YG (λa=>Aar a) Afj noE
theorem Ank:NL Tryz.prog 133 AoF:=by
 refine fn2 1 (nK 195 AoG<|nK 196 AoE<|NG) Tryz.func133<|?_;intro a;unfold Aar;refine A 11 ?_;refine cK λhq=>AgL (α:=Int) r r r hq r<|?_
 refine A 4 ?_;refine Qh (E:=[(1,.optr 1 _ 0 0),(2,.optr 2 _ 0 0),(3,.optr 3 _ 0 0)]) (O:=[(1,dV _ 3 36 (NQ a)),(2,dV _ 1 45 (.agg [.nils])),(3,dV _ 1 45 (.agg [.osl 8 _ 0 ((aA (a.Code.length:Int).toNat ([]:(List Int))).length)])),(8,dW _ 1 37 ((aA (a.Code.length:Int).toNat ([]:(List Int))).map (eL Mk)))]) ((Ajx (g:=8) r (Alh (l:=aA (a.Code.length:Int).toNat ([]:(List Int))) Mk (λ_ h=>List.eq_of_mem_replicate h)) hX)) λnn=>?_
 refine A 1 ?_;refine lP (E:=λ(_s:(List (List Int))) (g:Nat×Nat×Nat)=>[(1,.optr 1 g.1 0 0),(2,.optr 2 g.2.1 0 0),(3,.optr 3 g.2.2 0 0)]) (O:=λs g=>[(1,dV g.1 3 36 (NQ a)),(2,dV g.2.1 1 45 (.agg [.nils])),(3,dV g.2.2 1 45 (.agg [.sl (s.map (eL Mk))]))]) (_,_,_) ((WK [(8,some (_,⟨true,false,1,37,(aA (a.Code.length:Int).toNat ([]:(List Int))).map (eL Mk)⟩))] ⟨⟨_,_,r,r,r⟩,trivial⟩ ⟨(Oq r),(Oq r),(Oq r),trivial⟩ ⟨(.inl r),(.inl r),(.inr ⟨_,_,_,_,r,r,r,r,Vk r ⟨(YT (l:=aA (a.Code.length:Int).toNat ([]:(List Int))) (en:=(eL Mk)) r r r (by first|(simp;done)|rfl|(simp;rfl))),trivial⟩⟩),trivial⟩))<|?_
 rintro b ⟨c,d,e⟩ nn;dsimp only[AcZ];exact B

def AoM (b:(List PC)):D:=.sl (b.map Uk)
noncomputable def AoN:Dw.Spec:=NN [] (.row 2 190) YH YG (λa=>Aau a) AoM noE
theorem Anp:NL Tryz.prog 198 AoN:=by
 refine fn2 1 (NG) Tryz.func198<|?_;intro c;unfold Aau;refine A 18 ?_;refine lP (E:=λ(s:(List PC)×Int) (g:Nat×Nat)=>[(1,.optr 1 g.1 0 0),(3,.osl 3 g.2 0 s.1.length),(4,Av s.2)]) (O:=λs g=>[(1,dV g.1 3 36 (NQ c)),(3,dW g.2 2 190 (s.1.map Uk))]) (_,_) hX<|?_
 rintro⟨b,k3⟩ ⟨d,e⟩ nn;dsimp only[Ada];refine Ac 10 ?_ ?_
 ·refine A 2 ?_;refine bC (E:=λ(s:(List PC)) (g:Nat×Nat)=>[(1,.optr 1 g.1 0 0),(3,.osl 3 g.2 0 s.length),(4,Av k3)]) (O:=λs g=>[(1,dV g.1 3 36 (NQ c)),(3,dW g.2 2 190 (s.map Uk))]) (j:=λs=>Xr k3 s) ?_ ?_
  ·refine Ab 5 λa f=>?_
   refine A 17 ?_;refine sC (E:=λ(s:Bool) (g:Nat×Nat×Nat)=>[(1,.optr 1 g.1 0 0),(3,.osl 3 g.2.1 0 b.length),(4,Av k3),(6,.optr 6 g.2.2 0 0),(7,.bool s)]) (O:=λ_ g=>[(1,dV g.1 3 36 (NQ c)),(3,dW g.2.1 2 190 (b.map Uk)),(6,dV g.2.2 2 190 (.agg [Av a.A,Av a.B]))]) (j:=λs=>Xs b a k3 s) ?_ ?_
   ·exact B
   ·rintro h ⟨i,k,l⟩ nn;dsimp only[Xs];refine A 7 ?_;refine lP (E:=λ(s:Bool×Int) (g:Nat×Nat×Nat)=>[(1,.optr 1 g.1 0 0),(3,.osl 3 g.2.1 0 b.length),(4,Av k3),(6,.optr 6 g.2.2 0 0),(7,.bool s.1),(8,Av s.2)]) (O:=λ_ g=>[(1,dV g.1 3 36 (NQ c)),(3,dW g.2.1 2 190 (b.map Uk)),(6,dV g.2.2 2 190 (.agg [Av a.A,Av a.B]))]) (_,_,_) hX<|?_
    rintro⟨m,o⟩ ⟨p,q,t⟩ nn;dsimp only[Ahv];refine Ac 9 ?_ ?_
    ·exact B
    ·refine Ac 11 ?_ ?_
     ·refine A 3 ?_;refine bS ([(PC.mk a.A a.B)]:List PC) Uk r r r (by simp) r r r<|?_
      exact B
     ·exact B
  ·rintro u ⟨v,x⟩ nn;dsimp only[Xr];exact B
 ·exact B

def Aae (a:Lo×(List (List Int))):List D:=[NQ a.1,.sl (a.2.map (eL Mk))]
def Aad (ds:List D):Lo×(List (List Int)):=(RX (ds.getD 0 .top),(uL (uL uI)) (ds.getD 1 .top))
instance:Od Aae Aad:=⟨λa=>by simp[Aad,Aae,OG (u:=(uL uI)) (en:=(eL Mk)) (OG (u:=uI) (en:=Mk) (λ_=>rfl))]⟩
noncomputable def Amk:Dw.Spec:=NN [] (.row 1 3) Aae Aad (λa=>VU a.1 a.2) OC noE
theorem Alp:NL Tryz.prog 135 Amk:=by
 refine fn2 2 (AqJ (l:=[(198,AoN),(199,AoQ)]) (by simp[Anp,Ans])) Tryz.func135<|?_
 rintro⟨k,a⟩;unfold VU;refine A 18 ?_;refine lP (E:=λ(s:(List Int)×Int) (g:Nat×Nat)=>[(1,.sl (a.map (eL Mk))),(2,.optr 2 g.1 0 0),(5,.osl 5 g.2 0 s.1.length),(6,Av s.2)]) (O:=λs g=>[(2,dV g.1 3 36 (NQ k)),(5,dW g.2 1 3 (s.1.map Mk))]) (body:=λs=>Afk k a s.1 s.2) (s:=(([]:List Int),0)) (_,_) hX<|?_
 rintro⟨m,o⟩ ⟨x,z⟩ nn
 try dsimp only
 unfold Afk;refine Ac 10 ?_ ?_
 ·refine A 18 ?_;exact xL (s:=(m++([o]:List Int),i64.wrap (o+1))) (_,_) hX
 ·refine Ab 8 λb aa=>?_
  refine A 11 ?_;refine lP (E:=λ(s:(List Int)×Int) (g:Nat×Nat)=>[(1,.sl (a.map (eL Mk))),(5,.osl 5 g.1 0 s.1.length),(7,.osl 7 g.2 0 b.length),(8,Av s.2)]) (O:=λs g=>[(5,dW g.1 1 3 (s.1.map Mk)),(7,dW g.2 2 190 (b.map Uk))]) (body:=λs=>AaQ b a s.1 s.2) (s:=(m,0)) (_,_) hX<|?_
  rintro⟨f,e⟩ ⟨ab,ac⟩ nn
  try dsimp only
  unfold AaQ;refine Ac 9 ?_ ?_
  ·refine A 2 ?_;refine bC (E:=λ(s:(List Int)) (g:Nat×Nat)=>[(1,.sl (a.map (eL Mk))),(5,.osl 5 g.1 0 s.length),(7,.osl 7 g.2 0 b.length),(8,Av e)]) (O:=λs g=>[(5,dW g.1 1 3 (s.map Mk)),(7,dW g.2 2 190 (b.map Uk))]) (j:=λs=>Rx e s) ?_ ?_
   ·refine A 6 ?_;refine Qw r r r (by decide)<|bD λad ae=>?_
    refine Ab 2 λd af=>?_
    refine A 5 ?_;refine Qw r r r (by decide)<|bD λag ah=>?_
    refine Ab 2 λc ai=>?_
    refine A 5 ?_;refine sC (E:=λ(s:Bool×Bool) (g:Nat×Nat)=>[(1,.sl (a.map (eL Mk))),(5,.osl 5 g.1 0 f.length),(7,.osl 7 g.2 0 b.length),(8,Av e),(9,Av d),(10,Av c),(51,.sl (a.map (eL Mk))),(52,.osl 5 g.1 0 f.length),(53,Av d),(54,Av c),(55,.bool s.1),(56,.bool s.2)]) (O:=λ_ g=>[(5,dW g.1 1 3 (f.map Mk)),(7,dW g.2 2 190 (b.map Uk))]) (j:=λs=>XR d c e f s.1 s.2) ?_ ?_
    ·refine A 6 ?_;refine Tz r ?_ ?_
     ·refine A 12 ?_;exact GA (s:=f) (_,_) hX
     ·refine Ab 4 λp aj=>?_
      refine Ac 5 ?_ ?_
      ·refine A 2 ?_;exact GA (s:=f) (_,_) hX
      ·refine A 1 ?_;exact xC (s:=(p,(!p))) (_,_) hX
    ·rintro⟨q,t⟩ ⟨ak,ao⟩ nn
     try dsimp only
     unfold XR;refine A 6 ?_;refine lP (E:=λ(s:(List Int)×Int) (g:Nat×Nat)=>[(1,.sl (a.map (eL Mk))),(5,.osl 5 g.1 0 s.1.length),(7,.osl 7 g.2 0 b.length),(8,Av e),(9,Av d),(10,Av c),(11,Av s.2),(51,.sl (a.map (eL Mk))),(52,.osl 5 g.1 0 s.1.length),(53,Av d),(54,Av c),(55,.bool q),(56,.bool t)]) (O:=λs g=>[(5,dW g.1 1 3 (s.1.map Mk)),(7,dW g.2 2 190 (b.map Uk))]) (body:=λs=>AaR d c e s.1 s.2) (s:=(f,0)) (_,_) hX<|?_
     rintro⟨h,i⟩ ⟨ap,aq⟩ nn
     try dsimp only
     unfold AaR;refine Ac 9 ?_ ?_
     ·refine A 4 ?_;refine sC (E:=λ(s:Bool) (g:Nat×Nat)=>[(1,.sl (a.map (eL Mk))),(5,.osl 5 g.1 0 h.length),(7,.osl 7 g.2 0 b.length),(8,Av e),(9,Av d),(10,Av c),(11,Av i),(51,.sl (a.map (eL Mk))),(52,.osl 5 g.1 0 h.length),(53,Av d),(54,Av c),(55,.bool q),(56,.bool t),(77,.bool s)]) (O:=λ_ g=>[(5,dW g.1 1 3 (h.map Mk)),(7,dW g.2 2 190 (b.map Uk))]) (j:=λs=>TJ i h d c s) ?_ ?_
      ·refine Ab 4 λar au=>?_
       refine A 4 ?_;refine Tz r ?_ ?_
       ·refine A 8 ?_;exact xC (s:=true) (_,_) hX
       ·refine Ab 3 λu av=>?_
        refine A 5 ?_;exact xC (s:=(u==c)) (_,_) hX
      ·rintro aw ⟨ax,ay⟩ nn
       try dsimp only
       unfold TJ;refine cD r ?_ ?_
       ·exact zB
       ·refine A 8 ?_;exact xL (s:=(h,i64.wrap (i+1))) (_,_) hX
     ·refine A 4 ?_;exact Ago (s:=h) (_,_) hX
   ·rintro v ⟨az,ba⟩ nn
    try dsimp only
    unfold Rx;refine A 5 ?_;exact xL (s:=(v,i64.wrap (e+1))) (_,_) hX
  ·exact B

end Go.Proofs.YtcaoepecbgggcaaGreatDoor
