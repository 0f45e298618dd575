/-
 The code does what its typed programs say.
-/
import Derived.Test.YtcaoepecbgggcaaGreatDoorProg
import Derived.Test.YtcaoepecbgggcaaGreatDoorDc
import Derived.KernelRfl
import Derived.Test.YtcaoepecbgggcaaGreatDoorDxP
import Derived.Test.YtcaoepecbgggcaaGreatDoorDxF1
import Derived.Test.YtcaoepecbgggcaaGreatDoorDxF5
import Derived.Test.YtcaoepecbgggcaaGreatDoorDxF6
import Derived.Test.YtcaoepecbgggcaaGreatDoorDxF9
import Derived.Test.YtcaoepecbgggcaaGreatDoorDxF11
import Derived.Test.YtcaoepecbgggcaaGreatDoorDxF12
open List renaming replicate->aA
namespace Go.Proofs.YtcaoepecbgggcaaGreatDoor
open Go Go.Dw Go.Proofs
open Go.IntKind (i64)
set_option maxRecDepth 100000
set_option maxHeartbeats 40000000
open Go.Dw renaming OQ -> bD,PQ -> cK,AfA -> cV,Yt -> sE,PX -> cD,PH -> xL,AdJ -> hE,Qm -> lP,Rf -> bC,Abo -> mF,rf -> r
def WV (b:Int×Int×Bool):D:=.tup [Av b.1,Av b.2.1,.bool b.2.2]
noncomputable def Akq:Dw.Spec:=NN [] .ground Ph Pg (λa=>YF a.1 a.2) WV noE
theorem AjC:NL Tryz.prog 154 Akq:=by
 refine fn2 2 (nK 153 Acu<|nK 214 Akr<|nK 3624939733 Za<|NG) Tryz.func154<|?_;rintro⟨a,b⟩;unfold YF;refine A 8 ?_;refine Qh (E:=[(2,.optr 2 _ 0 0),(3,.fptr (.agg [.sl (b.Out.map (eL Mk))]) 0)]) (O:=[(2,dV _ 3 36 (NQ a))]) ((hV 3 r (hY))) λnn=>?_
 refine Ab 5 λf h=>?_
 refine Ac 4 ?_ ?_
 ·exact B
 ·refine A 12 ?_;refine lP (E:=λ(s:Int) (g:Nat)=>[(2,.optr 2 g 0 0),(3,.fptr (.agg [.sl (b.Out.map (eL Mk))]) 0),(15,Av (a.Code.length:Int)),(16,Av s)]) (O:=λ_ g=>[(2,dV g 3 36 (NQ a))]) _ hX<|?_
  rintro c i nn;dsimp only[AdN];refine Ac 6 ?_ ?_
  ·refine A 10 ?_;refine Qh (E:=[(2,.optr 2 _ 0 0),(3,.fptr (.agg [.sl (b.Out.map (eL Mk))]) 0),(7,.fptr (Av c) 0),(15,Av (a.Code.length:Int)),(16,Av c)]) (O:=[(2,dV _ 3 36 (NQ a))]) ((hV 7 r (hY))) λnn=>?_
   refine Ab 10 λd j=>?_
   refine A 1 ?_;refine mF (caps:=[.optr 8 _ 0 0,.fptr (.agg [.sl (b.Out.map (eL Mk))]) 0,.fptr (Av c) 0]) r r (by simp[SB])<|bD λk e=>cV (a,c,d,[],b,c) rfl rfl (show _=some Un from by kernel_rfl) Od.ok rfl rfl (by simp) (by first|rfl|(simp only[NP];rfl)|(simp only[NR];rfl)|(simp only[NP,NR];rfl)|simp[Qi,NQ,SQ,SQ]) e<|?_
   exact B
  ·exact B

def Afj (b:Oa):D:=SQ b
noncomputable def Aql:Dw.Spec:=NN [] .val Ph Pg (λa=>AbS a.1 a.2) Afj noE
theorem AoG:NL Tryz.prog 195 Aql:=by
 refine fn2 2 (nK 248 Aiz<|nK 249 AkF<|nK 124 ZA<|NG) Tryz.func195<|?_;rintro⟨a,c⟩;unfold AbS;refine A 12 ?_;refine cK λhq=>AgL (α:=Int) r r r hq r<|?_
 refine A 4 ?_;refine Qh (E:=[(2,.optr 2 _ 0 0),(3,.optr 3 _ 0 0),(4,.optr 4 _ 0 0),(5,.optr 5 _ 0 0)]) (O:=[(2,dV _ 3 36 (NQ a)),(3,dV _ 1 45 (.agg [.sl (c.Out.map (eL Mk))])),(4,dV _ 1 45 (.agg [.nils])),(5,dV _ 1 45 (.agg [.osl 13 _ 0 ((aA (a.Code.length:Int).toNat ([]:(List Int))).length)])),(13,dW _ 1 37 ((aA (a.Code.length:Int).toNat ([]:(List Int))).map (eL Mk)))]) ((Ajx (g:=13) r (Alh (l:=aA (a.Code.length:Int).toNat ([]:(List Int))) Mk (λ_ h=>List.eq_of_mem_replicate h)) hX)) λnn=>?_
 refine A 7 ?_;refine lP (E:=λ(s:(List (List Int))×Int) (g:Nat×Nat×Nat×Nat×Nat)=>[(2,.optr 2 g.1 0 0),(3,.optr 3 g.2.1 0 0),(4,.optr 4 g.2.2.1 0 0),(5,.optr 5 g.2.2.2.1 0 0),(6,Av s.2)]) (O:=λs g=>[(2,dV g.1 3 36 (NQ a)),(3,dV g.2.1 1 45 (.agg [.sl (c.Out.map (eL Mk))])),(4,dV g.2.2.1 1 45 (.agg [.nils])),(5,dV g.2.2.2.1 1 45 (.agg [.osl 13 g.2.2.2.2 0 s.1.length])),(13,dW g.2.2.2.2 1 37 (s.1.map (eL Mk)))]) (_,_,_,_,_) hX<|?_
 rintro⟨i,k4⟩ ⟨o,p,q,t,u⟩ nn;dsimp only[Ye];refine Ac 10 ?_ ?_
 ·refine A 2 ?_;refine bC (E:=λ(_s:(List (List Int))) (g:Nat×Nat×Nat×Nat×Nat)=>[(2,.optr 2 g.1 0 0),(3,.optr 3 g.2.1 0 0),(4,.optr 4 g.2.2.1 0 0),(5,.optr 5 g.2.2.2.1 0 0),(6,Av k4)]) (O:=λs g=>[(2,dV g.1 3 36 (NQ a)),(3,dV g.2.1 1 45 (.agg [.sl (c.Out.map (eL Mk))])),(4,dV g.2.2.1 1 45 (.agg [.nils])),(5,dV g.2.2.2.1 1 45 (.agg [.osl 13 g.2.2.2.2 0 s.length])),(13,dW g.2.2.2.2 1 37 (s.map (eL Mk)))]) (j:=λs=>AaC k4 s) ?_ ?_
  ·refine Ab 4 λe v=>?_
   refine A 10 ?_;refine lP (E:=λ(s:(List (List Int))×Int) (g:Nat×Nat×Nat×Nat×Nat×Nat)=>[(2,.optr 2 g.1 0 0),(3,.optr 3 g.2.1 0 0),(4,.optr 4 g.2.2.1 0 0),(5,.optr 5 g.2.2.2.1 0 0),(6,Av k4),(7,.osl 7 g.2.2.2.2.1 0 e.length),(8,Av s.2)]) (O:=λs g=>[(2,dV g.1 3 36 (NQ a)),(3,dV g.2.1 1 45 (.agg [.sl (c.Out.map (eL Mk))])),(4,dV g.2.2.1 1 45 (.agg [.nils])),(5,dV g.2.2.2.1 1 45 (.agg [.osl 13 g.2.2.2.2.2 0 s.1.length])),(7,dW g.2.2.2.2.1 1 3 (e.map Mk)),(13,dW g.2.2.2.2.2 1 37 (s.1.map (eL Mk)))]) (_,_,_,_,_,_) hX<|?_
   rintro⟨d,k⟩ ⟨x,z,aa,ab,ac,ad⟩ nn;dsimp only[Yf];refine Ac 9 ?_ ?_
   ·refine Ab 9 λae af=>?_
    refine Ab 12 λag ah=>?_
    refine Ab 4 λai aj=>?_
    refine Ab 5 λak ao=>?_
    refine Ab 2 λap aq=>?_
    refine Ab 1 λf ar=>?_
    refine A 2 ?_;refine bD λau m=>sE (l:=d) (en:=(eL Mk)) (q':=f) r r r r r r r (by simp) m r r r (by simp[PS,cells,eL]) r<|?_
    refine A 8 ?_;exact xL (s:=(d.set k4.toNat f,i64.wrap (k+1))) (_,_,_,_,_,_) ((hE ⟨rfl,r,r,r,r,r,r,trivial⟩ ⟨rfl,r,r,(Eq.trans (b:=dV _ 1 45 (.agg [.osl 13 _ 0 d.length])) r (by simp)),r,r,trivial⟩))
   ·exact B
  ·rintro x5 ⟨aw,ax,ay,az,ba⟩ nn;dsimp only[AaC];exact B
 ·refine A 12 ?_;refine Abm (b:=(Oa.mk i)) r ?_ r r ?_ (by first|rfl|(simp only[NP];rfl)|(simp only[NR];rfl)|(simp only[NP,NR];rfl)|(simp[Afj,SQ];try rfl))
  all_goals first|(simp;done)|(simp;omega)|rfl|(simp[Pn,Pc];done)|(simp[cells];done)

def WY (a:Lo×Oa×Int):List D:=[NQ a.1,SQ a.2.1,Av a.2.2]
def WX (ds:List D):Lo×Oa×Int:=(RX (ds.getD 0 .top),VC (ds.getD 1 .top),uI (ds.getD 2 .top))
instance:Od WY WX:=⟨λa=>by simp[WX,WY,uI]⟩
noncomputable def Ami:Dw.Spec:=NN [] (.row 1 3) WY WX (λa=>Yg a.1 a.2.1 a.2.2) OC noE
theorem Alo:NL Tryz.prog 225 Ami:=by
 refine fn2 3 (nK 248 Aiz<|nK 249 AkF<|nK 183 Anh<|nK 124 ZA<|NG) Tryz.func225<|?_;rintro⟨b,c,k3⟩;unfold Yg;refine Ab 16 λa d=>?_
 refine A 11 ?_;refine lP (E:=λ(s:(List Int)×Int) (g:Nat×Nat×Nat×Nat)=>[(2,Av k3),(3,.optr 3 g.1 0 0),(4,.optr 4 g.2.1 0 0),(7,.osl 7 g.2.2.1 0 s.1.length),(8,.osl 8 g.2.2.2 0 a.length),(9,Av s.2)]) (O:=λs g=>[(3,dV g.1 3 36 (NQ b)),(4,dV g.2.1 1 45 (.agg [.sl (c.Out.map (eL Mk))])),(7,dW g.2.2.1 1 3 (s.1.map Mk)),(8,dW g.2.2.2 1 3 (a.map Mk))]) (_,_,_,_) hX<|?_
 rintro⟨e,f⟩ ⟨h,i,j,k⟩ nn;dsimp only[Vv];exact B

noncomputable def Aqo:Dw.Spec:=NN [] .ground WY WX (λa=>Aca a.1 a.2.1 a.2.2) NX noE
theorem AoS:NL Tryz.prog 200 Aqo:=by
 refine fn2 3 (nK 143 XQ<|nK 116 Zh<|NG) Tryz.func200<|?_;intro a;unfold Aca;exact B

def Adc (a:Lo×Oa×(List Int)):List D:=[NQ a.1,SQ a.2.1,.sl (a.2.2.map Mk)]
def Adb (ds:List D):Lo×Oa×(List Int):=(RX (ds.getD 0 .top),VC (ds.getD 1 .top),(uL uI) (ds.getD 2 .top))
instance:Od Adc Adb:=⟨λa=>by simp[Adb,Adc,OG (u:=uI) (en:=Mk) (λ_=>rfl)]⟩
def Aqm (b:(List Bool)):D:=.sl (b.map D.bool)
noncomputable def Aqn:Dw.Spec:=NN [] (.row 1 4) Adc Adb (λa=>AbZ a.1 a.2.1 a.2.2) Aqm noE
theorem AoR:NL Tryz.prog 136 Aqn:=by
 refine fn2 3 (nK 200 AoS<|NG) Tryz.func136<|?_;rintro⟨a,b,c⟩;unfold AbZ;refine A 19 ?_;refine lP (E:=λ(s:(List Bool)×Int) (g:Nat×Nat×Nat)=>[(2,.sl (c.map Mk)),(3,.optr 3 g.1 0 0),(4,.optr 4 g.2.1 0 0),(7,.osl 7 g.2.2 0 s.1.length),(8,Av s.2)]) (O:=λs g=>[(3,dV g.1 3 36 (NQ a)),(4,dV g.2.1 1 45 (.agg [.sl (b.Out.map (eL Mk))])),(7,dW g.2.2 1 4 (s.1.map D.bool))]) (_,_,_) hX<|?_
 rintro⟨d,k5⟩ ⟨e,f,h⟩ nn;dsimp only[AiB];exact B

end Go.Proofs.YtcaoepecbgggcaaGreatDoor
