/-
 The code does what its typed programs say.
-/
import Derived.Test.YtcaoepecbgggcaaGreatDoorDxF25
import Derived.Test.YtcaoepecbgggcaaGreatDoorDxF26
namespace Go.Proofs.YtcaoepecbgggcaaGreatDoor
open Go Go.Dw Go.Proofs
open Go.IntKind (i64)
set_option maxRecDepth 100000
set_option maxHeartbeats 40000000
open Go.Dw renaming ON -> bD,Ts -> bS,PL -> cD,QZ -> xC,Pn -> xL,Qb -> lP,PI -> sC,rf -> r
noncomputable def Aox:Dw.Spec:=NO [] .val UO UN (λa=>AcC a) Aag noE
theorem Anv:NK Tryz.prog 20 Aox:=by
 refine fn2 1 (nK 17 Aha<|NG) Tryz.func20<|?_;intro a;unfold AcC;exact B

def AcK (_a:Unit):List D:=[]
def AcJ (_ds:List D):Unit:=()
theorem AoG (a:Unit):AcJ (AcK a)=a:=rfl
instance:Od AcK AcJ:=⟨AoG⟩
noncomputable def ApQ:Dw.Spec:=NO [] .ground AcK AcJ (λ_a=>Abg) NX noE
theorem AoH:NK Tryz.prog 9 ApQ:=by
 refine fn2 0 (nK 20 Anv<|NG) Tryz.func9<|?_;intro _;unfold Abg;refine A 8 ?_;refine bS ([(Mk.mk 23 0 0 0 0)]:List Mk) NY r r r (by simp) r r r<|?_
 refine A 1 ?_;refine bS ([(Lo.mk 0 ([]) ([(Mk.mk 23 0 0 0 0)]:List Mk))]:List Lo) NR r r r (by simp) r (by simp[Zm,NR]<;>first|rfl|(rw[List.take_of_length_le (by simp)])) r<|?_
 exact B

def Adg (b:Oh):D:=Oq b
noncomputable def Aoc:Dw.Spec:=NO [] .val Tx Tw (λa=>YL a.1 a.2) Adg noE
theorem Anb:NK Tryz.prog 74 Aoc:=by
 refine fn2 2 (nK 133 AoS<|nK 134 AoW<|nK 135 AmX<|nK 136 Aqz<|nK 33 AiJ<|nK 137 AnT<|nK 82 Afi<|nK 138 AnZ<|nK 35 AjM<|nK 32 Aix<|nK 139 Aob<|NG) Tryz.func74<|?_;rintro⟨g,h⟩;unfold YL;refine Ab 11 λi j=>?_
 refine Ab 9 λa k=>?_
 refine Ab 11 λl m=>?_
 refine Ab 12 λc o=>?_
 refine Ab 14 λd p=>?_
 refine Ab 11 λq s=>?_
 refine Ab 12 λe t=>?_
 refine Ab 10 λu v=>?_
 refine Ab 15 λx z=>?_
 refine Ab 1 λaa ab=>?_
 refine Ac 15 ?_ ?_
 ·refine A 8 ?_;refine Aaz (b:=(Oh.mk a (NV.mk c d) e (NT.mk 0 0 ([])))) r ?_ r r ?_ (by first|rfl|(simp only[NN];rfl)|(simp only[NQ];rfl)|(simp only[NN,NQ];rfl)|(simp[Adg,Oq];try rfl))
  all_goals first|(simp;done)|(simp;omega)|rfl|(simp[Pd,OU];done)|(simp[cells];done)
 ·refine Ab 7 λac ad=>?_
  refine Ab 3 λae af=>?_
  refine Ab 2 λf ag=>?_
  refine A 15 ?_;refine Aaz (b:=(Oh.mk a (NV.mk c d) e f.1)) r ?_ r r ?_ (by first|rfl|(simp only[NN];rfl)|(simp only[NQ];rfl)|(simp only[NN,NQ];rfl)|(simp[Adg,Oq];try rfl))
  all_goals first|(simp;done)|(simp;omega)|rfl|(simp[Pd,OU];done)|(simp[cells];done)

def Atd (b:(List Oh)):D:=.sl (b.map Oq)
noncomputable def Ate:Dw.Spec:=NO [] (.row 7 50) UO UN (λa=>Acj a) Atd noE
theorem ArY:NK Tryz.prog 31 Ate:=by
 refine fn2 1 (nK 74 Anb<|NG) Tryz.func31<|?_;intro a;unfold Acj;refine A 18 ?_;refine lP (E:=λ(s:(List Oh)×Int) (g:Nat×Nat)=>[(1,.optr 1 g.1 0 0),(3,.osl 3 g.2 0 s.1.length),(4,Av s.2)]) (O:=λs g=>[(1,dV g.1 1 28 (.agg [.sl (a.Funcs.map NR)])),(3,dW g.2 7 50 (s.1.map Oq))]) (_,_) hX<|?_
 rintro⟨c,d⟩ ⟨e,f⟩ nn;dsimp only[Agu];refine Ac 10 ?_ ?_
 ·refine Ab 8 λb h=>?_
  refine A 1 ?_;refine bS ([b]:List Oh) Oq r r r (by simp) r r r<|?_
  exact B
 ·exact B

def QT (a:(List Int)):List D:=[.sl (a.map eU8)]
def QS (ds:List D):(List Int):=(uL uI) (ds.getD 0 .top)
theorem VD (a:(List Int)):QS (QT a)=a:=by simp[QS,QT,OE (u:=uI) (en:=eU8) (λ_=>rfl)]
instance:Od QT QS:=⟨VD⟩
noncomputable def Acn:Dw.Spec:=NO [] .ground QT QS (λa=>RC a) NX noE
theorem AbG:NK Tryz.prog 7 Acn:=by
 refine fn2 1 (nK 9 AoH<|nK 29 AsI<|nK 30 Aig<|nK 31 ArY<|nK 32 Aix<|nK 17 Aha<|nK 33 AiJ<|nK 34 Ame<|nK 35 AjM<|NG) Tryz.func7<|?_;intro i;unfold RC;refine Ab 8 λk l=>?_
 refine Ac 4 ?_ ?_
 ·exact B
 ·refine Ab 5 λm o=>?_
  refine Ab 1 λc p=>?_
  refine Ab 8 λa q=>?_
  refine Ab 7 λd r=>?_
  refine Ab 8 λb t=>?_
  refine A 9 ?_;refine sC (E:=λ(_s:Unit) (g:Nat×Nat×Nat)=>[(3,.optr 3 g.1 0 0),(4,.osl 4 g.2.1 0 a.length),(5,Av d),(6,.optr 6 g.2.2 0 0)]) (O:=λ_ g=>[(3,dV g.1 1 28 (.agg [.sl (c.1.Funcs.map NR)])),(4,some (g.2.1,⟨true,false,7,50,a.map Oq⟩)),(6,dV g.2.2 5 60 (AeC b.1))]) (j:=λ_=>Rf a c d b) ?_ ?_
  ·exact B
  ·rintro⟨⟩ ⟨u,v,x⟩ nn;dsimp only[Rf];refine A 7 ?_;refine lP (E:=λ(s:Int) (g:Nat×Nat×Nat)=>[(3,.optr 3 g.1 0 0),(4,.osl 4 g.2.1 0 a.length),(5,Av d),(6,.optr 6 g.2.2 0 0),(8,Av s)]) (O:=λ_ g=>[(3,dV g.1 1 28 (.agg [.sl (c.1.Funcs.map NR)])),(4,some (g.2.1,⟨true,false,7,50,a.map Oq⟩)),(6,dV g.2.2 5 60 (AeC b.1))]) (_,_,_) hX<|?_
   rintro h ⟨z,aa,ab⟩ nn;dsimp only[Re];refine Ac 9 ?_ ?_
   ·refine Ab 9 λac ad=>?_
    refine Ab 6 λae af=>?_
    refine Ab 1 λag ah=>?_
    refine Ab 14 λe ai=>?_
    refine Ab 14 λaj ak=>?_
    refine Ab 3 λf ao=>?_
    refine A 9 ?_;refine sC (E:=λ(_s:Unit) (g:Nat×Nat×Nat×Nat×Nat)=>[(3,.optr 3 g.1 0 0),(4,.osl 4 g.2.1 0 a.length),(5,Av d),(6,.optr 6 g.2.2.1 0 0),(8,Av h),(11,.optr 11 g.2.2.2.1 0 0),(13,.optr 13 g.2.2.2.2 0 0),(81,Av e.2),(82,.bool (e.2 != 0)),(85,Av f.2),(86,.bool (f.2 != 0))]) (O:=λ_ g=>[(3,dV g.1 1 28 (.agg [.sl (c.1.Funcs.map NR)])),(4,some (g.2.1,⟨true,false,7,50,a.map Oq⟩)),(6,dV g.2.2.1 5 60 (AeC b.1)),(11,dV g.2.2.2.1 3 39 (PK e.1)),(13,dV g.2.2.2.2 3 39 (PK f.1))]) (j:=λ_=>Rg h a b e f) ?_ ?_
    ·exact B
    ·rintro⟨⟩ ⟨ap,aq,ar,au,av⟩ nn;dsimp only[Rg];refine Ab 7 λaw ax=>?_
     refine Ab 16 λay az=>?_
     refine Ac 6 ?_ ?_
     ·exact B
     ·refine A 8 ?_;exact xL (s:=i64.wrap (h+1)) (_,_,_) hX
   ·exact B

end Go.Proofs.YtcaoepecbgggcaaGreatDoor
