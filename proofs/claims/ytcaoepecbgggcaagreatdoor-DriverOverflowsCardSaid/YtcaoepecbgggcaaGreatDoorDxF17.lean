/-
 The code does what its typed programs say.
-/
import Derived.Test.YtcaoepecbgggcaaGreatDoorProg
import Derived.Test.YtcaoepecbgggcaaGreatDoorDc
import Derived.KernelRfl
import Derived.Test.YtcaoepecbgggcaaGreatDoorDxP
import Derived.Test.YtcaoepecbgggcaaGreatDoorDxF1
import Derived.Test.YtcaoepecbgggcaaGreatDoorDxF2
import Derived.Test.YtcaoepecbgggcaaGreatDoorDxF3
import Derived.Test.YtcaoepecbgggcaaGreatDoorDxF4
import Derived.Test.YtcaoepecbgggcaaGreatDoorDxF5
import Derived.Test.YtcaoepecbgggcaaGreatDoorDxF6
import Derived.Test.YtcaoepecbgggcaaGreatDoorDxF7
import Derived.Test.YtcaoepecbgggcaaGreatDoorDxF8
namespace Go.Proofs.YtcaoepecbgggcaaGreatDoor
open Go Go.Dw Go.Proofs
open Go.IntKind (i64)
set_option maxRecDepth 100000
set_option maxHeartbeats 40000000
open Go.Dw renaming OQ -> bD,PQ -> cK,Akc -> aP,PX -> cD,RJ -> xC,PH -> xL,Qm -> lP,Qd -> sC,Rf -> bC,rf -> r
noncomputable section
def Tl (a:NM×Int):List D:=[Rk a.1,Av a.2]
def Tk (ds:List D):NM×Int:=(Th (ds.getD 0 .top),uI (ds.getD 1 .top))
instance:Od Tl Tk:=⟨λa=>by simp[Tk,Tl,uI]⟩
def Amx:Dw.Spec:=NN [] .ground Tl Tk (λa=>Yl a.1 a.2) NK noE
theorem Alw:NL Tryz.prog 169 Amx:=by
 refine fn2 2 (nK 228 AiE<|nK 148 Agd<|nK 229 AqB<|nK 230 Aah<|NG) Tryz.func169<|?_;rintro⟨b,c⟩;unfold Yl;refine Ab 13 λd e=>?_
 refine Ac 4 ?_ ?_
 ·exact B
 ·refine Ab 7 λa f=>?_
  refine Ac 15 ?_ ?_
  ·exact B
  ·refine Ab 7 λh i=>?_
   refine Ac 10 ?_ ?_
   ·exact B
   ·refine Ab 7 λj k=>?_
    refine Ac 4 ?_ ?_
    ·exact B
    ·refine A 12 ?_;refine lP (E:=λ(s:Int) (g:Nat×Nat)=>[(2,.optr 2 g.1 0 0),(5,.optr 5 g.2 0 0),(37,.sl (a.Code.map Ob)),(38,Av (a.Code.length:Int)),(39,Av s)]) (O:=λ_ g=>[(2,dV g.1 1 28 (.agg [.sl (b.Funcs.map NQ)])),(5,dV g.2 3 36 (NQ a))]) (_,_) hX<|?_
     rintro l ⟨m,o⟩ nn;dsimp only[XU];exact B

def Uy (a:NM):List D:=[Rk a]
def Ux (ds:List D):NM:=Th (ds.getD 0 .top)
instance:Od Uy Ux:=⟨λa=>by simp[Ux,Uy]⟩
def AkG:Dw.Spec:=NN [] .ground Uy Ux (λa=>Abn a) NK noE
theorem AqA:NL Tryz.prog 108 AkG:=by
 refine fn2 1 (nK 169 Alw<|NG) Tryz.func108<|?_;intro a;unfold Abn;refine Ac 23 ?_ ?_
 ·exact B
 ·refine Ac 7 ?_ ?_
  ·exact B
  ·refine Ab 4 λb c=>?_
   refine Ac 7 ?_ ?_
   ·exact B
   ·refine A 13 ?_;refine lP (E:=λ(s:Int) (g:Nat)=>[(1,.optr 1 g 0 0),(24,Av (a.Funcs.length:Int)),(25,Av s)]) (O:=λ_ g=>[(1,dV g 1 28 (.agg [.sl (a.Funcs.map NQ)]))]) _ hX<|?_
    rintro d e nn;dsimp only[Acl];exact B

def AgI:Dw.Spec:=NN [] .ground Uy Ux (λa=>QQ a) NK noE
theorem Afw:NL Tryz.prog 38 AgI:=by
 refine fn2 1 (nK 87 AlO<|NG) Tryz.func38<|?_;intro a;unfold QQ;refine A 21 ?_;refine lP (E:=λ(s:Int×Int) (_g:Unit)=>[(3,Av s.1),(7,.sl (a.Funcs.map NQ)),(8,Av (a.Funcs.length:Int)),(9,Av s.2)]) (O:=λ_ _=>[]) () hX<|?_
 rintro⟨b,c⟩ ⟨⟩ nn;dsimp only[Afv];exact B

def Arl:Dw.Spec:=NN [] .ground Tl Tk (λa=>Zf a.1 a.2) NK noE
theorem AjO:NL Tryz.prog 88 Arl:=by
 refine fn2 2 (NG) Tryz.func88<|?_;rintro⟨b,c⟩;unfold Zf;refine Ab 17 λa d=>?_
 refine A 8 ?_;refine lP (E:=λ(s:Int×Int) (g:Nat)=>[(2,.optr 2 g 0 0),(5,Av s.2),(13,.sl (a.Code.map Ob)),(14,Av (a.Code.length:Int)),(15,Av s.1)]) (O:=λ_ g=>[(2,dV g 1 28 (.agg [.sl (b.Funcs.map NQ)]))]) _ hX<|?_
 rintro⟨e,f⟩ h nn;dsimp only[AjN];exact B

def ZY (a:NM×Int×Int):List D:=[Rk a.1,Av a.2.1,Av a.2.2]
def ZX (ds:List D):NM×Int×Int:=(Th (ds.getD 0 .top),uI (ds.getD 1 .top),uI (ds.getD 2 .top))
instance:Od ZY ZX:=⟨λa=>by simp[ZX,ZY,uI]⟩
def Agi:Dw.Spec:=NN [] .val ZY ZX (λa=>Tn a.1 a.2.1 a.2.2) Sd noE
theorem AaP:NL Tryz.prog 39 Agi:=by
 refine fn2 3 (nK 88 AjO<|nK 89 Ajt<|nK 90 Aeb<|nK 91 Aor<|NG) Tryz.func39<|?_;rintro⟨k,l,f⟩;unfold Tn;refine Ab 11 λh m=>?_
 refine Ab 19 λa o=>?_
 refine A 8 ?_;refine lP (E:=λ(s:(List Int)×Int×Int) (g:Nat×Nat×Nat×Nat)=>[(2,Av f),(6,.optr 6 g.1 0 0),(8,.optr 8 g.2.1 0 0),(9,Av s.2.2),(25,.sl (a.Slots.map OR)),(26,Av (a.Slots.length:Int)),(27,Av s.2.1)]) (O:=λs g=>[(6,dV g.1 3 39 (.agg [Av 0,Av 0,.osl 900 g.2.2.1 0 (([]:List Int).length)])),(8,dV g.2.1 3 39 (.agg [Av h,Av 0,.osl 901 g.2.2.2 0 s.1.length])),(900,dW g.2.2.1 1 3 (([]:List Int).map Mk)),(901,dW g.2.2.2 1 3 (s.1.map Mk))]) (_,_,_,_) ((AcF (gg:=6) (off:=2) (tt:=900) (s:=1) (tyy:=3) r r r r (AcF (gg:=8) (off:=2) (tt:=901) (s:=1) (tyy:=3) r r r r hX)))<|?_
 rintro⟨c,e,p⟩ ⟨q,t,u,v⟩ nn;dsimp only[Afe];refine Ac 6 ?_ ?_
 ·refine Ab 6 λx z=>?_
  refine Ab 11 λd aa=>?_
  refine A 8 ?_;refine sC (E:=λ(s:Int×Int) (g:Nat×Nat×Nat×Nat)=>[(2,Av f),(6,.optr 6 g.1 0 0),(8,.optr 8 g.2.1 0 0),(9,Av s.2),(12,Av d.1),(13,Av s.1),(25,.sl (a.Slots.map OR)),(26,Av (a.Slots.length:Int)),(27,Av e)]) (O:=λ_ g=>[(6,dV g.1 3 39 (.agg [Av 0,Av 0,.osl 900 g.2.2.1 0 (([]:List Int).length)])),(8,dV g.2.1 3 39 (.agg [Av h,Av 0,.osl 901 g.2.2.2 0 c.length])),(900,dW g.2.2.1 1 3 (([]:List Int).map Mk)),(901,dW g.2.2.2 1 3 (c.map Mk))]) (j:=λs=>XP c d e s.1 s.2) ?_ ?_
  ·exact B
  ·rintro⟨ab,i⟩ ⟨ac,ad,ae,af⟩ nn;dsimp only[XP];refine Ac 7 ?_ ?_
   ·refine A 14 ?_;refine Qt (b:=((NV.mk 0 0 ([])),9)) r ?_ r r ?_ (by first|rfl|(simp only[NP];rfl)|(simp only[NR];rfl)|(simp only[NP,NR];rfl)|(simp[Sd,QH];try rfl)) (by decide)
    all_goals first|(simp;done)|(simp;omega)|rfl|(simp[Pn,Pc];done)|(simp[cells];done)
   ·refine A 17 ?_;exact xL (s:=(c++([d.1]:List Int),i64.wrap (e+1),i)) (_,_,_,_) ((AaL (E1:=[(2,Av f),(6,.optr 6 _ 0 0),(8,.optr 8 _ 0 0),(9,Av i),(25,.sl (a.Slots.map OR)),(26,Av (a.Slots.length:Int)),(27,Av (i64.wrap (e+1)))]) (O1:=[(6,dV _ 3 39 (.agg [Av 0,Av 0,.osl 900 _ 0 (([]:List Int).length)])),(8,dV _ 3 39 (.agg [Av h,Av 0,.osl 54 _ 0 ((c++([d.1]:List Int)).length)])),(54,dW _ 1 3 ((c++([d.1]:List Int)).map Mk)),(900,dW _ 1 3 (([]:List Int).map Mk))]) hX (λ_=>Qb (λg=>bif Nat.beq g 54 then 901 else g) (by kernel_rfl) hX)))
 ·exact B

def Aml:Dw.Spec:=NN [] (.row 1 3) QG QF (λa=>VV a.1 a.2) OC noE
theorem Afm:NL Tryz.prog 78 Aml:=by
 refine fn2 2 (NG) Tryz.func78<|?_;rintro⟨a,b⟩;unfold VV;refine A 17 ?_;refine lP (E:=λ(s:(List Int)×Int) (g:Nat)=>[(0,.sl (a.map Mk)),(1,Av b),(5,.osl 5 g 0 s.1.length),(6,Av s.2)]) (O:=λs g=>[(5,dW g 1 3 (s.1.map Mk))]) _ hX<|?_
 rintro⟨c,d⟩ e nn;dsimp only[Afl];exact B

def AbY (a:(List (List Int))×(List Int)×Int×Int):List D:=[.sl (a.1.map (eL Mk)),.sl (a.2.1.map Mk),Av a.2.2.1,Av a.2.2.2]
def AbX (ds:List D):(List (List Int))×(List Int)×Int×Int:=((uL (uL uI)) (ds.getD 0 .top),(uL uI) (ds.getD 1 .top),uI (ds.getD 2 .top),uI (ds.getD 3 .top))
instance:Od AbY AbX:=⟨λa=>by simp[AbX,AbY,uI,OG (u:=(uL uI)) (en:=(eL Mk)) (OG (u:=uI) (en:=Mk) (λ_=>rfl)),OG (u:=uI) (en:=Mk) (λ_=>rfl)]⟩
def AoQ:Dw.Spec:=NN [] .ground AbY AbX (λa=>Adt a.1 a.2.1 a.2.2.1 a.2.2.2) NX noE
theorem Ans:NL Tryz.prog 199 AoQ:=by
 refine fn2 4 (nK 78 Afm<|nK 116 Zh<|NG) Tryz.func199<|?_;rintro⟨c,e,f,h⟩;unfold Adt;refine Ab 9 λa i=>?_
 refine Ab 3 λb k=>?_
 refine A 12 ?_;refine lP (E:=λ(s:Int) (g:Nat×Nat)=>[(0,.sl (c.map (eL Mk))),(9,.osl 9 g.1 0 a.length),(10,.osl 10 g.2 0 b.length),(11,Av s)]) (O:=λ_ g=>[(9,dW g.1 1 3 (a.map Mk)),(10,dW g.2 1 3 (b.map Mk))]) (_,_) hX<|?_
 rintro d ⟨l,m⟩ nn;dsimp only[AhA];refine Ac 9 ?_ ?_
 ·refine A 2 ?_;refine bC (E:=λ(_s:Unit) (g:Nat×Nat)=>[(0,.sl (c.map (eL Mk))),(9,.osl 9 g.1 0 a.length),(10,.osl 10 g.2 0 b.length),(11,Av d)]) (O:=λ_ g=>[(9,dW g.1 1 3 (a.map Mk)),(10,dW g.2 1 3 (b.map Mk))]) (j:=λ_=>ZF d) ?_ ?_
  ·refine A 6 ?_;refine lP (E:=λ(s:Int) (g:Nat×Nat)=>[(0,.sl (c.map (eL Mk))),(9,.osl 9 g.1 0 a.length),(10,.osl 10 g.2 0 b.length),(11,Av d),(12,Av s)]) (O:=λ_ g=>[(9,dW g.1 1 3 (a.map Mk)),(10,dW g.2 1 3 (b.map Mk))]) (_,_) hX<|?_
   rintro o ⟨p,q⟩ nn;dsimp only[AhB];exact B
  ·rintro⟨⟩ ⟨r,t⟩ nn;dsimp only[ZF];exact B
 ·exact B

def Aqr:Dw.Spec:=NN [] .ground Tl Tk (λa=>XT a.1 a.2) NK noE
theorem AiD:NL Tryz.prog 82 Aqr:=by
 refine fn2 2 (NG) Tryz.func82<|?_;rintro⟨b,f⟩;unfold XT;refine Ab 16 λc h=>?_
 refine A 13 ?_;refine lP (E:=λ(s:Int×Int) (g:Nat)=>[(2,.optr 2 g 0 0),(5,Av s.1),(6,.sl (c.Code.map Ob)),(7,Av s.2)]) (O:=λ_ g=>[(2,dV g 1 28 (.agg [.sl (b.Funcs.map NQ)]))]) _ hX<|?_
 rintro⟨a,k5⟩ i nn;dsimp only[AiC];refine Ac 9 ?_ ?_
 ·refine Ab 8 λj k=>?_
  refine Ac 12 ?_ ?_
  ·refine Ab 4 λd l=>?_
   refine A 15 ?_;exact xL (s:=(OD a (i64.wrap (d.A+1)),i64.wrap (k5+1))) _ hX
  ·refine Ac 6 ?_ ?_
   ·refine Ab 6 λm o=>?_
    refine Ab 3 λe p=>?_
    refine A 14 ?_;exact xL (s:=(OD a e.Params,i64.wrap (k5+1))) _ hX
   ·refine A 9 ?_;exact xL (s:=(a,i64.wrap (k5+1))) _ hX
 ·exact B

def AoD:Dw.Spec:=NN [] .ground Uy Ux (λa=>Sg a) NK noE
theorem Anj:NL Tryz.prog 32 AoD:=by
 refine fn2 1 (nK 75 Ang<|NG) Tryz.func32<|?_;intro a;unfold Sg;refine A 18 ?_;refine lP (E:=λ(s:Int×Int) (g:Nat)=>[(1,.optr 1 g 0 0),(3,Av s.1),(4,Av s.2)]) (O:=λ_ g=>[(1,dV g 1 28 (.agg [.sl (a.Funcs.map NQ)]))]) _ hX<|?_
 rintro⟨b,c⟩ d nn;dsimp only[AcV];exact B

def AaX (a:NM×Int×Int×(List Int)):List D:=[Rk a.1,Av a.2.1,Av a.2.2.1,.sl (a.2.2.2.map Mk)]
def AaW (ds:List D):NM×Int×Int×(List Int):=(Th (ds.getD 0 .top),uI (ds.getD 1 .top),uI (ds.getD 2 .top),(uL uI) (ds.getD 3 .top))
instance:Od AaX AaW:=⟨λa=>by simp[AaW,AaX,uI,OG (u:=uI) (en:=Mk) (λ_=>rfl)]⟩
def AnA:Dw.Spec:=NN [] .val AaX AaW (λa=>Zl a.1 a.2.1 a.2.2.1 a.2.2.2) Sd noE
theorem Amr:NL Tryz.prog 139 AnA:=by
 refine fn2 4 (nK 204 AcR<|nK 82 AiD<|nK 205 Aqq<|nK 83 AkE<|NG) Tryz.func139<|?_;rintro⟨c,d,e,a⟩;unfold Zl;refine Ab 12 λf j=>?_
 refine Ac 16 ?_ ?_
 ·refine A 9 ?_;refine Qt (b:=((NV.mk 0 0 ([])),13)) r ?_ r r ?_ (by first|rfl|(simp only[NP];rfl)|(simp only[NR];rfl)|(simp only[NP,NR];rfl)|(simp[Sd,QH];try rfl)) (by decide)
  all_goals first|(simp;done)|(simp;omega)|rfl|(simp[Pn,Pc];done)|(simp[cells];done)
 ·refine A 9 ?_;refine lP (E:=λ(s:Int) (g:Nat×Nat)=>[(1,Av d),(2,Av e),(3,.sl (a.map Mk)),(4,.optr 4 g.1 0 0),(8,.optr 8 g.2 0 0),(10,.sl (f.Slots.map OR)),(11,Av s)]) (O:=λ_ g=>[(4,dV g.1 1 28 (.agg [.sl (c.Funcs.map NQ)])),(8,dV g.2 3 39 (.agg [Av 0,Av 0,.nils]))]) (_,_) hX<|?_
  rintro k6 ⟨k,l⟩ nn;dsimp only[Ach];refine Ac 9 ?_ ?_
  ·refine Ab 8 λm o=>?_
   refine Ab 4 λp q=>?_
   refine Ab 4 λt u=>?_
   refine Ac 4 ?_ ?_
   ·refine A 13 ?_;refine Qt (b:=((NV.mk 0 0 ([])),13)) r ?_ r r ?_ (by first|rfl|(simp only[NP];rfl)|(simp only[NR];rfl)|(simp only[NP,NR];rfl)|(simp[Sd,QH];try rfl)) (by decide)
    all_goals first|(simp;done)|(simp;omega)|rfl|(simp[Pn,Pc];done)|(simp[cells];done)
   ·exact B
  ·refine Ab 9 λh v=>?_
   refine Ab 9 λx z=>?_
   refine Ab 3 λi aa=>?_
   refine A 14 ?_;refine Tz r ?_ ?_
   ·refine A 15 ?_;refine Qt (b:=((NV.mk 0 0 ([])),9)) r ?_ r r ?_ (by first|rfl|(simp only[NP];rfl)|(simp only[NR];rfl)|(simp only[NP,NR];rfl)|(simp[Sd,QH];try rfl)) (by decide)
    all_goals first|(simp;done)|(simp;omega)|rfl|(simp[Pn,Pc];done)|(simp[cells];done)
   ·refine Ac 5 ?_ ?_
    ·refine A 9 ?_;refine Qt (b:=((NV.mk 0 0 ([])),9)) r ?_ r r ?_ (by first|rfl|(simp only[NP];rfl)|(simp only[NR];rfl)|(simp only[NP,NR];rfl)|(simp[Sd,QH];try rfl)) (by decide)
     all_goals first|(simp;done)|(simp;omega)|rfl|(simp[Pn,Pc];done)|(simp[cells];done)
    ·refine A 7 ?_;refine cK λhq=>aP (([]:List Int)) (a) Mk r r r r r r r (by simp) r r r (by simp) r (λ_=>r) r hq<|?_
     refine A 6 ?_;refine Qt (b:=((NV.mk h i.1 (([]:List Int)++a)),0)) r ?_ r r ?_ (by first|rfl|(simp only[NP];rfl)|(simp only[NR];rfl)|(simp only[NP,NR];rfl)|(simp[Sd,QH];try rfl)) (by decide)
     all_goals first|(simp;done)|(simp;omega)|rfl|(simp[Pn,Pc];done)|(simp[cells];done)

end
end Go.Proofs.YtcaoepecbgggcaaGreatDoor
