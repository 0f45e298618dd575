/-
 The code does what its typed programs say.
-/
import Derived.Test.YtcaoepecbgggcaaGreatDoorProg
import Derived.Test.YtcaoepecbgggcaaGreatDoorDc
import Derived.KernelRfl
import Derived.Test.YtcaoepecbgggcaaGreatDoorDxP
import Derived.Test.YtcaoepecbgggcaaGreatDoorDxF1
import Derived.Test.YtcaoepecbgggcaaGreatDoorDxF14
import Derived.Test.YtcaoepecbgggcaaGreatDoorDxF16
import Derived.Test.YtcaoepecbgggcaaGreatDoorDxF17
import Derived.Test.YtcaoepecbgggcaaGreatDoorDxF18
import Derived.Test.YtcaoepecbgggcaaGreatDoorDxF20
import Derived.Test.YtcaoepecbgggcaaGreatDoorDxF22
import Derived.Test.YtcaoepecbgggcaaGreatDoorDxF23
open List renaming take_of_length_le->aA
namespace Go.Proofs.YtcaoepecbgggcaaGreatDoor
open Go Go.Dw Go.Proofs
open Go.IntKind (i64)
set_option maxRecDepth 100000
set_option maxHeartbeats 40000000
open Go.Dw renaming OQ -> bD,WO -> bS,PX -> cD,RJ -> xC,PH -> xL,Qm -> lP,Qd -> sC,Rf -> bC,rf -> r
noncomputable def AmM:Dw.Spec:=NN [] .val Uy Ux (λa=>Vl a) Zs noE
theorem Agc:NL Tryz.prog 20 AmM:=by
 refine fn2 1 (nK 17 AfZ<|NG) Tryz.func20<|?_;intro a;unfold Vl;exact B

def AbM (_a:Unit):List D:=[]
def AbL (_ds:List D):Unit:=()
theorem AmV (a:Unit):AbL (AbM a)=a:=rfl
instance:Od AbM AbL:=⟨AmV⟩
noncomputable def Aoi:Dw.Spec:=NN [] .ground AbM AbL (λ_a=>Aan) NX noE
theorem AmW:NL Tryz.prog 9 Aoi:=by
 refine fn2 0 (nK 20 Agc<|NG) Tryz.func9<|?_;intro _;unfold Aan;refine A 8 ?_;refine bS ([(NH.mk 23 0 0 0 0)]:List NH) Ob r r r (by simp) r r r<|?_
 refine A 1 ?_;refine bS ([(Lo.mk 0 ([]) ([(NH.mk 23 0 0 0 0)]:List NH))]:List Lo) NQ r r r (by simp) r (by simp[XI,NQ]<;>first|rfl|(rw[aA (by simp)])) r<|?_
 exact B

def Acj (b:Og):D:=Ow b
noncomputable def Ams:Dw.Spec:=NN [] .val Tl Tk (λa=>Yj a.1 a.2) Acj noE
theorem Als:NL Tryz.prog 74 Ams:=by
 refine fn2 2 (nK 133 Ank<|nK 134 Ano<|nK 135 Alp<|nK 136 AoR<|nK 33 Ant<|nK 137 Amj<|nK 82 AiD<|nK 138 Amp<|nK 35 AoX<|nK 32 Anj<|nK 139 Amr<|NG) Tryz.func74<|?_;rintro⟨g,h⟩;unfold Yj;refine Ab 11 λi j=>?_
 refine Ab 9 λa k=>?_
 refine Ab 11 λl m=>?_
 refine Ab 12 λc o=>?_
 refine Ab 14 λd p=>?_
 refine Ab 11 λq s=>?_
 refine Ab 12 λe t=>?_
 refine Ab 10 λu v=>?_
 refine Ab 15 λx z=>?_
 refine Ab 1 λaa ab=>?_
 refine Ac 15 ?_ ?_
 ·refine A 8 ?_;refine Abm (b:=(Og.mk a (NU.mk c d) e (NV.mk 0 0 ([])))) r ?_ r r ?_ (by first|rfl|(simp only[NP];rfl)|(simp only[NR];rfl)|(simp only[NP,NR];rfl)|(simp[Acj,Ow];try rfl))
  all_goals first|(simp;done)|(simp;omega)|rfl|(simp[Pn,Pc];done)|(simp[cells];done)
 ·refine Ab 7 λac ad=>?_
  refine Ab 3 λae af=>?_
  refine Ab 2 λf ag=>?_
  refine A 15 ?_;refine Abm (b:=(Og.mk a (NU.mk c d) e f.1)) r ?_ r r ?_ (by first|rfl|(simp only[NP];rfl)|(simp only[NR];rfl)|(simp only[NP,NR];rfl)|(simp[Acj,Ow];try rfl))
  all_goals first|(simp;done)|(simp;omega)|rfl|(simp[Pn,Pc];done)|(simp[cells];done)

def Art (b:(List Og)):D:=.sl (b.map Ow)
noncomputable def Aru:Dw.Spec:=NN [] (.row 7 50) Uy Ux (λa=>XB a) Art noE
theorem Aqs:NL Tryz.prog 31 Aru:=by
 refine fn2 1 (nK 74 Als<|NG) Tryz.func31<|?_;intro a;unfold XB;refine A 18 ?_;refine lP (E:=λ(s:(List Og)×Int) (g:Nat×Nat)=>[(1,.optr 1 g.1 0 0),(3,.osl 3 g.2 0 s.1.length),(4,Av s.2)]) (O:=λs g=>[(1,dV g.1 1 28 (.agg [.sl (a.Funcs.map NQ)])),(3,dW g.2 7 50 (s.1.map Ow))]) (_,_) hX<|?_
 rintro⟨c,d⟩ ⟨e,f⟩ nn;dsimp only[Afq];refine Ac 10 ?_ ?_
 ·refine Ab 8 λb h=>?_
  refine A 1 ?_;refine bS ([b]:List Og) Ow r r r (by simp) r r r<|?_
  exact B
 ·exact B

def SG (a:Int×Bool):List D:=[.int .i8 a.1,.bool a.2]
def SF (ds:List D):Int×Bool:=(uI (ds.getD 0 .top),uBo (ds.getD 1 .top))
theorem YY (a:Int×Bool):SF (SG a)=a:=by simp[SF,SG,uI,uBo]
instance:Od SG SF:=⟨YY⟩
noncomputable def AfD:Dw.Spec:=NN [] .ground SG SF (λa=>Ul a.1 a.2) NX noE
theorem Afa:NL Tryz.prog 8 AfD:=by
 refine fn2 2 (nK 9 AmW<|nK 31 Aqs<|nK 17 AfZ<|nK 20 Agc<|NG) Tryz.func8<|?_;rintro⟨e,b⟩;unfold Ul;refine Ab 8 λi k=>?_
 refine Ac 4 ?_ ?_
 ·exact B
 ·refine A 23 ?_;refine lP (E:=λ(s:(List Lo)×Int) (g:Nat)=>[(1,.bool b),(5,Av (i64.wrap (127+((i64.wrap (e)).tmod 2)))),(6,.optr 6 g 0 0),(7,Av s.2)]) (O:=λs g=>[(6,dV g 1 28 (.agg [.sl (s.1.map NQ)]))]) _ ((WK [] trivial ⟨(Oq r),(Oq r),(Oq r),(Oq r),trivial⟩ ⟨(.inr ⟨_,_,_,_,r,r,r,r,Vk r ⟨(Ua NQ r),trivial⟩⟩),trivial⟩))<|?_
  rintro⟨c,a⟩ l nn;dsimp only[SU];refine Ac 7 ?_ ?_
  ·refine A 2 ?_;refine bC (E:=λ(_s:(List Lo)) (g:Nat×Nat)=>[(1,.bool b),(5,Av (i64.wrap (127+((i64.wrap (e)).tmod 2)))),(6,.optr 6 g.1 0 0),(7,Av a)]) (O:=λs g=>[(6,dV g.1 1 28 (.agg [.osl 12 g.2 0 s.length])),(12,dW g.2 3 36 (s.map NQ))]) (j:=λs=>SV a s) ?_ ?_
   ·refine A 15 ?_;refine lP (E:=λ(s:(List NS)×Int) (g:Nat×Nat)=>[(1,.bool b),(5,Av (i64.wrap (127+((i64.wrap (e)).tmod 2)))),(6,.optr 6 g.1 0 0),(7,Av a),(8,.optr 8 g.2 0 0),(9,Av s.2)]) (O:=λs g=>[(6,dV g.1 1 28 (.agg [.sl (c.map NQ)])),(8,dV g.2 3 36 (.agg [Av 0,.sl (s.1.map OR),.nils]))]) (_,_) ((WK [] trivial ⟨(Oq r),(Oq r),(Oq r),(Oq r),(Oq r),(Oq r),trivial⟩ ⟨(.inl r),(.inr ⟨_,_,_,_,r,r,r,r,Vk r ⟨(Oz r),(Ua OR r),(Oz r),trivial⟩⟩),trivial⟩))<|?_
    rintro⟨d,m⟩ ⟨o,p⟩ nn;dsimp only[Vo];refine Ac 8 ?_ ?_
    ·refine A 10 ?_;refine bS ([(NS.mk 1 16777216)]:List NS) OR r r r (by simp) r r r<|?_
     refine A 16 ?_;exact wf [10] λ_=>B
    ·refine A 8 ?_;refine bS ([(NH.mk 23 0 0 0 0)]:List NH) Ob r r r (by simp) r r r<|?_
     refine A 3 ?_;refine sC (E:=λ(s:(List NH)) (g:Nat×Nat×Nat)=>[(1,.bool b),(5,Av (i64.wrap (127+((i64.wrap (e)).tmod 2)))),(6,.optr 6 g.1 0 0),(7,Av a),(8,.optr 8 g.2.1 0 0),(11,.osl 11 g.2.2 0 s.length)]) (O:=λs g=>[(6,dV g.1 1 28 (.agg [.sl (c.map NQ)])),(8,dV g.2.1 3 36 (.agg [Av 0,.sl (d.map OR),.nils])),(11,dW g.2.2 5 90 (s.map Ob))]) (j:=λs=>Rt b c d a s) ?_ ?_
     ·refine Ac 6 ?_ ?_
      ·refine A 5 ?_;refine bS ([(NH.mk 22 (i64.wrap (a+1)) 0 0 0),(NH.mk 23 0 0 0 0)]:List NH) Ob r r r (by simp) r r r<|?_
       exact B
      ·exact B
     ·rintro f ⟨q,t,u⟩ nn;dsimp only[Rt];refine sC (E:=λ(s:(List NH)) (g:Nat×Nat×Nat)=>[(1,.bool b),(5,Av (i64.wrap (127+((i64.wrap (e)).tmod 2)))),(6,.optr 6 g.1 0 0),(7,Av a),(8,.optr 8 g.2.1 0 0),(11,.osl 11 g.2.2 0 s.length)]) (O:=λs g=>[(6,dV g.1 1 28 (.agg [.sl (c.map NQ)])),(8,dV g.2.1 3 36 (.agg [Av 0,.sl (d.map OR),.nils])),(11,dW g.2.2 5 90 (s.map Ob))]) (j:=λs=>QI c d a s) ?_ ?_
      ·refine sC (E:=λ(s:Bool) (g:Nat×Nat×Nat)=>[(1,.bool b),(5,Av (i64.wrap (127+((i64.wrap (e)).tmod 2)))),(6,.optr 6 g.1 0 0),(7,Av a),(8,.optr 8 g.2.1 0 0),(11,.osl 11 g.2.2 0 f.length),(55,.bool s)]) (O:=λ_ g=>[(6,dV g.1 1 28 (.agg [.sl (c.map NQ)])),(8,dV g.2.1 3 36 (.agg [Av 0,.sl (d.map OR),.nils])),(11,dW g.2.2 5 90 (f.map Ob))]) (j:=λs=>Ru c d a f s) ?_ ?_
       ·exact B
       ·rintro v ⟨x,z,aa⟩ nn;dsimp only[Ru];refine cD r ?_ ?_
        ·refine A 6 ?_;refine bS ([(NH.mk 23 0 0 0 0),(NH.mk 22 (i64.wrap (a+1)) 0 0 0),(NH.mk 23 0 0 0 0)]:List NH) Ob r r r (by simp) r r r<|?_
         exact B
        ·exact B
      ·rintro h ⟨ab,ac,ad⟩ nn;dsimp only[QI];refine A 13 ?_;refine bS ([(Lo.mk 0 d h)]:List Lo) NQ r r r (by simp) r (by simp[XI,NQ]<;>first|rfl|(rw[aA (by simp)])) r<|?_
       exact B
   ·rintro l6 ⟨af,ag⟩ nn;dsimp only[SV];refine A 5 ?_;exact wf [12] λ_=>B
  ·exact B

end Go.Proofs.YtcaoepecbgggcaaGreatDoor
