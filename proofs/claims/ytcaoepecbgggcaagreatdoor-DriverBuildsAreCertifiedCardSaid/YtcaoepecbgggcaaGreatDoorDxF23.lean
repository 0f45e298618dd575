/-
 The code does what its typed programs say.
-/
import Derived.Test.YtcaoepecbgggcaaGreatDoorDxF19
import Derived.Test.YtcaoepecbgggcaaGreatDoorDxF20
import Derived.Test.YtcaoepecbgggcaaGreatDoorDxF22
namespace Go.Proofs.YtcaoepecbgggcaaGreatDoor
open Go Go.Dw Go.Proofs
open Go.IntKind (i64)
set_option maxRecDepth 100000
set_option maxHeartbeats 40000000
open Go.Dw renaming OO -> bD,TR -> bS,Qs -> cD,Rp -> xC,PY -> xL,QS -> lP,PQ -> sC,rf -> r
theorem Agr:Nr Tryz.prog 20 (fS .val Yq (λa=>Zd a) Zz):=by
 refine fn2 1 (nK 17 Ago<|Np) Tryz.func20<|?_;intro a;unfold Zd;exact B

def AbR (_a:Unit):List D:=[]
def Agw (_ds:List D):Unit:=()
theorem Aoh (a:Unit):Agw (AbR a)=a:=rfl
instance:OW AbR Agw:=⟨Aoh⟩
theorem Aoi:Nr Tryz.prog 9 (fS .ground AbR (λ_a=>Adk) NF):=by
 refine fn2 0 (nK 20 Agr<|Np) Tryz.func9<|?_;intro _;unfold Adk;refine A 8 ?_;refine bS ([(Lo.mk 23 0 0 0 0)]:List Lo) NG r r r (by simp) r r r<|?_
 refine A 1 ?_;refine bS ([(Nn.mk 0 ([]) ([(Lo.mk 23 0 0 0 0)]:List Lo))]:List Nn) Nz r r r (by simp) r (by simp[YM,Nz]<;>first|rfl|(rw[List.take_of_length_le (by simp)])) r<|?_
 exact B

def AhE (b:NL×Mk):D:=Ob b.1
def AhD (b:NL×Mk):List D:=[Oh b.2]
theorem Ahc:Nr Tryz.prog 86 (NO [(0,(2,114))] .val Abk Abj (λa=>VJ a.1 a.2.1 a.2.2) AhE AhD):=by
 refine fn2 3 (nK 74 AaZ<|nK 22 OK<|nK 145 Akh<|nK 146 AiR<|nK 33 Aik<|nK 35 Aem<|nK 32 AhU<|nK 147 AiP<|Np) Tryz.func86<|?_;rintro⟨m,c,d⟩;unfold VJ;refine Ab 10 λb o=>?_
 refine Ab 9 λp q=>?_
 refine Ac 4 ?_ ?_
 ·exact B
 ·refine A 2 ?_;refine sC (E:=λ(_s:(List Int)×Int×(List (List Int))) (g:Nat×Nat×Nat)=>[(0,.optr 8192 0 0 0),oI 2 d,oP 4 g.1,oP 6 g.2.1,oP 7 g.2.2]) (O:=λs g=>[(4,dV g.1 1 28 (.agg [.sl (c.Funcs.map Nz)])),(6,dV g.2.1 7 50 (.agg [.nils,.nils,.nils,.nils,Nm 0,Nm 0,.nils])),(7,dV g.2.2 7 50 (.agg [.sl (s.2.2.map (eL Av)),.sl (b.Rename.To.map Av),.sl (b.Rename.Keep.map D.bool),.sl (b.LiveAfter.Out.map (eL Av)),Nm b.Layout.Args,Nm b.Layout.Size,.sl (b.Layout.Off.map Av)])),(8192,dV 0 2 114 (.agg [.sl (s.1.map eU8),Nm s.2.1]))]) (j:=λs=>Sf c d b s.1 s.2.1 s.2.2) ?_ ?_
  ·exact B
  ·rintro⟨r,t,e⟩ ⟨u,v,x⟩ nn;dsimp only[Sf];refine sC (E:=λ(_s:(List Int)×Int×(List Int)×(List Bool)) (g:Nat×Nat×Nat)=>[(0,.optr 8192 0 0 0),oI 2 d,oP 4 g.1,oP 6 g.2.1,oP 7 g.2.2]) (O:=λs g=>[(4,dV g.1 1 28 (.agg [.sl (c.Funcs.map Nz)])),(6,dV g.2.1 7 50 (.agg [.nils,.nils,.nils,.nils,Nm 0,Nm 0,.nils])),(7,dV g.2.2 7 50 (.agg [.sl (e.map (eL Av)),.sl (s.2.2.1.map Av),.sl (s.2.2.2.map D.bool),.sl (b.LiveAfter.Out.map (eL Av)),Nm b.Layout.Args,Nm b.Layout.Size,.sl (b.Layout.Off.map Av)])),(8192,dV 0 2 114 (.agg [.sl (s.1.map eU8),Nm s.2.1]))]) (j:=λs=>Rk c d e b s.1 s.2.1 s.2.2.1 s.2.2.2) ?_ ?_
   ·exact B
   ·rintro⟨z,aa,f,h⟩ ⟨ab,ac,ad⟩ nn;dsimp only[Rk];refine Ab 5 λae af=>?_
    refine A 6 ?_;refine sC (E:=λ(_s:(List Int)×Int×Int×(List NB)×(List Lo)) (g:Nat×Nat×Nat×Nat)=>[(0,.optr 8192 0 0 0),oI 2 d,oP 4 g.1,oP 6 g.2.1,oP 7 g.2.2.1,oP 8 g.2.2.2]) (O:=λs g=>[(4,dV g.1 1 28 (.agg [.sl (c.Funcs.map Nz)])),(6,dV g.2.1 7 50 (.agg [.nils,.nils,.nils,.nils,Nm 0,Nm 0,.nils])),(7,dV g.2.2.1 7 50 (.agg [.sl (e.map (eL Av)),.sl (f.map Av),.sl (h.map D.bool),.sl (b.LiveAfter.Out.map (eL Av)),Nm b.Layout.Args,Nm b.Layout.Size,.sl (b.Layout.Off.map Av)])),(8,dV g.2.2.2 3 36 (.agg [Nm s.2.2.1,.sl (s.2.2.2.1.map On),.sl (s.2.2.2.2.map NG)])),(8192,dV 0 2 114 (.agg [.sl (s.1.map eU8),Nm s.2.1]))]) (j:=λs=>Rl c d e f h b s.1 s.2.1 s.2.2.1 s.2.2.2.1 s.2.2.2.2) ?_ ?_
    ·exact B
    ·rintro⟨ag,ah,i,k,l⟩ ⟨ai,aj,ak,ao⟩ nn;dsimp only[Rl];refine sC (E:=λ(_s:(List Int)×Int×(List (List Int))) (g:Nat×Nat×Nat×Nat)=>[(0,.optr 8192 0 0 0),oI 2 d,oP 4 g.1,oP 6 g.2.1,oP 7 g.2.2.1,oP 8 g.2.2.2]) (O:=λs g=>[(4,dV g.1 1 28 (.agg [.sl (c.Funcs.map Nz)])),(6,dV g.2.1 7 50 (.agg [.nils,.nils,.nils,.nils,Nm 0,Nm 0,.nils])),(7,dV g.2.2.1 7 50 (.agg [.sl (e.map (eL Av)),.sl (f.map Av),.sl (h.map D.bool),.sl (s.2.2.map (eL Av)),Nm b.Layout.Args,Nm b.Layout.Size,.sl (b.Layout.Off.map Av)])),(8,dV g.2.2.2 3 36 (.agg [Nm i,.sl (k.map On),.sl (l.map NG)])),(8192,dV 0 2 114 (.agg [.sl (s.1.map eU8),Nm s.2.1]))]) (j:=λs=>Sg c d i k l e f h b s.1 s.2.1 s.2.2) ?_ ?_
     ·exact B
     ·rintro⟨ap,aq,ar⟩ ⟨au,av,aw,ax⟩ nn;dsimp only[Sg];exact B

def Ahe (b:(List NL)×Mk):D:=.sl (b.1.map Ob)
def Ahd (b:(List NL)×Mk):List D:=[Oh b.2]
theorem AfR:Nr Tryz.prog 37 (NO [(0,(2,114))] (.row 7 50) Abh Abg (λa=>UO a.1 a.2) Ahe Ahd):=by
 refine fn2 2 (nK 86 Ahc<|nK 22 OK<|Np) Tryz.func37<|?_;rintro⟨d,b⟩;unfold UO;refine A 18 ?_;refine lP (E:=λ(s:(List Int)×Int×(List NL)×Int) (g:Nat×Nat)=>[(0,.optr 8192 0 0 0),oP 3 g.1,oT 5 g.2 s.2.2.1,oI 6 s.2.2.2]) (O:=λs g=>[(3,dV g.1 1 28 (.agg [.sl (b.Funcs.map Nz)])),(5,dW g.2 7 50 (s.2.2.1.map Ob)),(8192,dV 0 2 114 (.agg [.sl (s.1.map eU8),Nm s.2.1]))]) (_,_) hX<|?_
 rintro⟨e,f,h,i⟩ ⟨j,k⟩ nn;dsimp only[ZX];refine Ac 10 ?_ ?_
 ·refine Ab 9 λc l=>?_
  refine A 1 ?_;refine bS ([c.1]:List NL) Ob r r r (by simp) r r r<|?_
  exact B
 ·exact B

def YN (a:(List Int)):List D:=[.sl (a.map eU8)]
def AbS (ds:List D):(List Int):=(uL uI) (ds.getD 0 .top)
theorem Aoj (a:(List Int)):AbS (YN a)=a:=by simp[AbS,YN,Qe (u:=uI) (en:=eU8) (λ_=>rfl)]
instance:OW YN AbS:=⟨Aoj⟩
def Aji (b:Nv×(List NL)×Mk):D:=.tup [PJ b.1,.sl (b.2.1.map Ob),Oh b.2.2]
theorem Aok:Nr Tryz.prog 11 (fS (.tupPtr 2 2 114) YN (λa=>Aay a) Aji):=by
 refine fn2 1 (nK 29 ArK<|nK 30 AhC<|nK 22 OK<|nK 36 AiO<|nK 37 AfR<|Np) Tryz.func11<|?_;intro e;unfold Aay;refine Ab 10 λf h=>?_
 refine Ab 7 λi k=>?_
 refine A 5 ?_;refine sC (E:=λ(_s:(List Nn)×(List Int)×Int) (g:Nat×Nat×Nat)=>[oP 2 g.1,(5,.optr 8 g.2.2 0 0),oP 6 g.2.1]) (O:=λs g=>[(2,dV g.1 1 28 (.agg [.nils])),(6,dV g.2.1 1 28 (.agg [.sl (s.1.map Nz)])),(8,dV g.2.2 2 114 (.agg [.sl (s.2.1.map eU8),Nm s.2.2]))]) (j:=λs=>Xp s.1 s.2.1 s.2.2) ?_ ?_
 ·exact B
 ·rintro⟨d,l,m⟩ ⟨o,p,q⟩ nn;dsimp only[Xp];refine Ab 5 λc t=>?_
  refine A 8 ?_;refine Att (b:=((Nv.mk d),c.1,c.2)) (by decide) (by decide) r ?_ r ?_ r ?_ r ?_ (by first|rfl|(simp only[Nu];rfl)|(simp only[Nx];rfl)|(simp only[Nu,Nx];rfl)|(simp[Aji,PJ,Oh];try rfl)) r ?_ r
  all_goals first|(simp;done)|(simp;omega)|rfl|(simp[OQ,OH];done)|(simp[cells];done)

def QK (a:(List Int)):List D:=[.sl (a.map eU8)]
def RT (ds:List D):(List Int):=(uL uI) (ds.getD 0 .top)
theorem Ve (a:(List Int)):RT (QK a)=a:=by simp[RT,QK,Qe (u:=uI) (en:=eU8) (λ_=>rfl)]
instance:OW QK RT:=⟨Ve⟩
theorem Aax:Nr Tryz.prog 6 (fS .ground QK (λa=>Ru a) NF):=by
 refine fn2 1 (nK 9 Aoi<|nK 11 Aok<|nK 17 Ago<|nK 20 Agr<|nK 25 ArV<|nK 26 AmP<|nK 27 Aov<|nK 28 AoN<|Np) Tryz.func6<|?_;intro e;unfold Ru;refine Ab 8 λi k=>?_
 refine Ac 4 ?_ ?_
 ·exact B
 ·refine A 5 ?_;refine bD λb f=>AnO (rs:=[PJ b.1,.sl (b.2.1.map Ob),Oh b.2.2]) (z:=Oh b.2.2) e r r r OW.ok r r (by simp) r f r r<|?_
  refine Ab 14 λc l=>?_
  refine Ac 16 ?_ ?_
  ·exact B
  ·refine Ab 5 λd m=>?_
   refine Ab 12 λo p=>?_
   refine Ab 8 λq t=>?_
   refine A 4 ?_;refine sC (E:=λ(_s:Unit) (g:Nat×Nat×Nat)=>[oP 3 g.1,oP 6 g.2.1,oP 8 g.2.2]) (O:=λ_ g=>[(3,dV g.1 1 28 (.agg [.sl (b.1.Funcs.map Nz)])),(6,dV g.2.1 5 60 (Aaw c.1)),(8,dV g.2.2 5 60 (Aaw d.1))]) (j:=λ_=>Sk c d b) ?_ ?_
   ·exact B
   ·rintro⟨⟩ ⟨u,v,x⟩ nn;dsimp only[Sk];refine A 7 ?_;refine lP (E:=λ(s:Int) (g:Nat×Nat×Nat)=>[oP 3 g.1,oP 6 g.2.1,oP 8 g.2.2,oI 12 s]) (O:=λ_ g=>[(3,dV g.1 1 28 (.agg [.sl (b.1.Funcs.map Nz)])),(6,dV g.2.1 5 60 (Aaw c.1)),(8,dV g.2.2 5 60 (Aaw d.1))]) (_,_,_) hX<|?_
    rintro h ⟨aa,ab,ac⟩ nn;dsimp only[Sj];refine Ac 10 ?_ ?_
    ·refine Ab 9 λad ae=>?_
     refine Ab 5 λaf ag=>?_
     refine A 4 ?_;refine QO r ?_ ?_
     ·exact B
     ·refine Ab 4 λah ai=>?_
      refine Ab 7 λaj ak=>?_
      refine A 6 ?_;refine QO r ?_ ?_
      ·exact B
      ·refine Ab 4 λao ap=>?_
       refine Ab 7 λaq ar=>?_
       refine Ac 8 ?_ ?_
       ·exact B
       ·refine A 8 ?_;exact xL (s:=i64.wrap (h+1)) (_,_,_) hX
    ·exact B

end Go.Proofs.YtcaoepecbgggcaaGreatDoor
