/-
 The code does what its typed programs say.
-/
import Derived.Test.YtcaoepecbgggcaaGreatDoorDxF16
import Derived.Test.YtcaoepecbgggcaaGreatDoorDxF17
import Derived.Test.YtcaoepecbgggcaaGreatDoorDxF18
namespace Go.Proofs.YtcaoepecbgggcaaGreatDoor
open Go Go.Dw Go.Proofs
open Go.IntKind (i64)
set_option maxRecDepth 100000
set_option maxHeartbeats 40000000
open Go.Dw renaming OO -> bD,Qk -> cK,Abq -> aP,Qs -> cD,Rp -> xC,PY -> xL,Zf -> hE,QS -> lP,PQ -> sC,RQ -> bC,rf -> r
def Acg (b:NL):D:=Ob b
theorem AaZ:Nr Tryz.prog 74 (fS .val WZ (λa=>UD a.1 a.2) Acg):=by
 refine fn2 2 (nK 133 AhX<|nK 134 AoD<|nK 135 AmJ<|nK 136 ApN<|nK 33 Aik<|nK 137 AnE<|nK 82 Aek<|nK 138 AnI<|nK 35 Aem<|nK 32 AhU<|nK 139 AnK<|Np) Tryz.func74<|?_;rintro⟨h,i⟩;unfold UD;refine Ab 11 λj k=>?_
 refine Ab 9 λc l=>?_
 refine Ab 11 λm o=>?_
 refine Ab 12 λd p=>?_
 refine Ab 14 λe q=>?_
 refine Ab 11 λs t=>?_
 refine Ab 12 λf u=>?_
 refine Ab 10 λv x=>?_
 refine Ab 15 λz aa=>?_
 refine Ab 1 λab ac=>?_
 refine Ac 15 ?_ ?_
 ·refine A 8 ?_;refine Uy (b:=(NL.mk c (ND.mk d e) f (NC.mk 0 0 ([])))) r ?_ r r ?_ (by first|rfl|(simp only[Nu];rfl)|(simp only[Nx];rfl)|(simp only[Nu,Nx];rfl)|(simp[Acg,Ob];try rfl))
  all_goals first|(simp;done)|(simp;omega)|rfl|(simp[OQ,OH];done)|(simp[cells];done)
 ·refine Ab 7 λad ae=>?_
  refine Ab 3 λaf ag=>?_
  refine Ab 2 λg ah=>?_
  refine A 15 ?_;refine Uy (b:=(NL.mk c (ND.mk d e) f g.1)) r ?_ r r ?_ (by first|rfl|(simp only[Nu];rfl)|(simp only[Nx];rfl)|(simp only[Nu,Nx];rfl)|(simp[Acg,Ob];try rfl))
  all_goals first|(simp;done)|(simp;omega)|rfl|(simp[OQ,OH];done)|(simp[cells];done)

abbrev Abk:=en3 Oh PJ Av
abbrev Abj:=de3 Rq Rr uI
def Acr (b:ND×Mk):D:=Xk b.1
def AjD (b:ND×Mk):List D:=[Oh b.2]
theorem AiR:Nr Tryz.prog 146 (NO [(0,(2,114))] .val Abk Abj (λa=>UJ a.1 a.2.1 a.2.2) Acr AjD):=by
 refine fn2 3 (nK 74 AaZ<|nK 22 OK<|nK 194 AdL<|nK 47 Aag<|Np) Tryz.func146<|?_;rintro⟨c1,p2,i3⟩;unfold UJ;refine Ab 11 λe ak=>?_
 refine Ab 10 λh ao=>?_
 refine A 10 ?_;refine cK λhq=>aP (([]:List Int)) (h.Rename.To) Av r r r r r r r (by simp) r r r (by simp) r (λ_=>r) r hq<|?_
 refine A 2 ?_;refine cK λhq=>aP (([]:List Bool)) (h.Rename.Keep) D.bool r r r r r r r (by simp) r r r (by simp) r (λ_=>r) r hq<|?_
 refine A 5 ?_;refine sC (E:=λ(_s:(List Int)×Int×(List Int)×(List Bool)) (g:Nat×Nat×Nat×Nat×Nat)=>[(0,.optr 8192 0 0 0),oP 6 g.1,oP 7 g.2.1,oP 9 g.2.2.1]) (O:=λs g=>[(6,dV g.1 2 48 (.agg [.nils,.nils])),(7,dV g.2.1 3 36 (Nz e)),(9,dV g.2.2.1 2 48 (.agg [.osl 29 g.2.2.2.1 0 s.2.2.1.length,.osl 32 g.2.2.2.2 0 s.2.2.2.length])),(29,dW g.2.2.2.1 1 3 (s.2.2.1.map Av)),(32,dW g.2.2.2.2 1 4 (s.2.2.2.map D.bool)),(8192,dV 0 2 114 (.agg [.sl (s.1.map eU8),Nm s.2.1]))]) (j:=λs=>SS e s.1 s.2.1 s.2.2.1 s.2.2.2) ?_ ?_
 ·refine Ab 3 λl ap=>?_
  refine Ac 4 ?_ ?_
  ·refine A 7 ?_;refine lP (E:=λ(s:(List Int)×Int) (g:Nat×Nat×Nat×Nat×Nat)=>[(0,.optr 8192 0 0 0),oP 6 g.1,oP 7 g.2.1,oP 9 g.2.2.1,oI 10 s.2]) (O:=λs g=>[(6,dV g.1 2 48 (.agg [.nils,.nils])),(7,dV g.2.1 3 36 (Nz e)),(9,dV g.2.2.1 2 48 (.agg [.osl 29 g.2.2.2.1 0 s.1.length,.osl 32 g.2.2.2.2 0 ((([]:List Bool)++h.Rename.Keep).length)])),(29,dW g.2.2.2.1 1 3 (s.1.map Av)),(32,dW g.2.2.2.2 1 4 ((([]:List Bool)++h.Rename.Keep).map D.bool)),(8192,dV 0 2 114 (.agg [.sl (l.2.list.map eU8),Nm l.2.at_]))]) (_,_,_,_,_) hX<|?_
   rintro⟨i,o⟩ ⟨aq,ar,au,av,aw⟩ nn;dsimp only[AbI];refine Ac 10 ?_ ?_
   ·refine Ab 10 λax ay=>?_
    refine A 9 ?_;exact xL (s:=(i.set o.toNat o,i64.wrap (o+1))) (_,_,_,_,_) ((hE ⟨rfl,r,r,r,r,trivial⟩ ⟨rfl,r,(Eq.trans (b:=dV _ 2 48 (.agg [.osl 29 _ 0 i.length,.osl 32 _ 0 ((([]:List Bool)++h.Rename.Keep).length)])) r (by simp)),r,r,r,trivial⟩))
   ·refine A 11 ?_;refine lP (E:=λ(s:(List Bool)×Int) (g:Nat×Nat×Nat×Nat×Nat)=>[(0,.optr 8192 0 0 0),oP 6 g.1,oP 7 g.2.1,oP 9 g.2.2.1,oI 11 s.2]) (O:=λs g=>[(6,dV g.1 2 48 (.agg [.nils,.nils])),(7,dV g.2.1 3 36 (Nz e)),(9,dV g.2.2.1 2 48 (.agg [.osl 29 g.2.2.2.1 0 i.length,.osl 32 g.2.2.2.2 0 s.1.length])),(29,dW g.2.2.2.1 1 3 (i.map Av)),(32,dW g.2.2.2.2 1 4 (s.1.map D.bool)),(8192,dV 0 2 114 (.agg [.sl (l.2.list.map eU8),Nm l.2.at_]))]) (_,_,_,_,_) hX<|?_
    rintro⟨q,t⟩ ⟨az,ba,bb,bc,bd⟩ nn;dsimp only[AbJ];refine Ac 10 ?_ ?_
    ·refine Ab 9 λbf bg=>?_
     refine A 9 ?_;exact xL (s:=(q.set t.toNat true,i64.wrap (t+1))) (_,_,_,_,_) ((hE ⟨rfl,r,r,r,r,trivial⟩ ⟨rfl,r,(Eq.trans (b:=dV _ 2 48 (.agg [.osl 29 _ 0 i.length,.osl 32 _ 0 q.length])) r (by simp)),r,r,r,trivial⟩))
    ·exact B
  ·exact B
 ·rintro⟨c6,c7,x8,x9⟩ ⟨bl,bm,bn,bo,bp⟩ nn;dsimp only[SS];refine Ab 4 λbq br=>?_
  refine A 5 ?_;refine lP (E:=λ(s:(List Int)×Int×(List Int)×(List Bool)×Int) (g:Nat×Nat×Nat×Nat×Nat)=>[(0,.optr 8192 0 0 0),oP 6 g.1,oP 7 g.2.1,oP 9 g.2.2.1,oI 12 s.2.2.2.2]) (O:=λs g=>[(6,dV g.1 2 48 (.agg [.nils,.nils])),(7,dV g.2.1 3 36 (Nz e)),(9,dV g.2.2.1 2 48 (.agg [.osl 29 g.2.2.2.1 0 s.2.2.1.length,.osl 32 g.2.2.2.2 0 s.2.2.2.1.length])),(29,dW g.2.2.2.1 1 3 (s.2.2.1.map Av)),(32,dW g.2.2.2.2 1 4 (s.2.2.2.1.map D.bool)),(8192,dV 0 2 114 (.agg [.sl (s.1.map eU8),Nm s.2.1]))]) (_,_,_,_,_) hX<|?_
  rintro⟨aa,ab,d,c,f⟩ ⟨bs,bt,bu,bv,bw⟩ nn;dsimp only[AbG];refine Ac 7 ?_ ?_
  ·refine A 2 ?_;refine bC (E:=λ(_s:(List Int)×Int×(List Int)×(List Bool)) (g:Nat×Nat×Nat×Nat×Nat)=>[(0,.optr 8192 0 0 0),oP 6 g.1,oP 7 g.2.1,oP 9 g.2.2.1,oI 12 f]) (O:=λs g=>[(6,dV g.1 2 48 (.agg [.nils,.nils])),(7,dV g.2.1 3 36 (Nz e)),(9,dV g.2.2.1 2 48 (.agg [.osl 29 g.2.2.2.1 0 s.2.2.1.length,.osl 32 g.2.2.2.2 0 s.2.2.2.length])),(29,dW g.2.2.2.1 1 3 (s.2.2.1.map Av)),(32,dW g.2.2.2.2 1 4 (s.2.2.2.map D.bool)),(8192,dV 0 2 114 (.agg [.sl (s.1.map eU8),Nm s.2.1]))]) (j:=λs=>Pe f s.1 s.2.1 s.2.2.1 s.2.2.2) ?_ ?_
   ·refine Ab 6 λk bx=>?_
    refine Ab 7 λm bz=>?_
    refine A 4 ?_;refine sC (E:=λ(s:Bool) (g:Nat×Nat×Nat×Nat×Nat)=>[(0,.optr 8192 0 0 0),oP 6 g.1,oP 7 g.2.1,oP 9 g.2.2.1,oI 12 f,oI 13 k.1,oI 72 m.1,oB 73 s]) (O:=λ_ g=>[(6,dV g.1 2 48 (.agg [.nils,.nils])),(7,dV g.2.1 3 36 (Nz e)),(9,dV g.2.2.1 2 48 (.agg [.osl 29 g.2.2.2.1 0 d.length,.osl 32 g.2.2.2.2 0 c.length])),(29,dW g.2.2.2.1 1 3 (d.map Av)),(32,dW g.2.2.2.2 1 4 (c.map D.bool)),(8192,dV 0 2 114 (.agg [.sl (m.2.list.map eU8),Nm m.2.at_]))]) (j:=λs=>SU e k c f d m s) ?_ ?_
    ·exact B
    ·rintro ca ⟨cb,cc,cd,ce,cf⟩ nn;dsimp only[SU];refine cD r ?_ ?_
     ·refine Ab 5 λch ci=>?_
      refine A 6 ?_;refine sC (E:=λ(s:(List Int)×Int×Bool) (g:Nat×Nat×Nat×Nat×Nat)=>[(0,.optr 8192 0 0 0),oP 6 g.1,oP 7 g.2.1,oP 9 g.2.2.1,oI 12 f,oI 13 k.1,oB 92 s.2.2]) (O:=λs g=>[(6,dV g.1 2 48 (.agg [.nils,.nils])),(7,dV g.2.1 3 36 (Nz e)),(9,dV g.2.2.1 2 48 (.agg [.osl 29 g.2.2.2.1 0 d.length,.osl 32 g.2.2.2.2 0 c.length])),(29,dW g.2.2.2.1 1 3 (d.map Av)),(32,dW g.2.2.2.2 1 4 (c.map D.bool)),(8192,dV 0 2 114 (.agg [.sl (s.1.map eU8),Nm s.2.1]))]) (j:=λs=>RN k c f d s.1 s.2.1 s.2.2) ?_ ?_
      ·exact B
      ·rintro⟨ac,ad,cj⟩ ⟨ck,cl,cm,cn,co⟩ nn;dsimp only[RN];refine cD r ?_ ?_
       ·refine Ab 8 λae cp=>?_
        refine Ab 3 λcq cr=>?_
        refine A 3 ?_;exact UA (s:=(ac,ad,d,c.set k.1.toNat (!ae))) (_,_,_,_,_) ((hE ⟨rfl,r,r,r,r,trivial⟩ ⟨rfl,r,(Eq.trans (b:=dV _ 2 48 (.agg [.osl 29 _ 0 d.length,.osl 32 _ 0 c.length])) r (by simp)),r,r,r,trivial⟩))
       ·exact B
     ·refine Ac 6 ?_ ?_
      ·refine Ac 8 ?_ ?_
       ·refine Ab 6 λaf cs=>?_
        refine Ab 11 λu ct=>?_
        refine Ab 2 λv cu=>?_
        refine A 10 ?_;refine lP (E:=λ(s:(List Int)×Int) (g:Nat×Nat×Nat×Nat×Nat)=>[(0,.optr 8192 0 0 0),oP 6 g.1,oP 7 g.2.1,oP 9 g.2.2.1,oI 12 f,oI 15 af.1,oI 16 v,oI 17 s.2]) (O:=λs g=>[(6,dV g.1 2 48 (.agg [.nils,.nils])),(7,dV g.2.1 3 36 (Nz e)),(9,dV g.2.2.1 2 48 (.agg [.osl 29 g.2.2.2.1 0 s.1.length,.osl 32 g.2.2.2.2 0 c.length])),(29,dW g.2.2.2.1 1 3 (s.1.map Av)),(32,dW g.2.2.2.2 1 4 (c.map D.bool)),(8192,dV 0 2 114 (.agg [.sl (u.2.list.map eU8),Nm u.2.at_]))]) (_,_,_,_,_) hX<|?_
        rintro⟨x,z⟩ ⟨cv,cw,cx,cy,cz⟩ nn;dsimp only[AbH];refine Ac 10 ?_ ?_
        ·refine Ab 10 λda db=>?_
         refine Ac 5 ?_ ?_
         ·refine Ab 6 λdc dd=>?_
          refine A 9 ?_;exact xL (s:=(x.set z.toNat v,i64.wrap (z+1))) (_,_,_,_,_) ((hE ⟨rfl,r,r,r,r,r,r,r,trivial⟩ ⟨rfl,r,(Eq.trans (b:=dV _ 2 48 (.agg [.osl 29 _ 0 x.length,.osl 32 _ 0 c.length])) r (by simp)),r,r,r,trivial⟩))
         ·exact B
        ·exact B
       ·exact B
      ·refine Ac 6 ?_ ?_
       ·refine sC (E:=λ(s:(List Int)×Int×Bool) (g:Nat×Nat×Nat×Nat×Nat)=>[(0,.optr 8192 0 0 0),oP 6 g.1,oP 7 g.2.1,oP 9 g.2.2.1,oI 12 f,oB 151 s.2.2]) (O:=λs g=>[(6,dV g.1 2 48 (.agg [.nils,.nils])),(7,dV g.2.1 3 36 (Nz e)),(9,dV g.2.2.1 2 48 (.agg [.osl 29 g.2.2.2.1 0 d.length,.osl 32 g.2.2.2.2 0 c.length])),(29,dW g.2.2.2.1 1 3 (d.map Av)),(32,dW g.2.2.2.2 1 4 (c.map D.bool)),(8192,dV 0 2 114 (.agg [.sl (s.1.map eU8),Nm s.2.1]))]) (j:=λs=>SV e d f c s.1 s.2.1 s.2.2) ?_ ?_
        ·exact B
        ·rintro⟨de,df,dg⟩ ⟨dh,di,dj,dk,dl⟩ nn;dsimp only[SV];refine cD r ?_ ?_
         ·refine Ab 7 λag dm=>?_
          refine Ab 2 λp dn=>?_
          refine Ab 2 λdp dq=>?_
          refine A 3 ?_;exact UA (s:=(p.2.list,p.2.at_,d.set ag.1.toNat p.1,c)) (_,_,_,_,_) ((hE ⟨rfl,r,r,r,r,trivial⟩ ⟨rfl,r,(Eq.trans (b:=dV _ 2 48 (.agg [.osl 29 _ 0 d.length,.osl 32 _ 0 c.length])) r (by simp)),r,r,r,trivial⟩))
         ·exact B
       ·exact B
   ·rintro⟨dr,ds,dt,du⟩ ⟨dv,dw,dx,dy,dz⟩ nn;dsimp only[Pe];exact B
  ·refine A 12 ?_;refine Uy (b:=((ND.mk d c),(Mk.mk aa ab))) r ?_ r r ?_ (by first|rfl|(simp only[Nu];rfl)|(simp only[Nx];rfl)|(simp only[Nu,Nx];rfl)|(simp[Acr,Xk];try rfl))
   all_goals first|(simp;done)|(simp;omega)|rfl|(simp[OQ,OH];done)|(simp[cells];done)

end Go.Proofs.YtcaoepecbgggcaaGreatDoor
