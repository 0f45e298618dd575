/-
 The code does what its typed programs say.
-/
import Derived.Test.YtcaoepecbgggcaaGreatDoorDxF9
namespace Go.Proofs.YtcaoepecbgggcaaGreatDoor
open Go Go.Dw Go.Proofs
open Go.IntKind (i64)
set_option maxRecDepth 100000
set_option maxHeartbeats 40000000
open Go.Dw renaming QN -> bD,QW -> cK,Ya -> bS,AcM -> aP,Vs -> cD,YA -> xC,UF -> xL,Zf -> hE,XG -> lP,Vg -> sC,SG -> bC,rf -> r
theorem Agb:Ns Tryz.prog 20 (fS .val Wc (λa=>Zd a) Zz):=by
 refine fn2 1 (nK 17 AfY<|Np) Tryz.func20<|?_;intro a;unfold Zd;exact B

def AbH (_a:Unit):List D:=[]
def Agg (_ds:List D):Unit:=()
theorem AnP (a:Unit):Agg (AbH a)=a:=rfl
instance:OZ AbH Agg:=⟨AnP⟩
theorem AnQ:Ns Tryz.prog 9 (fS .ground AbH (λ_a=>AcT) NH):=by
 refine fn2 0 (nK 20 Agb<|Np) Tryz.func9<|?_;intro _;unfold AcT;refine A 8 ?_;refine bS ([(Av.mk 23 0 0 0 0)]:List Av) NG r r r (by simp) r r r<|?_
 refine A 1 ?_;refine bS ([(Nm.mk 0 ([]) ([(Av.mk 23 0 0 0 0)]:List Av))]:List Nm) Nz r r r (by simp) r (by simp[YJ,Nz]<;>first|rfl|(rw[List.take_of_length_le (by simp)])) r<|?_
 exact B

def AbV (b:NQ):D:=Oh b
theorem AaT:Ns Tryz.prog 74 (fS .val UO (λa=>UD a.1 a.2) AbV):=by
 refine fn2 2 (nK 133 AhE<|nK 134 Aoi<|nK 135 Amy<|nK 136 Aps<|nK 33 AhR<|nK 137 Ann<|nK 82 AdV<|nK 138 Anr<|nK 35 AdX<|nK 32 AhD<|nK 139 Ant<|Np) Tryz.func74<|?_;rintro⟨h,i⟩;unfold UD;refine Ab 11 λj k=>?_
 refine Ab 9 λc l=>?_
 refine Ab 11 λm o=>?_
 refine Ab 12 λd p=>?_
 refine Ab 14 λe q=>?_
 refine Ab 11 λs t=>?_
 refine Ab 12 λf u=>?_
 refine Ab 10 λv x=>?_
 refine Ab 15 λz aa=>?_
 refine Ab 1 λab ac=>?_
 refine Ac 15 ?_ ?_
 ·refine A 8 ?_;refine TN (b:=(NQ.mk c (NF.mk d e) f (ND.mk 0 0 ([])))) r ?_ r r ?_ (by first|rfl|(simp only[Nv];rfl)|(simp only[Ny];rfl)|(simp only[Nv,Ny];rfl)|(simp[AbV,Oh];try rfl))
  all_goals first|(simp;done)|(simp;omega)|rfl|(simp[OQ,OJ];done)|(simp[cells];done)
 ·refine Ab 7 λad ae=>?_
  refine Ab 3 λaf ag=>?_
  refine Ab 2 λg ah=>?_
  refine A 15 ?_;refine TN (b:=(NQ.mk c (NF.mk d e) f g.1)) r ?_ r r ?_ (by first|rfl|(simp only[Nv];rfl)|(simp only[Ny];rfl)|(simp only[Nv,Ny];rfl)|(simp[AbV,Oh];try rfl))
  all_goals first|(simp;done)|(simp;omega)|rfl|(simp[OQ,OJ];done)|(simp[cells];done)

abbrev Abb:=en3 Om Pz Lo
abbrev Aba:=de3 Rn Rp uI
def Acg (b:NF×Mk):D:=Xo b.1
def Ajm (b:NF×Mk):List D:=[Om b.2]
theorem Aiw:Ns Tryz.prog 146 (NU [(0,(2,114))] .val Abb Aba (λa=>UM a.1 a.2.1 a.2.2) Acg Ajm):=by
 refine fn2 3 (nK 74 AaT<|nK 22 OB<|nK 194 Adu<|nK 47 WY<|Np) Tryz.func146<|?_;rintro⟨c1,p2,i3⟩;unfold UM;refine Ab 11 λe ak=>?_
 refine Ab 10 λh ao=>?_
 refine A 10 ?_;refine cK λhq=>aP (([]:List Int)) (h.Rename.To) Lo r r r r r r r (by simp) r r r (by simp) r (λ_=>r) r hq<|?_
 refine A 2 ?_;refine cK λhq=>aP (([]:List Bool)) (h.Rename.Keep) D.bool r r r r r r r (by simp) r r r (by simp) r (λ_=>r) r hq<|?_
 refine A 5 ?_;refine sC (E:=λ(_s:(List Int)×Int×(List Int)×(List Bool)) (g:Nat×Nat×Nat×Nat×Nat)=>[(0,.optr 8192 0 0 0),oP 6 g.1,oP 7 g.2.1,oP 9 g.2.2.1]) (O:=λs g=>[(6,dV g.1 2 48 (.agg [.nils,.nils])),(7,dV g.2.1 3 36 (Nz e)),(9,dV g.2.2.1 2 48 (.agg [.osl 29 g.2.2.2.1 0 s.2.2.1.length,.osl 32 g.2.2.2.2 0 s.2.2.2.length])),(29,dW g.2.2.2.1 1 3 (s.2.2.1.map Lo)),(32,dW g.2.2.2.2 1 4 (s.2.2.2.map D.bool)),(8192,dV 0 2 114 (.agg [.sl (s.1.map eU8),Nn s.2.1]))]) (j:=λs=>SX e s.1 s.2.1 s.2.2.1 s.2.2.2) ?_ ?_
 ·refine Ab 3 λl ap=>?_
  refine Ac 4 ?_ ?_
  ·refine A 7 ?_;refine lP (E:=λ(s:(List Int)×Int) (g:Nat×Nat×Nat×Nat×Nat)=>[(0,.optr 8192 0 0 0),oP 6 g.1,oP 7 g.2.1,oP 9 g.2.2.1,oI 10 s.2]) (O:=λs g=>[(6,dV g.1 2 48 (.agg [.nils,.nils])),(7,dV g.2.1 3 36 (Nz e)),(9,dV g.2.2.1 2 48 (.agg [.osl 29 g.2.2.2.1 0 s.1.length,.osl 32 g.2.2.2.2 0 ((([]:List Bool)++h.Rename.Keep).length)])),(29,dW g.2.2.2.1 1 3 (s.1.map Lo)),(32,dW g.2.2.2.2 1 4 ((([]:List Bool)++h.Rename.Keep).map D.bool)),(8192,dV 0 2 114 (.agg [.sl (l.2.list.map eU8),Nn l.2.at_]))]) (_,_,_,_,_) hX<|?_
   rintro⟨i,o⟩ ⟨aq,ar,au,av,aw⟩ nn;dsimp only[Aby];refine Ac 10 ?_ ?_
   ·refine Ab 10 λax ay=>?_
    refine A 9 ?_;exact xL (s:=(i.set o.toNat o,i64.wrap (o+1))) (_,_,_,_,_) ((hE ⟨rfl,r,r,r,r,trivial⟩ ⟨rfl,r,(Eq.trans (b:=dV _ 2 48 (.agg [.osl 29 _ 0 i.length,.osl 32 _ 0 ((([]:List Bool)++h.Rename.Keep).length)])) r (by simp)),r,r,r,trivial⟩))
   ·refine A 11 ?_;refine lP (E:=λ(s:(List Bool)×Int) (g:Nat×Nat×Nat×Nat×Nat)=>[(0,.optr 8192 0 0 0),oP 6 g.1,oP 7 g.2.1,oP 9 g.2.2.1,oI 11 s.2]) (O:=λs g=>[(6,dV g.1 2 48 (.agg [.nils,.nils])),(7,dV g.2.1 3 36 (Nz e)),(9,dV g.2.2.1 2 48 (.agg [.osl 29 g.2.2.2.1 0 i.length,.osl 32 g.2.2.2.2 0 s.1.length])),(29,dW g.2.2.2.1 1 3 (i.map Lo)),(32,dW g.2.2.2.2 1 4 (s.1.map D.bool)),(8192,dV 0 2 114 (.agg [.sl (l.2.list.map eU8),Nn l.2.at_]))]) (_,_,_,_,_) hX<|?_
    rintro⟨q,t⟩ ⟨az,ba,bb,bc,bd⟩ nn;dsimp only[Abz];refine Ac 10 ?_ ?_
    ·refine Ab 9 λbf bg=>?_
     refine A 9 ?_;exact xL (s:=(q.set t.toNat true,i64.wrap (t+1))) (_,_,_,_,_) ((hE ⟨rfl,r,r,r,r,trivial⟩ ⟨rfl,r,(Eq.trans (b:=dV _ 2 48 (.agg [.osl 29 _ 0 i.length,.osl 32 _ 0 q.length])) r (by simp)),r,r,r,trivial⟩))
    ·exact B
  ·exact B
 ·rintro⟨c6,c7,x8,x9⟩ ⟨bl,bm,bn,bo,bp⟩ nn;dsimp only[SX];refine Ab 4 λbq br=>?_
  refine A 5 ?_;refine lP (E:=λ(s:(List Int)×Int×(List Int)×(List Bool)×Int) (g:Nat×Nat×Nat×Nat×Nat)=>[(0,.optr 8192 0 0 0),oP 6 g.1,oP 7 g.2.1,oP 9 g.2.2.1,oI 12 s.2.2.2.2]) (O:=λs g=>[(6,dV g.1 2 48 (.agg [.nils,.nils])),(7,dV g.2.1 3 36 (Nz e)),(9,dV g.2.2.1 2 48 (.agg [.osl 29 g.2.2.2.1 0 s.2.2.1.length,.osl 32 g.2.2.2.2 0 s.2.2.2.1.length])),(29,dW g.2.2.2.1 1 3 (s.2.2.1.map Lo)),(32,dW g.2.2.2.2 1 4 (s.2.2.2.1.map D.bool)),(8192,dV 0 2 114 (.agg [.sl (s.1.map eU8),Nn s.2.1]))]) (_,_,_,_,_) hX<|?_
  rintro⟨aa,ab,d,c,f⟩ ⟨bs,bt,bu,bv,bw⟩ nn;dsimp only[Abw];refine Ac 7 ?_ ?_
  ·refine A 2 ?_;refine bC (E:=λ(_s:(List Int)×Int×(List Int)×(List Bool)) (g:Nat×Nat×Nat×Nat×Nat)=>[(0,.optr 8192 0 0 0),oP 6 g.1,oP 7 g.2.1,oP 9 g.2.2.1,oI 12 f]) (O:=λs g=>[(6,dV g.1 2 48 (.agg [.nils,.nils])),(7,dV g.2.1 3 36 (Nz e)),(9,dV g.2.2.1 2 48 (.agg [.osl 29 g.2.2.2.1 0 s.2.2.1.length,.osl 32 g.2.2.2.2 0 s.2.2.2.length])),(29,dW g.2.2.2.1 1 3 (s.2.2.1.map Lo)),(32,dW g.2.2.2.2 1 4 (s.2.2.2.map D.bool)),(8192,dV 0 2 114 (.agg [.sl (s.1.map eU8),Nn s.2.1]))]) (j:=λs=>Pe f s.1 s.2.1 s.2.2.1 s.2.2.2) ?_ ?_
   ·refine Ab 6 λk bx=>?_
    refine Ab 7 λm bz=>?_
    refine A 4 ?_;refine sC (E:=λ(s:Bool) (g:Nat×Nat×Nat×Nat×Nat)=>[(0,.optr 8192 0 0 0),oP 6 g.1,oP 7 g.2.1,oP 9 g.2.2.1,oI 12 f,oI 13 k.1,oI 72 m.1,oB 73 s]) (O:=λ_ g=>[(6,dV g.1 2 48 (.agg [.nils,.nils])),(7,dV g.2.1 3 36 (Nz e)),(9,dV g.2.2.1 2 48 (.agg [.osl 29 g.2.2.2.1 0 d.length,.osl 32 g.2.2.2.2 0 c.length])),(29,dW g.2.2.2.1 1 3 (d.map Lo)),(32,dW g.2.2.2.2 1 4 (c.map D.bool)),(8192,dV 0 2 114 (.agg [.sl (m.2.list.map eU8),Nn m.2.at_]))]) (j:=λs=>SY e k c f d m s) ?_ ?_
    ·exact B
    ·rintro ca ⟨cb,cc,cd,ce,cf⟩ nn;dsimp only[SY];refine cD r ?_ ?_
     ·refine Ab 5 λch ci=>?_
      refine A 6 ?_;refine sC (E:=λ(s:(List Int)×Int×Bool) (g:Nat×Nat×Nat×Nat×Nat)=>[(0,.optr 8192 0 0 0),oP 6 g.1,oP 7 g.2.1,oP 9 g.2.2.1,oI 12 f,oI 13 k.1,oB 92 s.2.2]) (O:=λs g=>[(6,dV g.1 2 48 (.agg [.nils,.nils])),(7,dV g.2.1 3 36 (Nz e)),(9,dV g.2.2.1 2 48 (.agg [.osl 29 g.2.2.2.1 0 d.length,.osl 32 g.2.2.2.2 0 c.length])),(29,dW g.2.2.2.1 1 3 (d.map Lo)),(32,dW g.2.2.2.2 1 4 (c.map D.bool)),(8192,dV 0 2 114 (.agg [.sl (s.1.map eU8),Nn s.2.1]))]) (j:=λs=>RO k c f d s.1 s.2.1 s.2.2) ?_ ?_
      ·exact B
      ·rintro⟨ac,ad,cj⟩ ⟨ck,cl,cm,cn,co⟩ nn;dsimp only[RO];refine cD r ?_ ?_
       ·refine Ab 8 λae cp=>?_
        refine Ab 3 λcq cr=>?_
        refine A 3 ?_;exact Uz (s:=(ac,ad,d,c.set k.1.toNat (!ae))) (_,_,_,_,_) ((hE ⟨rfl,r,r,r,r,trivial⟩ ⟨rfl,r,(Eq.trans (b:=dV _ 2 48 (.agg [.osl 29 _ 0 d.length,.osl 32 _ 0 c.length])) r (by simp)),r,r,r,trivial⟩))
       ·exact B
     ·refine Ac 6 ?_ ?_
      ·refine Ac 8 ?_ ?_
       ·refine Ab 6 λaf cs=>?_
        refine Ab 11 λu ct=>?_
        refine Ab 2 λv cu=>?_
        refine A 10 ?_;refine lP (E:=λ(s:(List Int)×Int) (g:Nat×Nat×Nat×Nat×Nat)=>[(0,.optr 8192 0 0 0),oP 6 g.1,oP 7 g.2.1,oP 9 g.2.2.1,oI 12 f,oI 15 af.1,oI 16 v,oI 17 s.2]) (O:=λs g=>[(6,dV g.1 2 48 (.agg [.nils,.nils])),(7,dV g.2.1 3 36 (Nz e)),(9,dV g.2.2.1 2 48 (.agg [.osl 29 g.2.2.2.1 0 s.1.length,.osl 32 g.2.2.2.2 0 c.length])),(29,dW g.2.2.2.1 1 3 (s.1.map Lo)),(32,dW g.2.2.2.2 1 4 (c.map D.bool)),(8192,dV 0 2 114 (.agg [.sl (u.2.list.map eU8),Nn u.2.at_]))]) (_,_,_,_,_) hX<|?_
        rintro⟨x,z⟩ ⟨cv,cw,cx,cy,cz⟩ nn;dsimp only[Abx];refine Ac 10 ?_ ?_
        ·refine Ab 10 λda db=>?_
         refine Ac 5 ?_ ?_
         ·refine Ab 6 λdc dd=>?_
          refine A 9 ?_;exact xL (s:=(x.set z.toNat v,i64.wrap (z+1))) (_,_,_,_,_) ((hE ⟨rfl,r,r,r,r,r,r,r,trivial⟩ ⟨rfl,r,(Eq.trans (b:=dV _ 2 48 (.agg [.osl 29 _ 0 x.length,.osl 32 _ 0 c.length])) r (by simp)),r,r,r,trivial⟩))
         ·exact B
        ·exact B
       ·exact B
      ·refine Ac 6 ?_ ?_
       ·refine sC (E:=λ(s:(List Int)×Int×Bool) (g:Nat×Nat×Nat×Nat×Nat)=>[(0,.optr 8192 0 0 0),oP 6 g.1,oP 7 g.2.1,oP 9 g.2.2.1,oI 12 f,oB 151 s.2.2]) (O:=λs g=>[(6,dV g.1 2 48 (.agg [.nils,.nils])),(7,dV g.2.1 3 36 (Nz e)),(9,dV g.2.2.1 2 48 (.agg [.osl 29 g.2.2.2.1 0 d.length,.osl 32 g.2.2.2.2 0 c.length])),(29,dW g.2.2.2.1 1 3 (d.map Lo)),(32,dW g.2.2.2.2 1 4 (c.map D.bool)),(8192,dV 0 2 114 (.agg [.sl (s.1.map eU8),Nn s.2.1]))]) (j:=λs=>SZ e d f c s.1 s.2.1 s.2.2) ?_ ?_
        ·exact B
        ·rintro⟨de,df,dg⟩ ⟨dh,di,dj,dk,dl⟩ nn;dsimp only[SZ];refine cD r ?_ ?_
         ·refine Ab 7 λag dm=>?_
          refine Ab 2 λp dn=>?_
          refine Ab 2 λdp dq=>?_
          refine A 3 ?_;exact Uz (s:=(p.2.list,p.2.at_,d.set ag.1.toNat p.1,c)) (_,_,_,_,_) ((hE ⟨rfl,r,r,r,r,trivial⟩ ⟨rfl,r,(Eq.trans (b:=dV _ 2 48 (.agg [.osl 29 _ 0 d.length,.osl 32 _ 0 c.length])) r (by simp)),r,r,r,trivial⟩))
         ·exact B
       ·exact B
   ·rintro⟨dr,ds,dt,du⟩ ⟨dv,dw,dx,dy,dz⟩ nn;dsimp only[Pe];exact B
  ·refine A 12 ?_;refine TN (b:=((NF.mk d c),(Mk.mk aa ab))) r ?_ r r ?_ (by first|rfl|(simp only[Nv];rfl)|(simp only[Ny];rfl)|(simp only[Nv,Ny];rfl)|(simp[Acg,Xo];try rfl))
   all_goals first|(simp;done)|(simp;omega)|rfl|(simp[OQ,OJ];done)|(simp[cells];done)

abbrev Ahj:=en4 Om Pz Lo Lo
abbrev Ahi:=de4 Rn Rp uI uI
def Acd (b:ND×Mk):D:=Py b.1
def Ajj (b:ND×Mk):List D:=[Om b.2]
theorem Aiu:Ns Tryz.prog 147 (NU [(0,(2,114))] .val Ahj Ahi (λa=>UL a.1 a.2.1 a.2.2.1 a.2.2.2) Acd Ajj):=by
 refine fn2 4 (nK 34 AlC<|nK 22 OB<|nK 74 AaT<|nK 47 WY<|Np) Tryz.func147<|?_;rintro⟨v,x,z,aa⟩;unfold UL;refine Ab 11 λr5 ac=>?_
 refine A 9 ?_;refine sC (E:=λ(_s:(List Int)×Int×Int×Int×(List Int)) (g:Nat×Nat)=>[(0,.optr 8192 0 0 0),oP 8 g.1,oP 9 g.2]) (O:=λs g=>[(8,dV g.1 3 39 (.agg [Nn 0,Nn 0,.nils])),(9,dV g.2 3 39 (.agg [Nn s.2.2.1,Nn s.2.2.2.1,.sl (s.2.2.2.2.map Lo)])),(8192,dV 0 2 114 (.agg [.sl (s.1.map eU8),Nn s.2.1]))]) (j:=λs=>QY s.1 s.2.1 s.2.2.1 s.2.2.2.1 s.2.2.2.2) ?_ ?_
 ·exact B
 ·rintro⟨c6,c7,y8,y9,p⟩ ⟨ah,ai⟩ nn;dsimp only[QY];refine A 4 ?_;refine cK λhq=>aP (([]:List Int)) (p) Lo r r r r r r r (by simp) r r r (by simp) r (λ_=>r) r hq<|?_
  refine Ab 8 λaj ak=>?_
  refine A 5 ?_;refine lP (E:=λ(s:(List Int)×Int×(List Int)×Int×Int×Int) (g:Nat×Nat×Nat)=>[(0,.optr 8192 0 0 0),oP 8 g.1,oP 9 g.2.1,oI 12 s.2.2.2.2.2]) (O:=λs g=>[(8,dV g.1 3 39 (.agg [Nn 0,Nn 0,.nils])),(9,dV g.2.1 3 39 (.agg [Nn s.2.2.2.1,Nn s.2.2.2.2.1,.osl 39 g.2.2 0 s.2.2.1.length])),(39,dW g.2.2 1 3 (s.2.2.1.map Lo)),(8192,dV 0 2 114 (.agg [.sl (s.1.map eU8),Nn s.2.1]))]) (_,_,_) hX<|?_
  rintro⟨q,t,c,d,e,f⟩ ⟨ao,ap,aq⟩ nn;dsimp only[XP];refine Ac 7 ?_ ?_
  ·refine Ab 11 λh ar=>?_
   refine Ab 7 λi au=>?_
   refine A 4 ?_;refine sC (E:=λ(s:Bool) (g:Nat×Nat×Nat)=>[(0,.optr 8192 0 0 0),oP 8 g.1,oP 9 g.2.1,oI 12 f,oI 13 h.1,oI 54 i.1,oB 55 s]) (O:=λ_ g=>[(8,dV g.1 3 39 (.agg [Nn 0,Nn 0,.nils])),(9,dV g.2.1 3 39 (.agg [Nn d,Nn e,.osl 39 g.2.2 0 c.length])),(39,dW g.2.2 1 3 (c.map Lo)),(8192,dV 0 2 114 (.agg [.sl (i.2.list.map eU8),Nn i.2.at_]))]) (j:=λs=>RN h c i d e f s) ?_ ?_
   ·exact B
   ·rintro av ⟨aw,ax,ay⟩ nn;dsimp only[RN];refine cD r ?_ ?_
    ·refine Ac 9 ?_ ?_
     ·refine Ab 7 λl az=>?_
      refine Ab 4 λba bb=>?_
      refine A 10 ?_;exact xL (s:=(l.2.list,l.2.at_,c.set h.1.toNat (i64.wrap (d+(i64.wrap (8*l.1)))),d,e,i64.wrap (f-1))) (_,_,_) ((hE ⟨rfl,r,r,r,trivial⟩ ⟨rfl,(Eq.trans (b:=dV _ 3 39 (.agg [Nn d,Nn e,.osl 39 _ 0 c.length])) r (by simp)),r,r,trivial⟩))
     ·exact B
    ·refine sC (E:=λ(s:Bool) (g:Nat×Nat×Nat)=>[(0,.optr 8192 0 0 0),oP 8 g.1,oP 9 g.2.1,oI 12 f,oI 13 h.1,oI 54 i.1,oB 74 s]) (O:=λ_ g=>[(8,dV g.1 3 39 (.agg [Nn 0,Nn 0,.nils])),(9,dV g.2.1 3 39 (.agg [Nn d,Nn e,.osl 39 g.2.2 0 c.length])),(39,dW g.2.2 1 3 (c.map Lo)),(8192,dV 0 2 114 (.agg [.sl (i.2.list.map eU8),Nn i.2.at_]))]) (j:=λs=>SV h c i d e f s) ?_ ?_
     ·exact B
     ·rintro bc ⟨bd,bf,bg⟩ nn;dsimp only[SV];refine cD r ?_ ?_
      ·refine Ac 9 ?_ ?_
       ·refine Ab 10 λo bh=>?_
        refine Ab 2 λu bi=>?_
        refine Ab 2 λbj bk=>?_
        refine A 10 ?_;exact xL (s:=(o.2.list,o.2.at_,c.set h.1.toNat u,d,e,i64.wrap (f-1))) (_,_,_) ((hE ⟨rfl,r,r,r,trivial⟩ ⟨rfl,(Eq.trans (b:=dV _ 3 39 (.agg [Nn d,Nn e,.osl 39 _ 0 c.length])) r (by simp)),r,r,trivial⟩))
       ·exact B
      ·refine Ac 6 ?_ ?_
       ·exact B
       ·refine Ac 6 ?_ ?_
        ·refine sC (E:=λ(s:(List Int)×Int×Bool) (g:Nat×Nat×Nat)=>[(0,.optr 8192 0 0 0),oP 8 g.1,oP 9 g.2.1,oI 12 f,oI 13 h.1,oB 116 s.2.2]) (O:=λs g=>[(8,dV g.1 3 39 (.agg [Nn 0,Nn 0,.nils])),(9,dV g.2.1 3 39 (.agg [Nn d,Nn e,.osl 39 g.2.2 0 c.length])),(39,dW g.2.2 1 3 (c.map Lo)),(8192,dV 0 2 114 (.agg [.sl (s.1.map eU8),Nn s.2.1]))]) (j:=λs=>SW h c d e f s.1 s.2.1 s.2.2) ?_ ?_
         ·exact B
         ·rintro⟨bl,bm,bn⟩ ⟨bo,bp,bq⟩ nn;dsimp only[SW];refine cD r ?_ ?_
          ·refine Ab 5 λm br=>?_
           refine Ab 2 λbs bt=>?_
           refine A 10 ?_;exact xL (s:=(m.2.list,m.2.at_,c.set h.1.toNat m.1,d,e,i64.wrap (f-1))) (_,_,_) ((hE ⟨rfl,r,r,r,trivial⟩ ⟨rfl,(Eq.trans (b:=dV _ 3 39 (.agg [Nn d,Nn e,.osl 39 _ 0 c.length])) r (by simp)),r,r,trivial⟩))
          ·exact B
        ·refine Ac 6 ?_ ?_
         ·refine Ab 3 λbu bv=>?_
          refine Ac 10 ?_ ?_
          ·exact B
          ·refine Ac 6 ?_ ?_
           ·exact B
           ·refine Ac 6 ?_ ?_
            ·refine Ab 4 λk bw=>?_
             refine A 15 ?_;exact xL (s:=(k.2.list,k.2.at_,c++([k.1]:List Int),d,e,i64.wrap (f-1))) (_,_,_) ((WJ (E1:=[(0,.optr 8192 0 0 0),oP 8 _,oP 9 _,(12,Nn (i64.wrap (f-1)))]) (O1:=[(8,dV _ 3 39 (.agg [Nn 0,Nn 0,.nils])),(9,dV _ 3 39 (.agg [Nn d,Nn e,.osl 144 _ 0 ((c++([k.1]:List Int)).length)])),(144,dW _ 1 3 ((c++([k.1]:List Int)).map Lo)),(8192,dV 0 2 114 (.agg [.sl (k.2.list.map eU8),Nn k.2.at_]))]) hX (λ_=>PK (λg=>bif Nat.beq g 144 then 39 else g) (by kernel_rfl) hX)))
            ·exact B
         ·exact B
  ·refine A 12 ?_;refine TN (b:=((ND.mk d e c),(Mk.mk q t))) r ?_ r r ?_ (by first|rfl|(simp only[Nv];rfl)|(simp only[Ny];rfl)|(simp only[Nv,Ny];rfl)|(simp[Acd,Py];try rfl))
   all_goals first|(simp;done)|(simp;omega)|rfl|(simp[OQ,OJ];done)|(simp[cells];done)

def Ahm (b:NQ×Mk):D:=Oh b.1
def Ahl (b:NQ×Mk):List D:=[Om b.2]
theorem AgK:Ns Tryz.prog 86 (NU [(0,(2,114))] .val Abb Aba (λa=>VI a.1 a.2.1 a.2.2) Ahm Ahl):=by
 refine fn2 3 (nK 74 AaT<|nK 22 OB<|nK 145 AjO<|nK 146 Aiw<|nK 33 AhR<|nK 35 AdX<|nK 32 AhD<|nK 147 Aiu<|Np) Tryz.func86<|?_;rintro⟨m,c,d⟩;unfold VI;refine Ab 10 λb o=>?_
 refine Ab 9 λp q=>?_
 refine Ac 4 ?_ ?_
 ·exact B
 ·refine A 2 ?_;refine sC (E:=λ(_s:(List Int)×Int×(List (List Int))) (g:Nat×Nat×Nat)=>[(0,.optr 8192 0 0 0),oI 2 d,oP 4 g.1,oP 6 g.2.1,oP 7 g.2.2]) (O:=λs g=>[(4,dV g.1 1 28 (.agg [.sl (c.Funcs.map Nz)])),(6,dV g.2.1 7 50 (.agg [.nils,.nils,.nils,.nils,Nn 0,Nn 0,.nils])),(7,dV g.2.2 7 50 (.agg [.sl (s.2.2.map (eL Lo)),.sl (b.Rename.To.map Lo),.sl (b.Rename.Keep.map D.bool),.sl (b.LiveAfter.Out.map (eL Lo)),Nn b.Layout.Args,Nn b.Layout.Size,.sl (b.Layout.Off.map Lo)])),(8192,dV 0 2 114 (.agg [.sl (s.1.map eU8),Nn s.2.1]))]) (j:=λs=>Sf c d b s.1 s.2.1 s.2.2) ?_ ?_
  ·exact B
  ·rintro⟨r,t,e⟩ ⟨u,v,x⟩ nn;dsimp only[Sf];refine sC (E:=λ(_s:(List Int)×Int×(List Int)×(List Bool)) (g:Nat×Nat×Nat)=>[(0,.optr 8192 0 0 0),oI 2 d,oP 4 g.1,oP 6 g.2.1,oP 7 g.2.2]) (O:=λs g=>[(4,dV g.1 1 28 (.agg [.sl (c.Funcs.map Nz)])),(6,dV g.2.1 7 50 (.agg [.nils,.nils,.nils,.nils,Nn 0,Nn 0,.nils])),(7,dV g.2.2 7 50 (.agg [.sl (e.map (eL Lo)),.sl (s.2.2.1.map Lo),.sl (s.2.2.2.map D.bool),.sl (b.LiveAfter.Out.map (eL Lo)),Nn b.Layout.Args,Nn b.Layout.Size,.sl (b.Layout.Off.map Lo)])),(8192,dV 0 2 114 (.agg [.sl (s.1.map eU8),Nn s.2.1]))]) (j:=λs=>Rh c d e b s.1 s.2.1 s.2.2.1 s.2.2.2) ?_ ?_
   ·exact B
   ·rintro⟨z,aa,f,h⟩ ⟨ab,ac,ad⟩ nn;dsimp only[Rh];refine Ab 5 λae af=>?_
    refine A 6 ?_;refine sC (E:=λ(_s:(List Int)×Int×Int×(List NA)×(List Av)) (g:Nat×Nat×Nat×Nat)=>[(0,.optr 8192 0 0 0),oI 2 d,oP 4 g.1,oP 6 g.2.1,oP 7 g.2.2.1,oP 8 g.2.2.2]) (O:=λs g=>[(4,dV g.1 1 28 (.agg [.sl (c.Funcs.map Nz)])),(6,dV g.2.1 7 50 (.agg [.nils,.nils,.nils,.nils,Nn 0,Nn 0,.nils])),(7,dV g.2.2.1 7 50 (.agg [.sl (e.map (eL Lo)),.sl (f.map Lo),.sl (h.map D.bool),.sl (b.LiveAfter.Out.map (eL Lo)),Nn b.Layout.Args,Nn b.Layout.Size,.sl (b.Layout.Off.map Lo)])),(8,dV g.2.2.2 3 36 (.agg [Nn s.2.2.1,.sl (s.2.2.2.1.map Oo),.sl (s.2.2.2.2.map NG)])),(8192,dV 0 2 114 (.agg [.sl (s.1.map eU8),Nn s.2.1]))]) (j:=λs=>Ri c d e f h b s.1 s.2.1 s.2.2.1 s.2.2.2.1 s.2.2.2.2) ?_ ?_
    ·exact B
    ·rintro⟨ag,ah,i,k,l⟩ ⟨ai,aj,ak,ao⟩ nn;dsimp only[Ri];refine sC (E:=λ(_s:(List Int)×Int×(List (List Int))) (g:Nat×Nat×Nat×Nat)=>[(0,.optr 8192 0 0 0),oI 2 d,oP 4 g.1,oP 6 g.2.1,oP 7 g.2.2.1,oP 8 g.2.2.2]) (O:=λs g=>[(4,dV g.1 1 28 (.agg [.sl (c.Funcs.map Nz)])),(6,dV g.2.1 7 50 (.agg [.nils,.nils,.nils,.nils,Nn 0,Nn 0,.nils])),(7,dV g.2.2.1 7 50 (.agg [.sl (e.map (eL Lo)),.sl (f.map Lo),.sl (h.map D.bool),.sl (s.2.2.map (eL Lo)),Nn b.Layout.Args,Nn b.Layout.Size,.sl (b.Layout.Off.map Lo)])),(8,dV g.2.2.2 3 36 (.agg [Nn i,.sl (k.map Oo),.sl (l.map NG)])),(8192,dV 0 2 114 (.agg [.sl (s.1.map eU8),Nn s.2.1]))]) (j:=λs=>Sg c d i k l e f h b s.1 s.2.1 s.2.2) ?_ ?_
     ·exact B
     ·rintro⟨ap,aq,ar⟩ ⟨au,av,aw,ax⟩ nn;dsimp only[Sg];exact B

def AgM (b:(List NQ)×Mk):D:=.sl (b.1.map Oh)
def AgL (b:(List NQ)×Mk):List D:=[Om b.2]
theorem AfB:Ns Tryz.prog 37 (NU [(0,(2,114))] (.row 7 50) Xl Xk (λa=>US a.1 a.2) AgM AgL):=by
 refine fn2 2 (nK 86 AgK<|nK 22 OB<|Np) Tryz.func37<|?_;rintro⟨d,b⟩;unfold US;refine A 18 ?_;refine lP (E:=λ(s:(List Int)×Int×(List NQ)×Int) (g:Nat×Nat)=>[(0,.optr 8192 0 0 0),oP 3 g.1,oT 5 g.2 s.2.2.1,oI 6 s.2.2.2]) (O:=λs g=>[(3,dV g.1 1 28 (.agg [.sl (b.Funcs.map Nz)])),(5,dW g.2 7 50 (s.2.2.1.map Oh)),(8192,dV 0 2 114 (.agg [.sl (s.1.map eU8),Nn s.2.1]))]) (_,_) hX<|?_
 rintro⟨e,f,h,i⟩ ⟨j,k⟩ nn;dsimp only[ZS];refine Ac 10 ?_ ?_
 ·refine Ab 9 λc l=>?_
  refine A 1 ?_;refine bS ([c.1]:List NQ) Oh r r r (by simp) r r r<|?_
  exact B
 ·exact B

def YK (a:(List Int)):List D:=[.sl (a.map eU8)]
def AbI (ds:List D):(List Int):=(uL uI) (ds.getD 0 .top)
theorem AnR (a:(List Int)):AbI (YK a)=a:=by simp[AbI,YK,Qe (u:=uI) (en:=eU8) (λ_=>rfl)]
instance:OZ YK AbI:=⟨AnR⟩
def AiN (b:Nq×(List NQ)×Mk):D:=.tup [Pz b.1,.sl (b.2.1.map Oh),Om b.2.2]
theorem AnS:Ns Tryz.prog 11 (fS (.tupPtr 2 2 114) YK (λa=>Aar a) AiN):=by
 refine fn2 1 (nK 29 Arp<|nK 30 Ahk<|nK 22 OB<|nK 36 Ait<|nK 37 AfB<|Np) Tryz.func11<|?_;intro e;unfold Aar;refine Ab 10 λf h=>?_
 refine Ab 7 λi k=>?_
 refine A 5 ?_;refine sC (E:=λ(_s:(List Nm)×(List Int)×Int) (g:Nat×Nat×Nat)=>[oP 2 g.1,(5,.optr 8 g.2.2 0 0),oP 6 g.2.1]) (O:=λs g=>[(2,dV g.1 1 28 (.agg [.nils])),(6,dV g.2.1 1 28 (.agg [.sl (s.1.map Nz)])),(8,dV g.2.2 2 114 (.agg [.sl (s.2.1.map eU8),Nn s.2.2]))]) (j:=λs=>Xs s.1 s.2.1 s.2.2) ?_ ?_
 ·exact B
 ·rintro⟨d,l,m⟩ ⟨o,p,q⟩ nn;dsimp only[Xs];refine Ab 5 λc t=>?_
  refine A 8 ?_;refine Ate (b:=((Nq.mk d),c.1,c.2)) (by decide) (by decide) r ?_ r ?_ r ?_ r ?_ (by first|rfl|(simp only[Nv];rfl)|(simp only[Ny];rfl)|(simp only[Nv,Ny];rfl)|(simp[AiN,Pz,Om];try rfl)) r ?_ r
  all_goals first|(simp;done)|(simp;omega)|rfl|(simp[OQ,OJ];done)|(simp[cells];done)

def Tx (a:(List Int)):List D:=[.sl (a.map eU8)]
def VQ (ds:List D):(List Int):=(uL uI) (ds.getD 0 .top)
theorem Aaq (a:(List Int)):VQ (Tx a)=a:=by simp[VQ,Tx,Qe (u:=uI) (en:=eU8) (λ_=>rfl)]
instance:OZ Tx VQ:=⟨Aaq⟩
theorem AgP:Ns Tryz.prog 5 (fS .ground Tx (λa=>VL a) NH):=by
 refine fn2 1 (nK 9 AnQ<|nK 11 AnS<|nK 22 OB<|nK 16 Alb<|nK 17 AfY<|nK 20 Agb<|nK 23 Aod<|nK 25 ArB<|nK 24 Apw<|Np) Tryz.func5<|?_;intro c;unfold VL;refine Ab 8 λe f=>?_
 refine Ac 4 ?_ ?_
 ·exact B
 ·refine A 5 ?_;refine bD λb d=>Anw (rs:=[Pz b.1,.sl (b.2.1.map Oh),Om b.2.2]) (z:=Om b.2.2) c r r r OZ.ok r r (by simp) r d r r<|?_
  refine A 10 ?_;refine sC (E:=λ(_s:(List Nm)) (g:Nat)=>[oP 3 g,oM 4 b.2.1 Oh]) (O:=λs g=>[(3,dV g 1 28 (.agg [.sl (s.map Nz)]))]) (j:=λs=>Rk b s) ?_ ?_
  ·exact B
  ·rintro h i nn;dsimp only[Rk];exact B

end Go.Proofs.YtcaoepecbgggcaaGreatDoor
