/-
 The code does what its typed programs say.
-/
import Derived.Test.YtcaoepecbgggcaaGreatDoorProg
import Derived.Test.YtcaoepecbgggcaaGreatDoorDc
import Derived.KernelRfl
import Derived.Test.YtcaoepecbgggcaaGreatDoorSh
import Derived.Test.YtcaoepecbgggcaaGreatDoorDxP
import Derived.Test.YtcaoepecbgggcaaGreatDoorDxF1
import Derived.Test.YtcaoepecbgggcaaGreatDoorDxF7
import Derived.Test.YtcaoepecbgggcaaGreatDoorDxF8
import Derived.Test.YtcaoepecbgggcaaGreatDoorDxF9
namespace Go.Proofs.YtcaoepecbgggcaaGreatDoor
open Go Go.Dw Go.Proofs
open Go.IntKind (i64)
set_option maxRecDepth 100000
set_option maxHeartbeats 40000000
open Go.Dw renaming Ql -> bD,Qo -> cK,YI -> bS,Aqd -> aP,YJ -> sE,AaX -> iO,UZ -> cD,Xt -> xC,Ui -> xL,AbZ -> hE,Xu -> lP,Tt -> sC,Wh -> bC,rf -> r
def Abc (a:BR×Mk):List D:=[Ow a.1,NM a.2]
def Abb (ds:List D):BR×Mk:=(RM (ds.getD 0 .top),Qz (ds.getD 1 .top))
instance:Oc Abc Abb:=⟨λa=>by simp[Abb,Abc]⟩
def YO (b:NT×BR):D:=QP b.1
def Aqo (b:NT×BR):List D:=[Ow b.2]
noncomputable def AjL:Dw.Spec:=NI [(0,(2,114))] .val Abc Abb (λa=>UM a.1 a.2) YO Aqo
theorem AoY:ND Tryz.prog 145 AjL:=by
 refine fn2 2 (NJ (l:=[(133,Ajz),(22,OL),(67,Aer),(206,AhR),(47,ZW)]) (by simp[Anf,OM,AgA,AlL,Ads])) Tryz.func145<|?_
 rintro⟨c1,a⟩;unfold UM;refine Ab 9 λt ao=>?_
 refine Ab 9 λr4 aq=>?_
 refine Ac 4 ?_ ?_
 ·exact B
 ·refine A 6 ?_;refine cK λhq=>aP (([]:List (List Int))) (t.Out) (eL NA) r r r r r r r (by simp) r r r (by simp) r (λ_=>r) r hq<|?_
  refine A 5 ?_;refine sC (E:=λ(_s:(List Int)×Int×(List (List Int))) (g:Nat×Nat×Nat)=>[(0,.optr 8192 0 0 0),(4,.optr 4 g.1 0 0),(6,.optr 6 g.2.1 0 0)]) (O:=λs g=>[(4,dV g.1 1 45 (.agg [.nils])),(6,dV g.2.1 1 45 (.agg [.osl 19 g.2.2 0 s.2.2.length])),(19,dW g.2.2 1 37 (s.2.2.map (eL NA))),(8192,dV 0 2 114 (.agg [.sl (s.1.map eU8),Av s.2.1]))]) (j:=λs=>SE s.1 s.2.1 s.2.2) ?_ ?_
  ·refine Ab 3 λp ar=>?_
   refine A 5 ?_;refine lP (E:=λ(s:(List Int)×Int×(List (List Int))×Int) (g:Nat×Nat×Nat×Nat)=>[(0,.optr 8192 0 0 0),(3,.optr 3 g.1 0 0),(4,.optr 4 g.2.1 0 0),(6,.optr 6 g.2.2.1 0 0),(7,Av s.2.2.2)]) (O:=λs g=>[(3,dV g.1 3 36 (NM a)),(4,dV g.2.1 1 45 (.agg [.nils])),(6,dV g.2.2.1 1 45 (.agg [.osl 19 g.2.2.2 0 s.2.2.1.length])),(19,dW g.2.2.2 1 37 (s.2.2.1.map (eL NA))),(8192,dV 0 2 114 (.agg [.sl (s.1.map eU8),Av s.2.1]))]) (body:=λs=>XD a s.1 s.2.1 s.2.2.1 s.2.2.2) (s:=(p.2.list,p.2.at_,([]:List (List Int))++t.Out,p.1)) (_,_,_,_) hX<|?_
   rintro⟨h,i,c,d⟩ ⟨au,av,aw,ax⟩ nn
   try dsimp only
   unfold XD;refine sC (E:=λ(_s:Unit) (g:Nat×Nat×Nat×Nat)=>[(0,.optr 8192 0 0 0),(3,.optr 3 g.1 0 0),(4,.optr 4 g.2.1 0 0),(6,.optr 6 g.2.2.1 0 0),(7,Av d),(26,.optr 3 g.1 0 1),(27,.sl (a.Slots.map Ox)),(28,Av (a.Slots.length:Int)),(29,.bool (decide ((a.Slots.length:Int)>0)))]) (O:=λ_ g=>[(3,dV g.1 3 36 (NM a)),(4,dV g.2.1 1 45 (.agg [.nils])),(6,dV g.2.2.1 1 45 (.agg [.osl 19 g.2.2.2 0 c.length])),(19,dW g.2.2.2 1 37 (c.map (eL NA))),(8192,dV 0 2 114 (.agg [.sl (h.map eU8),Av i]))]) (j:=λ_=>XF h i a d c) ?_ ?_
   ·refine A 5 ?_;refine NS r ?_ ?_
    ·refine Ac 7 ?_ ?_
     ·refine A 1 ?_;exact xC (s:=()) (_,_,_,_) hX
     ·refine A 4 ?_;exact xC (s:=(h,i,c)) (_,_,_) hX
    ·refine A 12 ?_;exact xC (s:=(h,i,c)) (_,_,_) hX
   ·rintro⟨⟩ ⟨ay,az,ba,bb⟩ nn
    try dsimp only
    unfold XF;refine bC (E:=λ(_s:(List Int)×Int×(List (List Int))) (g:Nat×Nat×Nat×Nat)=>[(0,.optr 8192 0 0 0),(3,.optr 3 g.1 0 0),(4,.optr 4 g.2.1 0 0),(6,.optr 6 g.2.2.1 0 0),(7,Av d),(26,.optr 3 g.1 0 1),(27,.sl (a.Slots.map Ox)),(28,Av (a.Slots.length:Int)),(29,.bool (decide ((a.Slots.length:Int)>0)))]) (O:=λs g=>[(3,dV g.1 3 36 (NM a)),(4,dV g.2.1 1 45 (.agg [.nils])),(6,dV g.2.2.1 1 45 (.agg [.osl 19 g.2.2.2 0 s.2.2.length])),(19,dW g.2.2.2 1 37 (s.2.2.map (eL NA))),(8192,dV 0 2 114 (.agg [.sl (s.1.map eU8),Av s.2.1]))]) (j:=λs=>RC d s.1 s.2.1 s.2.2) ?_ ?_
    ·refine Ab 6 λu bc=>?_
     refine Ab 8 λf bd=>?_
     refine Ac 4 ?_ ?_
     ·refine A 7 ?_;refine lP (E:=λ(s:(List (List Int))×Int) (g:Nat×Nat×Nat×Nat)=>[(0,.optr 8192 0 0 0),(3,.optr 3 g.1 0 0),(4,.optr 4 g.2.1 0 0),(6,.optr 6 g.2.2.1 0 0),(7,Av d),(8,Av u.1),(9,Av s.2),(26,.optr 3 g.1 0 1),(27,.sl (a.Slots.map Ox)),(28,Av (a.Slots.length:Int)),(29,.bool (decide ((a.Slots.length:Int)>0)))]) (O:=λs g=>[(3,dV g.1 3 36 (NM a)),(4,dV g.2.1 1 45 (.agg [.nils])),(6,dV g.2.2.1 1 45 (.agg [.osl 19 g.2.2.2 0 s.1.length])),(19,dW g.2.2.2 1 37 (s.1.map (eL NA))),(8192,dV 0 2 114 (.agg [.sl (f.2.list.map eU8),Av f.2.at_]))]) (body:=λs=>XE u d f s.1 s.2) (s:=(c,0)) (_,_,_,_) hX<|?_
      rintro⟨k,v⟩ ⟨bf,bg,bh,bi⟩ nn
      try dsimp only
      unfold XE;refine Ac 10 ?_ ?_
      ·refine Ab 12 λbj bk=>?_
       refine Ab 2 λx bl=>?_
       refine A 2 ?_;refine bD λbm ad=>sE (l:=k) (en:=(eL NA)) (q':=x) r r r r r r r (by simp) ad r r r (by simp[Pv,cells,eL]) r<|?_
       refine A 8 ?_;exact xL (s:=(k.set v.toNat x,i64.wrap (v+1))) (_,_,_,_) ((hE ⟨rfl,r,r,r,r,r,r,r,r,r,r,trivial⟩ ⟨rfl,r,(Eq.trans (b:=dV _ 1 45 (.agg [.osl 19 _ 0 k.length])) r (by simp)),r,r,trivial⟩))
      ·refine A 7 ?_;exact TC (s:=(f.2.list,f.2.at_,k)) (_,_,_,_) hX
     ·refine Ab 8 λz bn=>?_
      refine Ab 7 λm bo=>?_
      refine Ac 4 ?_ ?_
      ·refine Ab 8 λbp bq=>?_
       refine Ab 2 λaa br=>?_
       refine A 2 ?_;refine bD λbs ae=>sE (l:=c) (en:=(eL NA)) (q':=aa) r r r r r r r (by simp) ae r r r (by simp[Pv,cells,eL]) r<|?_
       refine A 1 ?_;exact Oj (s:=(m.2.list,m.2.at_,c.set z.1.toNat aa)) (_,_,_,_) ((hE ⟨rfl,r,r,r,r,r,r,r,r,trivial⟩ ⟨rfl,r,(Eq.trans (b:=dV _ 1 45 (.agg [.osl 19 _ 0 c.length])) r (by simp)),r,r,trivial⟩))
      ·refine Ab 8 λbt bu=>?_
       refine Ab 2 λab bv=>?_
       refine A 2 ?_;refine bD λbw af=>sE (l:=c) (en:=(eL NA)) (q':=ab) r r r r r r r (by simp) af r r r (by simp[Pv,cells,eL]) r<|?_
       refine A 1 ?_;exact Oj (s:=(m.2.list,m.2.at_,c.set z.1.toNat ab)) (_,_,_,_) ((hE ⟨rfl,r,r,r,r,r,r,r,r,trivial⟩ ⟨rfl,r,(Eq.trans (b:=dV _ 1 45 (.agg [.osl 19 _ 0 c.length])) r (by simp)),r,r,trivial⟩))
    ·rintro⟨ag,ah,ai⟩ ⟨bx,bz,ca,cb⟩ nn
     try dsimp only
     unfold RC;refine A 5 ?_;exact xL (s:=(ag,ah,ai,i64.wrap (d-1))) (_,_,_,_) hX
  ·rintro⟨c5,c6,e⟩ ⟨cd,ce,cf⟩ nn
   try dsimp only
   unfold SE;refine Ab 4 λr8 cg=>?_
   refine Ac 10 ?_ ?_
   ·refine A 3 ?_;refine cK λhq=>Aiu (l:=e) r r r r r r hq<|?_
    refine A 12 ?_;refine UX (b:=((NT.mk (e.drop ((1:Int).toNat))),r8.2)) r ?_ r r ?_ (by first|rfl|(simp only;rfl)|(simp only[NK];rfl)|(simp only[NH,NK];rfl)|(simp[YO,QP];try rfl))
    all_goals first|(simp;done)|(simp;omega)|rfl|(simp[OJ,OG];done)|(simp[cells];done)
   ·refine Ac 6 ?_ ?_
    ·refine Ab 4 λq ch=>?_
     refine Ab 2 λo ci=>?_
     refine A 1 ?_;refine bS ([q.1,o.1]:List Int) NA r r r (by simp) r r r<|cK λhq=>iO (l:=e) (en:=(eL NA)) r r r r r hq<|bD λcj aj=>sE (l:=e) (en:=(eL NA)) (q':=([q.1,o.1]:List Int)) r r r r r r r (by simp) aj r r r (by simp[Pv,cells,eL]) r<|?_
     refine A 10 ?_;refine UX (b:=((NT.mk (e.set ((0:Int).toNat) ([q.1,o.1]:List Int))),o.2)) r ?_ r r ?_ (by first|rfl|(simp only;rfl)|(simp only;rfl)|(simp only;rfl)|(simp[YO,QP];try rfl))
     all_goals first|(simp;done)|(simp;omega)|rfl|(simp[OJ,OG];done)|(simp[cells];done)
    ·refine A 10 ?_;refine UX (b:=((NT.mk e),r8.2)) r ?_ r r ?_ (by first|rfl|(simp only[NH];rfl)|(simp only[NK];rfl)|(simp only[NH,NK];rfl)|(simp[YO,QP];try rfl))
     all_goals first|(simp;done)|(simp;omega)|rfl|(simp[OJ,OG];done)|(simp[cells];done)

def UP (a:BR×NG×Int):List D:=[Ow a.1,Ps a.2.1,Av a.2.2]
def UO (ds:List D):BR×NG×Int:=(RM (ds.getD 0 .top),Rn (ds.getD 1 .top),uI (ds.getD 2 .top))
instance:Oc UP UO:=⟨λa=>by simp[UO,UP,uI]⟩
def Aho (b:NO×BR):D:=Xf b.1
def AoG (b:NO×BR):List D:=[Ow b.2]
noncomputable def Ahp:Dw.Spec:=NI [(0,(2,114))] .val UP UO (λa=>Vn a.1 a.2.1 a.2.2) Aho AoG
theorem AnO:ND Tryz.prog 146 Ahp:=by
 refine fn2 3 (NJ (l:=[(74,Abz),(22,OL),(194,Adv),(47,ZW)]) (by simp[Afs,OM,AiT,Ads])) Tryz.func146<|?_
 rintro⟨c1,p2,i3⟩;unfold Vn;refine Ab 11 λe az=>?_
 refine Ab 10 λh ba=>?_
 refine A 10 ?_;refine cK λhq=>aP (([]:List Int)) (h.Rename.To) NA r r r r r r r (by simp) r r r (by simp) r (λ_=>r) r hq<|?_
 refine A 2 ?_;refine cK λhq=>aP (([]:List Bool)) (h.Rename.Keep) D.bool r r r r r r r (by simp) r r r (by simp) r (λ_=>r) r hq<|?_
 refine A 5 ?_;refine sC (E:=λ(_s:(List Int)×Int×(List Int)×(List Bool)) (g:Nat×Nat×Nat×Nat×Nat)=>[(0,.optr 8192 0 0 0),(6,.optr 6 g.1 0 0),(7,.optr 7 g.2.1 0 0),(9,.optr 9 g.2.2.1 0 0)]) (O:=λs g=>[(6,dV g.1 2 48 (.agg [.nils,.nils])),(7,dV g.2.1 3 36 (NM e)),(9,dV g.2.2.1 2 48 (.agg [.osl 29 g.2.2.2.1 0 s.2.2.1.length,.osl 32 g.2.2.2.2 0 s.2.2.2.length])),(29,dW g.2.2.2.1 1 3 (s.2.2.1.map NA)),(32,dW g.2.2.2.2 1 4 (s.2.2.2.map D.bool)),(8192,dV 0 2 114 (.agg [.sl (s.1.map eU8),Av s.2.1]))]) (j:=λs=>Te e s.1 s.2.1 s.2.2.1 s.2.2.2) ?_ ?_
 ·refine Ab 3 λi bb=>?_
  refine Ac 4 ?_ ?_
  ·refine A 7 ?_;refine lP (E:=λ(s:(List Int)×Int) (g:Nat×Nat×Nat×Nat×Nat)=>[(0,.optr 8192 0 0 0),(6,.optr 6 g.1 0 0),(7,.optr 7 g.2.1 0 0),(9,.optr 9 g.2.2.1 0 0),(10,Av s.2)]) (O:=λs g=>[(6,dV g.1 2 48 (.agg [.nils,.nils])),(7,dV g.2.1 3 36 (NM e)),(9,dV g.2.2.1 2 48 (.agg [.osl 29 g.2.2.2.1 0 s.1.length,.osl 32 g.2.2.2.2 0 ((([]:List Bool)++h.Rename.Keep).length)])),(29,dW g.2.2.2.1 1 3 (s.1.map NA)),(32,dW g.2.2.2.2 1 4 ((([]:List Bool)++h.Rename.Keep).map D.bool)),(8192,dV 0 2 114 (.agg [.sl (i.2.list.map eU8),Av i.2.at_]))]) (body:=λs=>ZZ e i h s.1 s.2) (s:=(([]:List Int)++h.Rename.To,0)) (_,_,_,_,_) hX<|?_
   rintro⟨k,q⟩ ⟨bc,bd,bf,bg,bh⟩ nn
   try dsimp only
   unfold ZZ;refine Ac 10 ?_ ?_
   ·refine Ab 10 λbi bj=>?_
    refine A 9 ?_;exact xL (s:=(k.set q.toNat q,i64.wrap (q+1))) (_,_,_,_,_) ((hE ⟨rfl,r,r,r,r,trivial⟩ ⟨rfl,r,(Eq.trans (b:=dV _ 2 48 (.agg [.osl 29 _ 0 k.length,.osl 32 _ 0 ((([]:List Bool)++h.Rename.Keep).length)])) r (by simp)),r,r,r,trivial⟩))
   ·refine A 11 ?_;refine lP (E:=λ(s:(List Bool)×Int) (g:Nat×Nat×Nat×Nat×Nat)=>[(0,.optr 8192 0 0 0),(6,.optr 6 g.1 0 0),(7,.optr 7 g.2.1 0 0),(9,.optr 9 g.2.2.1 0 0),(11,Av s.2)]) (O:=λs g=>[(6,dV g.1 2 48 (.agg [.nils,.nils])),(7,dV g.2.1 3 36 (NM e)),(9,dV g.2.2.1 2 48 (.agg [.osl 29 g.2.2.2.1 0 k.length,.osl 32 g.2.2.2.2 0 s.1.length])),(29,dW g.2.2.2.1 1 3 (k.map NA)),(32,dW g.2.2.2.2 1 4 (s.1.map D.bool)),(8192,dV 0 2 114 (.agg [.sl (i.2.list.map eU8),Av i.2.at_]))]) (body:=λs=>Aaa e i k s.1 s.2) (s:=(([]:List Bool)++h.Rename.Keep,0)) (_,_,_,_,_) hX<|?_
    rintro⟨t,ac⟩ ⟨bk,bl,bm,bn,bo⟩ nn
    try dsimp only
    unfold Aaa;refine Ac 10 ?_ ?_
    ·refine Ab 9 λbp bq=>?_
     refine A 9 ?_;exact xL (s:=(t.set ac.toNat true,i64.wrap (ac+1))) (_,_,_,_,_) ((hE ⟨rfl,r,r,r,r,trivial⟩ ⟨rfl,r,(Eq.trans (b:=dV _ 2 48 (.agg [.osl 29 _ 0 k.length,.osl 32 _ 0 t.length])) r (by simp)),r,r,r,trivial⟩))
    ·refine A 4 ?_;exact xC (s:=(i.2.list,i.2.at_,k,t)) (_,_,_,_,_) hX
  ·refine A 1 ?_;exact xC (s:=(i.2.list,i.2.at_,([]:List Int)++h.Rename.To,([]:List Bool)++h.Rename.Keep)) (_,_,_,_,_) hX
 ·rintro⟨c6,c7,x8,x9⟩ ⟨bt,bu,bv,bw,bx⟩ nn
  try dsimp only
  unfold Te;refine Ab 4 λu bz=>?_
  refine A 5 ?_;refine lP (E:=λ(s:(List Int)×Int×(List Int)×(List Bool)×Int) (g:Nat×Nat×Nat×Nat×Nat)=>[(0,.optr 8192 0 0 0),(6,.optr 6 g.1 0 0),(7,.optr 7 g.2.1 0 0),(9,.optr 9 g.2.2.1 0 0),(12,Av s.2.2.2.2)]) (O:=λs g=>[(6,dV g.1 2 48 (.agg [.nils,.nils])),(7,dV g.2.1 3 36 (NM e)),(9,dV g.2.2.1 2 48 (.agg [.osl 29 g.2.2.2.1 0 s.2.2.1.length,.osl 32 g.2.2.2.2 0 s.2.2.2.1.length])),(29,dW g.2.2.2.1 1 3 (s.2.2.1.map NA)),(32,dW g.2.2.2.2 1 4 (s.2.2.2.1.map D.bool)),(8192,dV 0 2 114 (.agg [.sl (s.1.map eU8),Av s.2.1]))]) (body:=λs=>ZX e s.1 s.2.1 s.2.2.1 s.2.2.2.1 s.2.2.2.2) (s:=(u.2.list,u.2.at_,x8,x9,u.1)) (_,_,_,_,_) hX<|?_
  rintro⟨ai,aj,c,a,f⟩ ⟨ca,cb,cc,cd,ce⟩ nn
  try dsimp only
  unfold ZX;refine Ac 7 ?_ ?_
  ·refine A 2 ?_;refine bC (E:=λ(_s:(List Int)×Int×(List Int)×(List Bool)) (g:Nat×Nat×Nat×Nat×Nat)=>[(0,.optr 8192 0 0 0),(6,.optr 6 g.1 0 0),(7,.optr 7 g.2.1 0 0),(9,.optr 9 g.2.2.1 0 0),(12,Av f)]) (O:=λs g=>[(6,dV g.1 2 48 (.agg [.nils,.nils])),(7,dV g.2.1 3 36 (NM e)),(9,dV g.2.2.1 2 48 (.agg [.osl 29 g.2.2.2.1 0 s.2.2.1.length,.osl 32 g.2.2.2.2 0 s.2.2.2.length])),(29,dW g.2.2.2.1 1 3 (s.2.2.1.map NA)),(32,dW g.2.2.2.2 1 4 (s.2.2.2.map D.bool)),(8192,dV 0 2 114 (.agg [.sl (s.1.map eU8),Av s.2.1]))]) (j:=λs=>Pe f s.1 s.2.1 s.2.2.1 s.2.2.2) ?_ ?_
   ·refine Ab 6 λm cf=>?_
    refine Ab 7 λd cg=>?_
    refine A 4 ?_;refine sC (E:=λ(s:Bool) (g:Nat×Nat×Nat×Nat×Nat)=>[(0,.optr 8192 0 0 0),(6,.optr 6 g.1 0 0),(7,.optr 7 g.2.1 0 0),(9,.optr 9 g.2.2.1 0 0),(12,Av f),(13,Av m.1),(72,Av d.1),(73,.bool s)]) (O:=λ_ g=>[(6,dV g.1 2 48 (.agg [.nils,.nils])),(7,dV g.2.1 3 36 (NM e)),(9,dV g.2.2.1 2 48 (.agg [.osl 29 g.2.2.2.1 0 c.length,.osl 32 g.2.2.2.2 0 a.length])),(29,dW g.2.2.2.1 1 3 (c.map NA)),(32,dW g.2.2.2.2 1 4 (a.map D.bool)),(8192,dV 0 2 114 (.agg [.sl (d.2.list.map eU8),Av d.2.at_]))]) (j:=λs=>Tf e m a f c d s) ?_ ?_
    ·refine Ac 6 ?_ ?_
     ·refine A 1 ?_;exact xC (s:=(d.1==0)) (_,_,_,_,_) hX
     ·refine A 4 ?_;exact xC (s:=(d.1==1)) (_,_,_,_,_) hX
    ·rintro ch ⟨ci,cj,ck,cl,cm⟩ nn
     try dsimp only
     unfold Tf;refine cD r ?_ ?_
     ·refine Ab 5 λcn co=>?_
      refine A 6 ?_;refine sC (E:=λ(s:(List Int)×Int×Bool) (g:Nat×Nat×Nat×Nat×Nat)=>[(0,.optr 8192 0 0 0),(6,.optr 6 g.1 0 0),(7,.optr 7 g.2.1 0 0),(9,.optr 9 g.2.2.1 0 0),(12,Av f),(13,Av m.1),(92,.bool s.2.2)]) (O:=λs g=>[(6,dV g.1 2 48 (.agg [.nils,.nils])),(7,dV g.2.1 3 36 (NM e)),(9,dV g.2.2.1 2 48 (.agg [.osl 29 g.2.2.2.1 0 c.length,.osl 32 g.2.2.2.2 0 a.length])),(29,dW g.2.2.2.1 1 3 (c.map NA)),(32,dW g.2.2.2.2 1 4 (a.map D.bool)),(8192,dV 0 2 114 (.agg [.sl (s.1.map eU8),Av s.2.1]))]) (j:=λs=>RR m a f c s.1 s.2.1 s.2.2) ?_ ?_
      ·refine A 4 ?_;refine NS r ?_ ?_
       ·refine A 9 ?_;exact xC (s:=(d.2.list,d.2.at_,true)) (_,_,_,_,_) hX
       ·refine A 4 ?_;refine NS r ?_ ?_
        ·refine A 5 ?_;exact xC (s:=(d.2.list,d.2.at_,true)) (_,_,_,_,_) hX
        ·refine Ab 1 λv cp=>?_
         refine A 4 ?_;exact xC (s:=(v.2.list,v.2.at_,(v.1==7))) (_,_,_,_,_) hX
      ·rintro⟨ad,ae,cq⟩ ⟨cr,cs,ct,cu,cv⟩ nn
       try dsimp only
       unfold RR;refine cD r ?_ ?_
       ·refine Ab 8 λak cw=>?_
        refine Ab 3 λcx cy=>?_
        refine A 3 ?_;exact Oj (s:=(ad,ae,c,a.set m.1.toNat (!ak))) (_,_,_,_,_) ((hE ⟨rfl,r,r,r,r,trivial⟩ ⟨rfl,r,(Eq.trans (b:=dV _ 2 48 (.agg [.osl 29 _ 0 c.length,.osl 32 _ 0 a.length])) r (by simp)),r,r,r,trivial⟩))
       ·refine A 2 ?_;exact Oj (s:=(ad,ae,c,a)) (_,_,_,_,_) hX
     ·refine Ac 6 ?_ ?_
      ·refine Ac 8 ?_ ?_
       ·refine Ab 6 λaf cz=>?_
        refine Ab 11 λo da=>?_
        refine Ab 2 λx db=>?_
        refine A 10 ?_;refine lP (E:=λ(s:(List Int)×Int) (g:Nat×Nat×Nat×Nat×Nat)=>[(0,.optr 8192 0 0 0),(6,.optr 6 g.1 0 0),(7,.optr 7 g.2.1 0 0),(9,.optr 9 g.2.2.1 0 0),(12,Av f),(15,Av af.1),(16,Av x),(17,Av s.2)]) (O:=λs g=>[(6,dV g.1 2 48 (.agg [.nils,.nils])),(7,dV g.2.1 3 36 (NM e)),(9,dV g.2.2.1 2 48 (.agg [.osl 29 g.2.2.2.1 0 s.1.length,.osl 32 g.2.2.2.2 0 a.length])),(29,dW g.2.2.2.1 1 3 (s.1.map NA)),(32,dW g.2.2.2.2 1 4 (a.map D.bool)),(8192,dV 0 2 114 (.agg [.sl (o.2.list.map eU8),Av o.2.at_]))]) (body:=λs=>ZY af x f o a s.1 s.2) (s:=(c,0)) (_,_,_,_,_) hX<|?_
        rintro⟨p,z⟩ ⟨dc,dd,de,df,dg⟩ nn
        try dsimp only
        unfold ZY;refine Ac 10 ?_ ?_
        ·refine Ab 10 λdh di=>?_
         refine Ac 5 ?_ ?_
         ·refine Ab 6 λdj dk=>?_
          refine A 9 ?_;exact xL (s:=(p.set z.toNat x,i64.wrap (z+1))) (_,_,_,_,_) ((hE ⟨rfl,r,r,r,r,r,r,r,trivial⟩ ⟨rfl,r,(Eq.trans (b:=dV _ 2 48 (.agg [.osl 29 _ 0 p.length,.osl 32 _ 0 a.length])) r (by simp)),r,r,r,trivial⟩))
         ·refine A 8 ?_;exact xL (s:=(p,i64.wrap (z+1))) (_,_,_,_,_) hX
        ·refine A 5 ?_;exact Oj (s:=(o.2.list,o.2.at_,p,a)) (_,_,_,_,_) hX
       ·refine A 2 ?_;exact Oj (s:=(d.2.list,d.2.at_,c,a)) (_,_,_,_,_) hX
      ·refine Ac 6 ?_ ?_
       ·refine sC (E:=λ(s:(List Int)×Int×Bool) (g:Nat×Nat×Nat×Nat×Nat)=>[(0,.optr 8192 0 0 0),(6,.optr 6 g.1 0 0),(7,.optr 7 g.2.1 0 0),(9,.optr 9 g.2.2.1 0 0),(12,Av f),(151,.bool s.2.2)]) (O:=λs g=>[(6,dV g.1 2 48 (.agg [.nils,.nils])),(7,dV g.2.1 3 36 (NM e)),(9,dV g.2.2.1 2 48 (.agg [.osl 29 g.2.2.2.1 0 c.length,.osl 32 g.2.2.2.2 0 a.length])),(29,dW g.2.2.2.1 1 3 (c.map NA)),(32,dW g.2.2.2.2 1 4 (a.map D.bool)),(8192,dV 0 2 114 (.agg [.sl (s.1.map eU8),Av s.2.1]))]) (j:=λs=>Tg e c f a s.1 s.2.1 s.2.2) ?_ ?_
        ·refine A 6 ?_;refine NS r ?_ ?_
         ·refine Ab 1 λaa dl=>?_
          refine A 4 ?_;exact xC (s:=(aa.2.list,aa.2.at_,(aa.1==3))) (_,_,_,_,_) hX
         ·refine A 5 ?_;exact xC (s:=(d.2.list,d.2.at_,false)) (_,_,_,_,_) hX
        ·rintro⟨c37,ao,dm⟩ ⟨dn,dp,dq,dr,ds⟩ nn
         try dsimp only
         unfold Tg;refine cD r ?_ ?_
         ·refine Ab 7 λap dt=>?_
          refine Ab 2 λab du=>?_
          refine Ab 2 λdv dw=>?_
          refine A 3 ?_;exact Oj (s:=(ab.2.list,ab.2.at_,c.set ap.1.toNat ab.1,a)) (_,_,_,_,_) ((hE ⟨rfl,r,r,r,r,trivial⟩ ⟨rfl,r,(Eq.trans (b:=dV _ 2 48 (.agg [.osl 29 _ 0 c.length,.osl 32 _ 0 a.length])) r (by simp)),r,r,r,trivial⟩))
         ·refine A 2 ?_;exact Oj (s:=(c37,ao,c,a)) (_,_,_,_,_) hX
       ·refine A 2 ?_;exact Oj (s:=(d.2.list,d.2.at_,c,a)) (_,_,_,_,_) hX
   ·rintro⟨aq,ar,au,av⟩ ⟨dx,dy,dz,ea,eb⟩ nn
    try dsimp only
    unfold Pe;refine A 5 ?_;exact xL (s:=(aq,ar,au,av,i64.wrap (f-1))) (_,_,_,_,_) hX
  ·refine A 12 ?_;refine UX (b:=((NO.mk c a),(BR.mk ai aj))) r ?_ r r ?_ (by first|rfl|(simp only[NH];rfl)|(simp only[NK];rfl)|(simp only[NH,NK];rfl)|(simp[Aho,Xf];try rfl))
   all_goals first|(simp;done)|(simp;omega)|rfl|(simp[OJ,OG];done)|(simp[cells];done)

noncomputable def Aar:Dw.Spec:=NI [] .val YW YV (λa=>SM a.1 a.2.1 a.2.2) PJ noE
theorem AdR:ND Tryz.prog 34 Aar:=by
 refine fn2 3 (NJ (l:=[(82,Acq),(83,AjY)]) (by simp[AeU,Amo])) Tryz.func34<|?_
 rintro⟨o,p,i⟩;unfold SM;refine Ab 11 λd q=>?_
 refine Ab 18 λe t=>?_
 refine A 13 ?_;refine lP (E:=λ(s:(List Int)×Int×Int) (g:Nat×Nat×Nat×Nat)=>[(2,Av i),(6,.optr 6 g.1 0 0),(8,.optr 8 g.2.1 0 0),(9,Av s.2.2),(10,.sl (e.Slots.map Ox)),(11,Av s.2.1)]) (O:=λs g=>[(6,dV g.1 3 39 (.agg [Av 0,Av 0,.osl 900 g.2.2.1 0 (([]:List Int).length)])),(8,dV g.2.1 3 39 (.agg [Av d,Av 0,.osl 901 g.2.2.2 0 s.1.length])),(900,dW g.2.2.1 1 3 (([]:List Int).map NA)),(901,dW g.2.2.2 1 3 (s.1.map NA))]) (body:=λs=>AdP e i d s.1 s.2.1 s.2.2) (s:=(([]:List Int),0,d)) (_,_,_,_) ((Aca (gg:=6) (off:=2) (tt:=900) (s:=1) (tyy:=3) r r r r (Aca (gg:=8) (off:=2) (tt:=901) (s:=1) (tyy:=3) r r r r hX)))<|?_
 rintro⟨c,f,u⟩ ⟨v,x,z,aa⟩ nn
 try dsimp only
 unfold AdP;refine Ac 9 ?_ ?_
 ·refine Ab 9 λab ac=>?_
  refine Ab 3 λa ad=>?_
  refine A 8 ?_;refine sC (E:=λ(s:NQ×NQ×Int×Int×Bool) (g:Nat×Nat×Nat×Nat)=>[(2,Av i),(6,.optr 6 g.1 0 0),(8,.optr 8 g.2.1 0 0),(10,.sl (e.Slots.map Ox)),(11,Av f),(12,Av a.1),(48,Av a.1),(49,.sl (e.Slots.map Ox)),(50,Av f),(51,.fptr (.agg [Av s.1.Size,Av s.1.Align]) 0),(52,.fptr (.agg [Av s.2.1.Size,Av s.2.1.Align]) 0),(53,Av s.2.2.1),(54,Av s.2.2.2.1),(55,.bool s.2.2.2.2)]) (O:=λ_ g=>[(6,dV g.1 3 39 (.agg [Av 0,Av 0,.osl 900 g.2.2.1 0 (([]:List Int).length)])),(8,dV g.2.1 3 39 (.agg [Av d,Av 0,.osl 901 g.2.2.2 0 c.length])),(900,dW g.2.2.1 1 3 (([]:List Int).map NA)),(901,dW g.2.2.2 1 3 (c.map NA))]) (j:=λs=>AdQ c a e f s.1 s.2.1 s.2.2.1 s.2.2.2.1 s.2.2.2.2) ?_ ?_
  ·refine A 5 ?_;refine NS r ?_ ?_
   ·refine A 26 ?_;refine Pd (b:=((NN.mk 0 0 ([])),9)) r ?_ r r ?_ (by first|rfl|(simp only[NH];rfl)|(simp only[NK];rfl)|(simp only[NH,NK];rfl)|(simp[PJ,OB];try rfl)) (by decide)
    all_goals first|(simp;done)|(simp;omega)|rfl|(simp[OJ,OG];done)|(simp[cells];done)
   ·refine Ab 3 λh ae=>?_
    refine Ac 8 ?_ ?_
    ·refine A 14 ?_;refine Pd (b:=((NN.mk 0 0 ([])),9)) r ?_ r r ?_ (by first|rfl|(simp only[NH];rfl)|(simp only[NK];rfl)|(simp only[NH,NK];rfl)|(simp[PJ,OB];try rfl)) (by decide)
     all_goals first|(simp;done)|(simp;omega)|rfl|(simp[OJ,OG];done)|(simp[cells];done)
    ·refine A 1 ?_;exact xC (s:=(h,h,h.Size,i64.wrap (2147483519-h.Size),(decide (a.1>(i64.wrap (2147483519-h.Size)))))) (_,_,_,_) hX
  ·rintro⟨af,ag,ah,ai,aj⟩ ⟨ak,ao,ap,aq⟩ nn
   try dsimp only
   unfold AdQ;refine Ab 22 λk ar=>?_
   refine A 13 ?_;exact xL (s:=((([]:List Int)++c)++([a.1]:List Int),i64.wrap (f+1),i64.wrap (a.1+k.Size))) (_,_,_,_) ((Aae (E1:=[(2,Av i),(6,.optr 6 _ 0 0),(8,.optr 8 _ 0 0),(9,Av (i64.wrap (a.1+k.Size))),(10,.sl (e.Slots.map Ox)),(11,Av (i64.wrap (f+1)))]) (O1:=[(6,dV _ 3 39 (.agg [Av 0,Av 0,.osl 900 _ 0 (([]:List Int).length)])),(8,dV _ 3 39 (.agg [Av d,Av 0,.osl 14 _ 0 (((([]:List Int)++c)++([a.1]:List Int)).length)])),(14,dW _ 1 3 (((([]:List Int)++c)++([a.1]:List Int)).map NA)),(900,dW _ 1 3 (([]:List Int).map NA))]) hX (λ_=>PC (λg=>bif Nat.beq g 14 then 901 else g) (by kernel_rfl) hX)))
 ·refine Ab 9 λm au=>?_
  refine A 14 ?_;refine NS r ?_ ?_
  ·refine A 15 ?_;refine Pd (b:=((NN.mk 0 0 ([])),9)) r ?_ r r ?_ (by first|rfl|(simp only[NH];rfl)|(simp only[NK];rfl)|(simp only[NH,NK];rfl)|(simp[PJ,OB];try rfl)) (by decide)
   all_goals first|(simp;done)|(simp;omega)|rfl|(simp[OJ,OG];done)|(simp[cells];done)
  ·refine Ac 5 ?_ ?_
   ·refine A 9 ?_;refine Pd (b:=((NN.mk 0 0 ([])),9)) r ?_ r r ?_ (by first|rfl|(simp only[NH];rfl)|(simp only[NK];rfl)|(simp only[NH,NK];rfl)|(simp[PJ,OB];try rfl)) (by decide)
    all_goals first|(simp;done)|(simp;omega)|rfl|(simp[OJ,OG];done)|(simp[cells];done)
   ·refine A 17 ?_;refine Pd (b:=((NN.mk d m.1 c),0)) r ?_ r r ?_ (by first|rfl|(simp only[NH];rfl)|(simp only[NK];rfl)|(simp only[NH,NK];rfl)|(simp[PJ,OB];try rfl)) (by decide)
    all_goals first|(simp;done)|(simp;omega)|rfl|(simp[OJ,OG];done)|(simp[cells];done)

def Zj (a:BR×NG×Int×Int):List D:=[Ow a.1,Ps a.2.1,Av a.2.2.1,Av a.2.2.2]
def Zi (ds:List D):BR×NG×Int×Int:=(RM (ds.getD 0 .top),Rn (ds.getD 1 .top),uI (ds.getD 2 .top),uI (ds.getD 3 .top))
instance:Oc Zj Zi:=⟨λa=>by simp[Zi,Zj,uI]⟩
def Ahm (b:NN×BR):D:=OB b.1
def AoF (b:NN×BR):List D:=[Ow b.2]
noncomputable def Ahn:Dw.Spec:=NI [(0,(2,114))] .val Zj Zi (λa=>Vm a.1 a.2.1 a.2.2.1 a.2.2.2) Ahm AoF
theorem AnM:ND Tryz.prog 147 Ahn:=by
 refine fn2 4 (NJ (l:=[(34,Aar),(22,OL),(74,Abz),(47,ZW)]) (by simp[AdR,OM,Afs,Ads])) Tryz.func147<|?_
 rintro⟨c1,p2,i3,aq⟩;unfold Vm;refine Ab 11 λk ar=>?_
 refine A 9 ?_;refine sC (E:=λ(_s:(List Int)×Int×Int×Int×(List Int)) (g:Nat×Nat)=>[(0,.optr 8192 0 0 0),(8,.optr 8 g.1 0 0),(9,.optr 9 g.2 0 0)]) (O:=λs g=>[(8,dV g.1 3 39 (.agg [Av 0,Av 0,.nils])),(9,dV g.2 3 39 (.agg [Av s.2.2.1,Av s.2.2.2.1,.sl (s.2.2.2.2.map NA)])),(8192,dV 0 2 114 (.agg [.sl (s.1.map eU8),Av s.2.1]))]) (j:=λs=>QI s.1 s.2.1 s.2.2.1 s.2.2.2.1 s.2.2.2.2) ?_ ?_
 ·refine Ab 3 λm au=>?_
  refine Ac 4 ?_ ?_
  ·refine Ab 4 λo av=>?_
   refine Ac 17 ?_ ?_
   ·refine A 5 ?_;exact xC (s:=(m.2.list,m.2.at_,o.Layout.Args,o.Layout.Size,o.Layout.Off)) (_,_) hX
   ·refine A 1 ?_;exact xC (s:=(m.2.list,m.2.at_,k.1.Args,k.1.Size,k.1.Off)) (_,_) hX
  ·refine A 1 ?_;exact xC (s:=(m.2.list,m.2.at_,k.1.Args,k.1.Size,k.1.Off)) (_,_) hX
 ·rintro⟨c6,c7,y8,y9,aa⟩ ⟨ay,az⟩ nn
  try dsimp only
  unfold QI;refine A 4 ?_;refine cK λhq=>aP (([]:List Int)) (aa) NA r r r r r r r (by simp) r r r (by simp) r (λ_=>r) r hq<|?_
  refine Ab 8 λp ba=>?_
  refine A 5 ?_;refine lP (E:=λ(s:(List Int)×Int×(List Int)×Int×Int×Int) (g:Nat×Nat×Nat)=>[(0,.optr 8192 0 0 0),(8,.optr 8 g.1 0 0),(9,.optr 9 g.2.1 0 0),(12,Av s.2.2.2.2.2)]) (O:=λs g=>[(8,dV g.1 3 39 (.agg [Av 0,Av 0,.nils])),(9,dV g.2.1 3 39 (.agg [Av s.2.2.2.1,Av s.2.2.2.2.1,.osl 39 g.2.2 0 s.2.2.1.length])),(39,dW g.2.2 1 3 (s.2.2.1.map NA)),(8192,dV 0 2 114 (.agg [.sl (s.1.map eU8),Av s.2.1]))]) (body:=λs=>VB s.1 s.2.1 s.2.2.1 s.2.2.2.1 s.2.2.2.2.1 s.2.2.2.2.2) (s:=(p.2.list,p.2.at_,([]:List Int)++aa,y8,y9,p.1)) (_,_,_) hX<|?_
  rintro⟨af,ag,a,c,d,f⟩ ⟨bb,bc,bd⟩ nn
  try dsimp only
  unfold VB;refine Ac 7 ?_ ?_
  ·refine Ab 11 λh bf=>?_
   refine Ab 7 λe bg=>?_
   refine A 4 ?_;refine sC (E:=λ(s:Bool) (g:Nat×Nat×Nat)=>[(0,.optr 8192 0 0 0),(8,.optr 8 g.1 0 0),(9,.optr 9 g.2.1 0 0),(12,Av f),(13,Av h.1),(54,Av e.1),(55,.bool s)]) (O:=λ_ g=>[(8,dV g.1 3 39 (.agg [Av 0,Av 0,.nils])),(9,dV g.2.1 3 39 (.agg [Av c,Av d,.osl 39 g.2.2 0 a.length])),(39,dW g.2.2 1 3 (a.map NA)),(8192,dV 0 2 114 (.agg [.sl (e.2.list.map eU8),Av e.2.at_]))]) (j:=λs=>RQ h a e c d f s) ?_ ?_
   ·refine Ac 6 ?_ ?_
    ·refine A 1 ?_;exact xC (s:=(e.1==0)) (_,_,_) hX
    ·refine Ac 6 ?_ ?_
     ·refine A 1 ?_;exact xC (s:=(e.1==1)) (_,_,_) hX
     ·refine A 4 ?_;exact xC (s:=(e.1==2)) (_,_,_) hX
   ·rintro bh ⟨bi,bj,bk⟩ nn
    try dsimp only
    unfold RQ;refine cD r ?_ ?_
    ·refine Ac 9 ?_ ?_
     ·refine Ab 7 λq bl=>?_
      refine Ab 4 λbm bn=>?_
      refine A 10 ?_;exact xL (s:=(q.2.list,q.2.at_,a.set h.1.toNat (i64.wrap (c+(i64.wrap (8*q.1)))),c,d,i64.wrap (f-1))) (_,_,_) ((hE ⟨rfl,r,r,r,trivial⟩ ⟨rfl,(Eq.trans (b:=dV _ 3 39 (.agg [Av c,Av d,.osl 39 _ 0 a.length])) r (by simp)),r,r,trivial⟩))
     ·refine A 9 ?_;exact xL (s:=(e.2.list,e.2.at_,a,c,d,i64.wrap (f-1))) (_,_,_) hX
    ·refine sC (E:=λ(s:Bool) (g:Nat×Nat×Nat)=>[(0,.optr 8192 0 0 0),(8,.optr 8 g.1 0 0),(9,.optr 9 g.2.1 0 0),(12,Av f),(13,Av h.1),(54,Av e.1),(74,.bool s)]) (O:=λ_ g=>[(8,dV g.1 3 39 (.agg [Av 0,Av 0,.nils])),(9,dV g.2.1 3 39 (.agg [Av c,Av d,.osl 39 g.2.2 0 a.length])),(39,dW g.2.2 1 3 (a.map NA)),(8192,dV 0 2 114 (.agg [.sl (e.2.list.map eU8),Av e.2.at_]))]) (j:=λs=>Tc h a e c d f s) ?_ ?_
     ·refine Ac 6 ?_ ?_
      ·refine A 1 ?_;exact xC (s:=(e.1==3)) (_,_,_) hX
      ·refine A 4 ?_;exact xC (s:=(e.1==4)) (_,_,_) hX
     ·rintro bo ⟨bp,bq,br⟩ nn
      try dsimp only
      unfold Tc;refine cD r ?_ ?_
      ·refine Ac 9 ?_ ?_
       ·refine Ab 10 λab bs=>?_
        refine Ab 2 λah bt=>?_
        refine Ab 2 λbu bv=>?_
        refine A 10 ?_;exact xL (s:=(ab.2.list,ab.2.at_,a.set h.1.toNat ah,c,d,i64.wrap (f-1))) (_,_,_) ((hE ⟨rfl,r,r,r,trivial⟩ ⟨rfl,(Eq.trans (b:=dV _ 3 39 (.agg [Av c,Av d,.osl 39 _ 0 a.length])) r (by simp)),r,r,trivial⟩))
       ·refine A 9 ?_;exact xL (s:=(e.2.list,e.2.at_,a,c,d,i64.wrap (f-1))) (_,_,_) hX
      ·refine Ac 6 ?_ ?_
       ·refine Ab 4 λt bw=>?_
        refine A 15 ?_;exact xL (s:=(t.2.list,t.2.at_,a,c,i64.wrap (d+(i64.wrap (16*(i64.wrap (t.1-2))))),i64.wrap (f-1))) (_,_,_) hX
       ·refine Ac 6 ?_ ?_
        ·refine sC (E:=λ(s:(List Int)×Int×Bool) (g:Nat×Nat×Nat)=>[(0,.optr 8192 0 0 0),(8,.optr 8 g.1 0 0),(9,.optr 9 g.2.1 0 0),(12,Av f),(13,Av h.1),(116,.bool s.2.2)]) (O:=λs g=>[(8,dV g.1 3 39 (.agg [Av 0,Av 0,.nils])),(9,dV g.2.1 3 39 (.agg [Av c,Av d,.osl 39 g.2.2 0 a.length])),(39,dW g.2.2 1 3 (a.map NA)),(8192,dV 0 2 114 (.agg [.sl (s.1.map eU8),Av s.2.1]))]) (j:=λs=>Td h a c d f s.1 s.2.1 s.2.2) ?_ ?_
         ·refine A 7 ?_;refine NS r ?_ ?_
          ·refine Ab 1 λu bx=>?_
           refine A 4 ?_;exact xC (s:=(u.2.list,u.2.at_,(u.1==2))) (_,_,_) hX
          ·refine A 5 ?_;exact xC (s:=(e.2.list,e.2.at_,false)) (_,_,_) hX
         ·rintro⟨ai,aj,bz⟩ ⟨ca,cb,cc⟩ nn
          try dsimp only
          unfold Td;refine cD r ?_ ?_
          ·refine Ab 5 λv cd=>?_
           refine Ab 2 λce cf=>?_
           refine A 10 ?_;exact xL (s:=(v.2.list,v.2.at_,a.set h.1.toNat v.1,c,d,i64.wrap (f-1))) (_,_,_) ((hE ⟨rfl,r,r,r,trivial⟩ ⟨rfl,(Eq.trans (b:=dV _ 3 39 (.agg [Av c,Av d,.osl 39 _ 0 a.length])) r (by simp)),r,r,trivial⟩))
          ·refine A 9 ?_;exact xL (s:=(ai,aj,a,c,d,i64.wrap (f-1))) (_,_,_) hX
        ·refine Ac 6 ?_ ?_
         ·refine Ab 3 λac cg=>?_
          refine Ac 10 ?_ ?_
          ·refine Ab 2 λx ch=>?_
           refine A 13 ?_;exact xL (s:=(x.2.list,x.2.at_,a,x.1,d,i64.wrap (f-1))) (_,_,_) hX
          ·refine Ac 6 ?_ ?_
           ·refine Ab 2 λz ci=>?_
            refine A 13 ?_;exact xL (s:=(z.2.list,z.2.at_,a,c,z.1,i64.wrap (f-1))) (_,_,_) hX
           ·refine Ac 6 ?_ ?_
            ·refine Ab 4 λi cj=>?_
             refine A 15 ?_;exact xL (s:=(i.2.list,i.2.at_,a++([i.1]:List Int),c,d,i64.wrap (f-1))) (_,_,_) ((Aae (E1:=[(0,.optr 8192 0 0 0),(8,.optr 8 _ 0 0),(9,.optr 9 _ 0 0),(12,Av (i64.wrap (f-1)))]) (O1:=[(8,dV _ 3 39 (.agg [Av 0,Av 0,.nils])),(9,dV _ 3 39 (.agg [Av c,Av d,.osl 144 _ 0 ((a++([i.1]:List Int)).length)])),(144,dW _ 1 3 ((a++([i.1]:List Int)).map NA)),(8192,dV 0 2 114 (.agg [.sl (i.2.list.map eU8),Av i.2.at_]))]) hX (λ_=>PC (λg=>bif Nat.beq g 144 then 39 else g) (by kernel_rfl) hX)))
            ·refine A 10 ?_;exact xL (s:=(ac.2.list,ac.2.at_,a,c,d,i64.wrap (f-1))) (_,_,_) hX
         ·refine A 9 ?_;exact xL (s:=(e.2.list,e.2.at_,a,c,d,i64.wrap (f-1))) (_,_,_) hX
  ·refine A 12 ?_;refine UX (b:=((NN.mk c d a),(BR.mk af ag))) r ?_ r r ?_ (by first|rfl|(simp only[NH];rfl)|(simp only[NK];rfl)|(simp only[NH,NK];rfl)|(simp[Ahm,OB];try rfl))
   all_goals first|(simp;done)|(simp;omega)|rfl|(simp[OJ,OG];done)|(simp[cells];done)

end Go.Proofs.YtcaoepecbgggcaaGreatDoor
