/-
 The code does what its typed programs say.
-/
import Derived.Test.YtcaoepecbgggcaaGreatDoorCl
import Derived.Test.YtcaoepecbgggcaaGreatDoorTrl
import Derived.Test.YtcaoepecbgggcaaGreatDoorDxF7
import Derived.Test.YtcaoepecbgggcaaGreatDoorDxF8
open List renaming replicate->aA,eq_of_mem_replicate->aAA
namespace Go.Proofs.YtcaoepecbgggcaaGreatDoor
open Go Go.Dw Go.Proofs
open Go.IntKind (i64)
set_option maxRecDepth 100000
set_option maxHeartbeats 40000000
open Go.Dw renaming OO -> bD,Qk -> cK,TR -> bS,Vf -> sE,AaJ -> iO,Qs -> cD,PY -> xL,Zf -> hE,QS -> lP,RQ -> bC,rf -> r
theorem AnL:Nr Tryz.prog 95 (fS (.row 1 3) Tk (λa=>Zr a.1 a.2) Oj):=by
 refine fn2 2 (nK 100 AgL<|nK 158 AhI<|nK 159 UK<|nK 160 AjX<|Np) Tryz.func95<|?_;rintro⟨c,d⟩;unfold Zr;refine Ab 19 λb e=>?_
 refine A 6 ?_;refine lP (E:=λ(s:(List Int)×Int) (g:Nat×Nat)=>[oT 5 g.1 s.1,oT 14 g.2 b,oL 15 b,oI 16 s.2]) (O:=λs g=>[(5,dW g.1 1 3 (s.1.map Av)),(14,dW g.2 5 90 (b.map NG))]) (_,_) hX<|?_
 rintro⟨f,h⟩ ⟨i,j⟩ nn;dsimp only[AgJ];exact B

def Ww (b:Nn×Int):D:=.tup [Nz b.1,Nm b.2]
theorem AmQ:Nr Tryz.prog 41 (fS .val Tk (λa=>Yo a.1 a.2) Ww):=by
 refine fn2 2 (nK 93 Abc<|nK 95 AnL<|nK 96 Ajy<|nK 97 AtV<|nK 98 Age<|nK 99 AlQ<|nK 100 AgL<|Np) Tryz.func41<|?_;rintro⟨d,f⟩;unfold Yo;refine Ab 13 λx ad=>?_
 refine Ac 10 ?_ ?_
 ·refine A 10 ?_;refine Po (b:=((Nn.mk 0 ([]) ([])),x)) r ?_ r r ?_ (by first|rfl|(simp only[Nu];rfl)|(simp only[Nx];rfl)|(simp only[Nu,Nx];rfl)|(simp[Ww,Nz];try rfl)) (by decide)
  all_goals first|(simp;done)|(simp;omega)|rfl|(simp[OQ,OH];done)|(simp[cells];done)
 ·refine Ab 15 λc ae=>?_
  refine A 13 ?_;refine lP (E:=λ(s:(List NB)×Int) (g:Nat×Nat×Nat×Nat×Nat×Nat×Nat)=>[oP 2 g.1,oP 3 g.2.1,oP 4 g.2.2.1,oP 7 g.2.2.2.1,oT 8 g.2.2.2.2.1 c,oS 33 8 g.2.2.2.2.1 c,oL 34 c,oI 35 s.2]) (O:=λs g=>[(2,dV g.1 3 36 (Nz d)),(3,dV g.2.1 2 48 (.agg [.sl (f.To.map Av),.sl (f.Keep.map D.bool)])),(4,dV g.2.2.1 3 36 (.agg [Nm 0,.nils,.nils])),(7,dV g.2.2.2.1 3 36 (.agg [Nm d.Params,.osl 900 g.2.2.2.2.2.1 0 s.1.length,.osl 901 g.2.2.2.2.2.2 0 (([]:List Lo).length)])),(8,dW g.2.2.2.2.1 1 3 (c.map Av)),(900,dW g.2.2.2.2.2.1 2 87 (s.1.map On)),(901,dW g.2.2.2.2.2.2 5 90 (([]:List Lo).map NG))]) (_,_,_,_,_,_,_) ((Zg (gg:=7) (off:=1) (tt:=900) (s:=2) (tyy:=87) r r r r (Zg (gg:=7) (off:=2) (tt:=901) (s:=5) (tyy:=90) r r r r hX)))<|?_
  rintro⟨e,p⟩ ⟨af,ag,ah,ai,aj,ak,ao⟩ nn;dsimp only[AfD];refine Ac 6 ?_ ?_
  ·refine Ab 7 λap aq=>?_
   refine Ab 9 λk ar=>?_
   refine Ab 12 λq au=>?_
   refine A 6 ?_;refine lP (E:=λ(s:Int×Int) (g:Nat×Nat×Nat×Nat×Nat×Nat×Nat×Nat×Nat)=>[oP 2 g.1,oP 3 g.2.1,oP 4 g.2.2.1,oP 7 g.2.2.2.1,oT 8 g.2.2.2.2.1 c,oP 11 g.2.2.2.2.2.1,oS 33 8 g.2.2.2.2.1 c,oL 34 c,oI 35 p,oT 47 g.2.2.2.2.2.2.1 q,oL 48 q,oI 49 s.2]) (O:=λs g=>[(2,dV g.1 3 36 (Nz d)),(3,dV g.2.1 2 48 (.agg [.sl (f.To.map Av),.sl (f.Keep.map D.bool)])),(4,dV g.2.2.1 3 36 (.agg [Nm 0,.nils,.nils])),(7,dV g.2.2.2.1 3 36 (.agg [Nm d.Params,.osl 900 g.2.2.2.2.2.2.2.1 0 e.length,.osl 901 g.2.2.2.2.2.2.2.2 0 (([]:List Lo).length)])),(8,dW g.2.2.2.2.1 1 3 (c.map Av)),(11,dV g.2.2.2.2.2.1 2 87 (.agg [Nm k.Size,Nm s.1])),(47,dW g.2.2.2.2.2.2.1 1 3 (q.map Av)),(900,dW g.2.2.2.2.2.2.2.1 2 87 (e.map On)),(901,dW g.2.2.2.2.2.2.2.2 5 90 (([]:List Lo).map NG))]) (_,_,_,_,_,_,_,_,_) hX<|?_
   rintro⟨m,av⟩ ⟨aw,ax,ay,az,ba,bb,bc,bd,bf⟩ nn;dsimp only[AfE];refine Ac 6 ?_ ?_
   ·exact B
   ·refine A 9 ?_;refine bS ([(NB.mk k.Size m)]:List NB) On r r r (by simp) r r r<|?_
    refine A 10 ?_;exact xL (s:=(e++([(NB.mk k.Size m)]:List NB),i64.wrap (p+1))) (_,_,_,_,_,_,_) ((XQ (E1:=[oP 2 _,oP 3 _,oP 4 _,oP 7 _,oT 8 _ c,oS 33 8 _ c,oL 34 c,(35,Nm (i64.wrap (p+1)))]) (O1:=[(2,dV _ 3 36 (Nz d)),(3,dV _ 2 48 (.agg [.sl (f.To.map Av),.sl (f.Keep.map D.bool)])),(4,dV _ 3 36 (.agg [Nm 0,.nils,.nils])),(7,dV _ 3 36 (.agg [Nm d.Params,.osl 68 _ 0 ((e++([(NB.mk k.Size m)]:List NB)).length),.osl 901 _ 0 (([]:List Lo).length)])),(8,dW _ 1 3 (c.map Av)),(68,dW _ 2 87 ((e++([(NB.mk k.Size m)]:List NB)).map On)),(901,dW _ 5 90 (([]:List Lo).map NG))]) hX (λ_=>PR (λg=>bif Nat.beq g 68 then 900 else g) (by kernel_rfl) hX)))
  ·refine Ab 9 λz bg=>?_
   refine A 13 ?_;refine lP (E:=λ(s:(List Int)×Int) (g:Nat×Nat×Nat×Nat×Nat×Nat×Nat×Nat)=>[oP 2 g.1,oP 3 g.2.1,oP 4 g.2.2.1,oP 7 g.2.2.2.1,oT 8 g.2.2.2.2.1 c,oT 14 g.2.2.2.2.2.1 s.1,oS 74 14 g.2.2.2.2.2.1 s.1,oL 75 z,oI 76 s.2]) (O:=λs g=>[(2,dV g.1 3 36 (Nz d)),(3,dV g.2.1 2 48 (.agg [.sl (f.To.map Av),.sl (f.Keep.map D.bool)])),(4,dV g.2.2.1 3 36 (.agg [Nm 0,.nils,.nils])),(7,dV g.2.2.2.1 3 36 (.agg [Nm d.Params,.osl 900 g.2.2.2.2.2.2.1 0 e.length,.osl 901 g.2.2.2.2.2.2.2 0 (([]:List Lo).length)])),(8,dW g.2.2.2.2.1 1 3 (c.map Av)),(14,dW g.2.2.2.2.2.1 1 3 (s.1.map Av)),(900,dW g.2.2.2.2.2.2.1 2 87 (e.map On)),(901,dW g.2.2.2.2.2.2.2 5 90 (([]:List Lo).map NG))]) (_,_,_,_,_,_,_,_) hX<|?_
   rintro⟨bh,bi⟩ ⟨bj,bk,bl,bm,bn,bo,bp,bq⟩ nn;dsimp only[AfF];refine Ac 6 ?_ ?_
   ·exact B
   ·refine Ab 8 λt br=>?_
    refine Ab 9 λaa bs=>?_
    refine A 15 ?_;refine lP (E:=λ(s:(List Lo)×Int) (g:Nat×Nat×Nat×Nat×Nat)=>[oP 4 g.1,oP 7 g.2.1,oT 17 g.2.2.1 t,oL 97 aa,oI 98 s.2]) (O:=λs g=>[(4,dV g.1 3 36 (.agg [Nm 0,.nils,.nils])),(7,dV g.2.1 3 36 (.agg [Nm d.Params,.osl 900 g.2.2.2.2 0 e.length,.osl 93 g.2.2.2.1 0 s.1.length])),(17,dW g.2.2.1 1 3 (t.map Av)),(93,dW g.2.2.2.1 5 90 (s.1.map NG)),(900,dW g.2.2.2.2 2 87 (e.map On))]) (_,_,_,_,_) hX<|?_
    rintro⟨j,o⟩ ⟨bt,bu,bv,bw,bx⟩ nn;dsimp only[Aba];refine Ac 6 ?_ ?_
    ·refine Ab 24 λbz ca=>?_
     refine Ac 10 ?_ ?_
     ·refine Ab 6 λcb cc=>?_
      refine Ab 2 λu cd=>?_
      refine A 3 ?_;refine bD λh ab=>sE (l:=j) (en:=NG) (q':=(Lo.mk h.Op u h.B h.C h.Imm)) r r r r r r r (by simp) ab r r r r r<|?_
      refine A 8 ?_;exact xL (s:=(j.set o.toNat (Lo.mk h.Op u h.B h.C h.Imm),i64.wrap (o+1))) (_,_,_,_,_) ((hE ⟨rfl,r,r,r,r,trivial⟩ ⟨rfl,(Eq.trans (b:=dV _ 3 36 (.agg [Nm d.Params,.osl 900 _ 0 e.length,.osl 93 _ 0 j.length])) r (by simp)),r,r,r,trivial⟩))
     ·refine Ac 6 ?_ ?_
      ·refine Ab 6 λce cf=>?_
       refine Ab 2 λv ch=>?_
       refine A 3 ?_;refine bD λi ac=>sE (l:=j) (en:=NG) (q':=(Lo.mk i.Op i.A v i.C i.Imm)) r r r r r r r (by simp) ac r r r r r<|?_
       refine A 8 ?_;exact xL (s:=(j.set o.toNat (Lo.mk i.Op i.A v i.C i.Imm),i64.wrap (o+1))) (_,_,_,_,_) ((hE ⟨rfl,r,r,r,r,trivial⟩ ⟨rfl,(Eq.trans (b:=dV _ 3 36 (.agg [Nm d.Params,.osl 900 _ 0 e.length,.osl 93 _ 0 j.length])) r (by simp)),r,r,r,trivial⟩))
      ·exact B
    ·refine A 13 ?_;refine Po (b:=((Nn.mk d.Params e j),0)) r ?_ r r ?_ (by first|rfl|(simp only[Nu];rfl)|(simp only[Nx];rfl)|(simp only[Nu,Nx];rfl)|(simp[Ww,Nz];try rfl)) (by decide)
     all_goals first|(simp;done)|(simp;omega)|rfl|(simp[OQ,OH];done)|(simp[cells];done)

abbrev Ans:=en3 PJ Av Pv
abbrev Anr:=de3 Rr uI Adg
def Ajj (b:NX):D:=NW b
noncomputable def Ajk:Dw.Spec:=NO [] .val Ans Anr (λa=>WK a.1 a.2.1 a.2.2) Ajj noE
theorem Aol:Nr Tryz.prog 112 Ajk:=by
 refine fn2 3 (nK 176 AtX<|nK 177 AhN<|nK 236 AfZ<|nK 237 Aga<|nK 238 Agb<|nK 239 Agc<|nK 240 Agd<|nK 235 ApD<|Np) Tryz.func112<|?_;rintro⟨p1,i2,d⟩;unfold WK;refine Ab 12 λe ak=>?_
 refine Ab 14 λr5 ao=>?_
 refine Ab 8 λr6 aq=>?_
 refine A 15 ?_;refine lP (E:=λ(s:(List Lo)×Int) (g:Nat×Nat×Nat×Nat×Nat×Nat)=>[oP 5 g.1,oP 6 g.2.1,oP 7 g.2.2.1,oP 8 g.2.2.2.1,oP 9 g.2.2.2.2.1,oS 27 23 g.2.2.2.2.2 s.1,oL 28 r5,oI 29 s.2]) (O:=λs g=>[(5,dV g.1 3 39 (Pv d)),(6,dV g.2.1 3 75 (.agg [Nm 0,Nm 0,.nils])),(7,dV g.2.2.1 3 36 (Nz e)),(8,dV g.2.2.2.1 3 75 (.agg [Nm e.Params,Nm d.Size,.osl 23 g.2.2.2.2.2 0 s.1.length])),(9,dV g.2.2.2.2.1 25 196 (.agg (Aae.map AiG))),(23,dW g.2.2.2.2.2 5 90 (s.1.map NG))]) (_,_,_,_,_,_) hX<|?_
 rintro⟨a,c⟩ ⟨ar,au,av,aw,ax,ay⟩ nn;dsimp only[Xr];refine Ac 6 ?_ ?_
 ·refine A 7 ?_;refine cK λhq=>iO (l:=a) (en:=NG) r r r r r hq<|bD λf az=>?_
  refine A 12 ?_;refine cK λhq=>QG r r r hq<|Ais (λh=>?_) (λh=>?_)
  ·refine Qv (q:=236) (l:=Aae) (en:=AiG) (j:=f.Op.toNat) (by simp) r r r (Air (k:=15) h r) r (λ_=>r)<|?_
   refine Ab 3 λi ba=>?_
   refine A 2 ?_;refine bD λbb ac=>sE (l:=a) (en:=NG) (q':=i) r r r r r r r (by simp) ac r r r r r<|?_
   refine A 7 ?_;exact xL (s:=(a.set c.toNat i,i64.wrap (c+1))) (_,_,_,_,_,_) ((hE ⟨rfl,r,r,r,r,(AcJ (q:=a.length) r (by simp)),r,r,trivial⟩ ⟨rfl,r,r,(Eq.trans (b:=dV _ 3 75 (.agg [Nm e.Params,Nm d.Size,.osl 23 _ 0 a.length])) r (by simp)),r,r,trivial⟩))
  ·refine Ais (λm=>?_) (λm=>?_)
   ·refine Qv (q:=237) (l:=Aae) (en:=AiG) (j:=f.Op.toNat) (by simp) r r r (Air (k:=16) m r) r (λ_=>r)<|?_
    refine Ab 3 λo bc=>?_
    refine A 2 ?_;refine bD λbd ad=>sE (l:=a) (en:=NG) (q':=o) r r r r r r r (by simp) ad r r r r r<|?_
    refine A 7 ?_;exact xL (s:=(a.set c.toNat o,i64.wrap (c+1))) (_,_,_,_,_,_) ((hE ⟨rfl,r,r,r,r,(AcJ (q:=a.length) r (by simp)),r,r,trivial⟩ ⟨rfl,r,r,(Eq.trans (b:=dV _ 3 75 (.agg [Nm e.Params,Nm d.Size,.osl 23 _ 0 a.length])) r (by simp)),r,r,trivial⟩))
   ·refine Ais (λp=>?_) (λp=>?_)
    ·refine Qv (q:=238) (l:=Aae) (en:=AiG) (j:=f.Op.toNat) (by simp) r r r (Air (k:=17) p r) r (λ_=>r)<|?_
     refine Ab 3 λt bf=>?_
     refine A 2 ?_;refine bD λbg ae=>sE (l:=a) (en:=NG) (q':=t) r r r r r r r (by simp) ae r r r r r<|?_
     refine A 7 ?_;exact xL (s:=(a.set c.toNat t,i64.wrap (c+1))) (_,_,_,_,_,_) ((hE ⟨rfl,r,r,r,r,(AcJ (q:=a.length) r (by simp)),r,r,trivial⟩ ⟨rfl,r,r,(Eq.trans (b:=dV _ 3 75 (.agg [Nm e.Params,Nm d.Size,.osl 23 _ 0 a.length])) r (by simp)),r,r,trivial⟩))
    ·refine Ais (λu=>?_) (λu=>?_)
     ·refine Qv (q:=239) (l:=Aae) (en:=AiG) (j:=f.Op.toNat) (by simp) r r r (Air (k:=18) u r) r (λ_=>r)<|?_
      refine Ab 3 λv bh=>?_
      refine A 2 ?_;refine bD λbi af=>sE (l:=a) (en:=NG) (q':=v) r r r r r r r (by simp) af r r r r r<|?_
      refine A 7 ?_;exact xL (s:=(a.set c.toNat v,i64.wrap (c+1))) (_,_,_,_,_,_) ((hE ⟨rfl,r,r,r,r,(AcJ (q:=a.length) r (by simp)),r,r,trivial⟩ ⟨rfl,r,r,(Eq.trans (b:=dV _ 3 75 (.agg [Nm e.Params,Nm d.Size,.osl 23 _ 0 a.length])) r (by simp)),r,r,trivial⟩))
     ·refine Ais (λx=>?_) (λx=>?_)
      ·refine Qv (q:=240) (l:=Aae) (en:=AiG) (j:=f.Op.toNat) (by simp) r r r (Air (k:=19) x r) r (λ_=>r)<|?_
       refine Ab 3 λz bj=>?_
       refine A 2 ?_;refine bD λbk ag=>sE (l:=a) (en:=NG) (q':=z) r r r r r r r (by simp) ag r r r r r<|?_
       refine A 7 ?_;exact xL (s:=(a.set c.toNat z,i64.wrap (c+1))) (_,_,_,_,_,_) ((hE ⟨rfl,r,r,r,r,(AcJ (q:=a.length) r (by simp)),r,r,trivial⟩ ⟨rfl,r,r,(Eq.trans (b:=dV _ 3 75 (.agg [Nm e.Params,Nm d.Size,.osl 23 _ 0 a.length])) r (by simp)),r,r,trivial⟩))
      ·refine Qv (q:=235) (l:=Aae) (en:=AiG) (j:=f.Op.toNat) (by simp) r r r (Ayc [15,16,17,18,19] (by assumption) (by simp_all) (by decide)) r (λ_=>r)<|?_
       refine Ab 3 λaa bl=>?_
       refine A 2 ?_;refine bD λbm ah=>sE (l:=a) (en:=NG) (q':=aa) r r r r r r r (by simp) ah r r r r r<|?_
       refine A 7 ?_;exact xL (s:=(a.set c.toNat aa,i64.wrap (c+1))) (_,_,_,_,_,_) ((hE ⟨rfl,r,r,r,r,(AcJ (q:=a.length) r (by simp)),r,r,trivial⟩ ⟨rfl,r,r,(Eq.trans (b:=dV _ 3 75 (.agg [Nm e.Params,Nm d.Size,.osl 23 _ 0 a.length])) r (by simp)),r,r,trivial⟩))
 ·refine A 12 ?_;refine Uy (b:=(NX.mk e.Params d.Size a)) r ?_ r r ?_ (by first|rfl|(simp only[Nu];rfl)|(simp only[Nx];rfl)|(simp only[Nu,Nx];rfl)|(simp[Ajj,NW];try rfl))
  all_goals first|(simp;done)|(simp;omega)|rfl|(simp[OQ,OH];done)|(simp[cells];done)

def Afu (b:NN):D:=Rx b
theorem ApL:Nr Tryz.prog 195 (fS .val PX (λa=>AbX a.1 a.2) Afu):=by
 refine fn2 2 (nK 248 Ajp<|nK 249 Ama<|nK 124 ZH<|Np) Tryz.func195<|?_;rintro⟨c,d⟩;unfold AbX;refine A 12 ?_;refine cK λhq=>Adv (α:=Int) r r r hq r<|?_
 refine A 4 ?_;refine Qd (E:=[oP 2 _,oP 3 _,oP 4 _,oP 5 _]) (O:=[(2,dV _ 3 36 (Nz c)),(3,dV _ 1 45 (.agg [.sl (d.Out.map (eL Av))])),(4,dV _ 1 45 (.agg [.nils])),(5,dV _ 1 45 (.agg [.osl 13 _ 0 ((aA (c.Code.length:Int).toNat ([]:(List Int))).length)])),(13,dW _ 1 37 ((aA (c.Code.length:Int).toNat ([]:(List Int))).map (eL Av)))]) ((Agu (g:=13) r (AiV (l:=aA (c.Code.length:Int).toNat ([]:(List Int))) Av (λ_ h=>aAA h)) hX)) λnn=>?_
 refine A 7 ?_;refine lP (E:=λ(s:(List (List Int))×Int) (g:Nat×Nat×Nat×Nat×Nat)=>[oP 2 g.1,oP 3 g.2.1,oP 4 g.2.2.1,oP 5 g.2.2.2.1,oI 6 s.2]) (O:=λs g=>[(2,dV g.1 3 36 (Nz c)),(3,dV g.2.1 1 45 (.agg [.sl (d.Out.map (eL Av))])),(4,dV g.2.2.1 1 45 (.agg [.nils])),(5,dV g.2.2.2.1 1 45 (.agg [.osl 13 g.2.2.2.2 0 s.1.length])),(13,dW g.2.2.2.2 1 37 (s.1.map (eL Av)))]) (_,_,_,_,_) hX<|?_
 rintro⟨k,k4⟩ ⟨p,q,t,u,v⟩ nn;dsimp only[Yj];refine Ac 10 ?_ ?_
 ·refine A 2 ?_;refine bC (E:=λ(_s:(List (List Int))) (g:Nat×Nat×Nat×Nat×Nat)=>[oP 2 g.1,oP 3 g.2.1,oP 4 g.2.2.1,oP 5 g.2.2.2.1,oI 6 k4]) (O:=λs g=>[(2,dV g.1 3 36 (Nz c)),(3,dV g.2.1 1 45 (.agg [.sl (d.Out.map (eL Av))])),(4,dV g.2.2.1 1 45 (.agg [.nils])),(5,dV g.2.2.2.1 1 45 (.agg [.osl 13 g.2.2.2.2 0 s.length])),(13,dW g.2.2.2.2 1 37 (s.map (eL Av)))]) (j:=λs=>AaQ k4 s) ?_ ?_
  ·refine Ab 4 λf x=>?_
   refine A 10 ?_;refine lP (E:=λ(s:(List (List Int))×Int) (g:Nat×Nat×Nat×Nat×Nat×Nat)=>[oP 2 g.1,oP 3 g.2.1,oP 4 g.2.2.1,oP 5 g.2.2.2.1,oI 6 k4,oT 7 g.2.2.2.2.1 f,oI 8 s.2]) (O:=λs g=>[(2,dV g.1 3 36 (Nz c)),(3,dV g.2.1 1 45 (.agg [.sl (d.Out.map (eL Av))])),(4,dV g.2.2.1 1 45 (.agg [.nils])),(5,dV g.2.2.2.1 1 45 (.agg [.osl 13 g.2.2.2.2.2 0 s.1.length])),(7,dW g.2.2.2.2.1 1 3 (f.map Av)),(13,dW g.2.2.2.2.2 1 37 (s.1.map (eL Av)))]) (_,_,_,_,_,_) hX<|?_
   rintro⟨e,m⟩ ⟨z,aa,ab,ac,ad,ae⟩ nn;dsimp only[Yk];refine Ac 9 ?_ ?_
   ·refine Ab 9 λaf ag=>?_
    refine Ab 12 λah ai=>?_
    refine Ab 4 λaj ak=>?_
    refine Ab 5 λao ap=>?_
    refine Ab 2 λaq ar=>?_
    refine Ab 1 λi au=>?_
    refine A 2 ?_;refine bD λav o=>sE (l:=e) (en:=(eL Av)) (q':=i) r r r r r r r (by simp) o r r r (by simp[PG,cells,eL]) r<|?_
    refine A 8 ?_;exact xL (s:=(e.set k4.toNat i,i64.wrap (m+1))) (_,_,_,_,_,_) ((hE ⟨rfl,r,r,r,r,r,r,trivial⟩ ⟨rfl,r,r,(Eq.trans (b:=dV _ 1 45 (.agg [.osl 13 _ 0 e.length])) r (by simp)),r,r,trivial⟩))
   ·exact B
  ·rintro x5 ⟨ax,ay,az,ba,bb⟩ nn;dsimp only[AaQ];exact B
 ·refine A 12 ?_;refine Uy (b:=(NN.mk k)) r ?_ r r ?_ (by first|rfl|(simp only[Nu];rfl)|(simp only[Nx];rfl)|(simp only[Nu,Nx];rfl)|(simp[Afu,Rx];try rfl))
  all_goals first|(simp;done)|(simp;omega)|rfl|(simp[OQ,OH];done)|(simp[cells];done)

def Ats (b:(List (List Int))):D:=.sl (b.map (eL Av))
theorem ArV:Nr Tryz.prog 25 (fS (.row 1 37) Yq (λa=>AfB a) Ats):=by
 refine fn2 1 (nK 67 Zn<|Np) Tryz.func25<|?_;intro b;unfold AfB;refine A 11 ?_;refine cK λhq=>Adv (α:=Int) r r r hq r<|?_
 refine A 2 ?_;refine Qd (E:=[oP 1 _,(3,.osl 3 _ 0 ((aA (b.Funcs.length:Int).toNat ([]:(List Int))).length))]) (O:=[(1,dV _ 1 28 (.agg [.sl (b.Funcs.map Nz)])),(3,dW _ 1 37 ((aA (b.Funcs.length:Int).toNat ([]:(List Int))).map (eL Av)))]) ((Agu (g:=3) r (AiV (l:=aA (b.Funcs.length:Int).toNat ([]:(List Int))) Av (λ_ h=>aAA h)) hX)) λnn=>?_
 refine A 7 ?_;refine lP (E:=λ(s:(List (List Int))×Int) (g:Nat×Nat)=>[oP 1 g.1,oT 3 g.2 s.1,oI 4 s.2]) (O:=λs g=>[(1,dV g.1 1 28 (.agg [.sl (b.Funcs.map Nz)])),(3,dW g.2 1 37 (s.1.map (eL Av)))]) (_,_) hX<|?_
 rintro⟨k,c⟩ ⟨m,o⟩ nn;dsimp only[Amb];refine Ac 10 ?_ ?_
 ·refine A 2 ?_;refine bC (E:=λ(s:(List (List Int))) (g:Nat×Nat)=>[oP 1 g.1,oT 3 g.2 s,oI 4 c]) (O:=λs g=>[(1,dV g.1 1 28 (.agg [.sl (b.Funcs.map Nz)])),(3,dW g.2 1 37 (s.map (eL Av)))]) (j:=λs=>Adt c s) ?_ ?_
  ·refine Ab 5 λd p=>?_
   refine A 12 ?_;refine lP (E:=λ(s:(List (List Int))×Int) (g:Nat×Nat)=>[oP 1 g.1,oT 3 g.2 s.1,oI 4 c,oM 5 d.Code NG,oI 6 s.2]) (O:=λs g=>[(1,dV g.1 1 28 (.agg [.sl (b.Funcs.map Nz)])),(3,dW g.2 1 37 (s.1.map (eL Av)))]) (_,_) hX<|?_
   rintro⟨e,q⟩ ⟨t,u⟩ nn;dsimp only[Amc];refine Ac 9 ?_ ?_
   ·refine Ab 8 λv x=>?_
    refine Ac 6 ?_ ?_
    ·refine Ab 6 λz aa=>?_
     refine Ab 3 λab ac=>?_
     refine Ab 3 λf ad=>?_
     refine A 2 ?_;refine bD λae i=>sE (l:=e) (en:=(eL Av)) (q':=f) r r r r r r r (by simp) i r r r (by simp[PG,cells,eL]) r<|?_
     exact B
    ·exact B
   ·exact B
  ·rintro af ⟨ag,ah⟩ nn;dsimp only[Adt];exact B
 ·exact B

end Go.Proofs.YtcaoepecbgggcaaGreatDoor
