/-
 The code does what its typed programs say.
-/
import Derived.Test.YtcaoepecbgggcaaGreatDoorDe
import Derived.Test.YtcaoepecbgggcaaGreatDoorProg
import Derived.Test.YtcaoepecbgggcaaGreatDoorDc
import Derived.KernelRfl
import Derived.Test.YtcaoepecbgggcaaGreatDoorSh
import Derived.Test.YtcaoepecbgggcaaGreatDoorCl
import Derived.Test.YtcaoepecbgggcaaGreatDoorDxP
import Derived.Test.YtcaoepecbgggcaaGreatDoorTrl
import Derived.Test.YtcaoepecbgggcaaGreatDoorDxF1
import Derived.Test.YtcaoepecbgggcaaGreatDoorDxF5
import Derived.Test.YtcaoepecbgggcaaGreatDoorDxF6
import Derived.Test.YtcaoepecbgggcaaGreatDoorDxF7
import Derived.Test.YtcaoepecbgggcaaGreatDoorDxF11
import Derived.Test.YtcaoepecbgggcaaGreatDoorDxF12
namespace Go.Proofs.YtcaoepecbgggcaaGreatDoor
open Go Go.Dw Go.Proofs
open Go.IntKind (i64)
set_option maxRecDepth 100000
set_option maxHeartbeats 40000000
open Go.Dw renaming OQ -> bD,PQ -> cK,WO -> bS,Yt -> sE,Adw -> iO,PX -> cD,PH -> xL,AdJ -> hE,Qm -> lP,rf -> r
noncomputable def AnB:Dw.Spec:=NN [] (.row 1 3) Rj Ri (λa=>Zm a.1 a.2) OC noE
theorem Amv:NL Tryz.prog 95 AnB:=by
 refine fn2 2 (nK 100 Agm<|nK 158 Ahe<|nK 159 UC<|nK 160 AiW<|NG) Tryz.func95<|?_;rintro⟨b,c⟩;unfold Zm;refine Ab 19 λa d=>?_
 refine A 6 ?_;refine lP (E:=λ(s:(List Int)×Int) (g:Nat×Nat)=>[(5,.osl 5 g.1 0 s.1.length),(14,.osl 14 g.2 0 a.length),(15,Av (a.length:Int)),(16,Av s.2)]) (O:=λs g=>[(5,dW g.1 1 3 (s.1.map Mk)),(14,dW g.2 5 90 (a.map Ob))]) (_,_) hX<|?_
 rintro⟨e,f⟩ ⟨h,i⟩ nn;dsimp only[Agk];exact B

def Wo (b:Lo×Int):D:=.tup [NQ b.1,Av b.2]
noncomputable def Amt:Dw.Spec:=NN [] .val Rj Ri (λa=>Yk a.1 a.2) Wo noE
theorem Alu:NL Tryz.prog 41 Amt:=by
 refine fn2 2 (AqJ (l:=[(93,Amu),(95,AnB),(96,Ajd),(97,AuK),(98,AgJ),(99,Alv),(100,AnD)]) (by simp[Aba,Amv,AiK,Atk,AfP,Akv,Agm])) Tryz.func41<|?_
 rintro⟨a,e⟩;unfold Yk;refine Ab 13 λz ae=>?_
 refine Ac 10 ?_ ?_
 ·refine A 10 ?_;refine Qt (b:=((Lo.mk 0 ([]) ([])),z)) r ?_ r r ?_ (by first|rfl|(simp only[NP];rfl)|(simp only[NR];rfl)|(simp only[NP,NR];rfl)|(simp[Wo,NQ];try rfl)) (by decide)
  all_goals first|(simp;done)|(simp;omega)|rfl|(simp[Pn,Pc];done)|(simp[cells];done)
 ·refine Ab 15 λc af=>?_
  refine A 13 ?_;refine lP (E:=λ(s:(List NS)×Int) (g:Nat×Nat×Nat×Nat×Nat×Nat×Nat)=>[(2,.optr 2 g.1 0 0),(3,.optr 3 g.2.1 0 0),(4,.optr 4 g.2.2.1 0 0),(7,.optr 7 g.2.2.2.1 0 0),(8,.osl 8 g.2.2.2.2.1 0 c.length),(33,.osl 8 g.2.2.2.2.1 0 c.length),(34,Av (c.length:Int)),(35,Av s.2)]) (O:=λs g=>[(2,dV g.1 3 36 (NQ a)),(3,dV g.2.1 2 48 (.agg [.sl (e.To.map Mk),.sl (e.Keep.map D.bool)])),(4,dV g.2.2.1 3 36 (.agg [Av 0,.nils,.nils])),(7,dV g.2.2.2.1 3 36 (.agg [Av a.Params,.osl 900 g.2.2.2.2.2.1 0 s.1.length,.osl 901 g.2.2.2.2.2.2 0 (([]:List NH).length)])),(8,dW g.2.2.2.2.1 1 3 (c.map Mk)),(900,dW g.2.2.2.2.2.1 2 87 (s.1.map OR)),(901,dW g.2.2.2.2.2.2 5 90 (([]:List NH).map Ob))]) (body:=λs=>Afr c a e s.1 s.2) (s:=(([]:List NS),0)) (_,_,_,_,_,_,_) ((AcF (gg:=7) (off:=1) (tt:=900) (s:=2) (tyy:=87) r r r r (AcF (gg:=7) (off:=2) (tt:=901) (s:=5) (tyy:=90) r r r r hX)))<|?_
  rintro⟨d,o⟩ ⟨ag,ah,ai,aj,ak,ao,ap⟩ nn
  try dsimp only
  unfold Afr;refine Ac 6 ?_ ?_
  ·refine Ab 7 λaq ar=>?_
   refine Ab 9 λj au=>?_
   refine Ab 12 λp av=>?_
   refine A 6 ?_;refine lP (E:=λ(s:Int×Int) (g:Nat×Nat×Nat×Nat×Nat×Nat×Nat×Nat×Nat)=>[(2,.optr 2 g.1 0 0),(3,.optr 3 g.2.1 0 0),(4,.optr 4 g.2.2.1 0 0),(7,.optr 7 g.2.2.2.1 0 0),(8,.osl 8 g.2.2.2.2.1 0 c.length),(11,.optr 11 g.2.2.2.2.2.1 0 0),(33,.osl 8 g.2.2.2.2.1 0 c.length),(34,Av (c.length:Int)),(35,Av o),(47,.osl 47 g.2.2.2.2.2.2.1 0 p.length),(48,Av (p.length:Int)),(49,Av s.2)]) (O:=λs g=>[(2,dV g.1 3 36 (NQ a)),(3,dV g.2.1 2 48 (.agg [.sl (e.To.map Mk),.sl (e.Keep.map D.bool)])),(4,dV g.2.2.1 3 36 (.agg [Av 0,.nils,.nils])),(7,dV g.2.2.2.1 3 36 (.agg [Av a.Params,.osl 900 g.2.2.2.2.2.2.2.1 0 d.length,.osl 901 g.2.2.2.2.2.2.2.2 0 (([]:List NH).length)])),(8,dW g.2.2.2.2.1 1 3 (c.map Mk)),(11,dV g.2.2.2.2.2.1 2 87 (.agg [Av j.Size,Av s.1])),(47,dW g.2.2.2.2.2.2.1 1 3 (p.map Mk)),(900,dW g.2.2.2.2.2.2.2.1 2 87 (d.map OR)),(901,dW g.2.2.2.2.2.2.2.2 5 90 (([]:List NH).map Ob))]) (body:=λs=>Afs p a d j o s.1 s.2) (s:=(j.Align,0)) (_,_,_,_,_,_,_,_,_) hX<|?_
   rintro⟨k,aa⟩ ⟨aw,ax,ay,az,ba,bb,bc,bd,bf⟩ nn
   try dsimp only
   unfold Afs;refine Ac 6 ?_ ?_
   ·refine Ab 7 λbg bh=>?_
    refine Ab 10 λab bi=>?_
    refine A 13 ?_;exact xL (s:=(OD k ab.Align,i64.wrap (aa+1))) (_,_,_,_,_,_,_,_,_) hX
   ·refine A 9 ?_;refine bS ([(NS.mk j.Size k)]:List NS) OR r r r (by simp) r r r<|?_
    refine A 10 ?_;exact xL (s:=(d++([(NS.mk j.Size k)]:List NS),i64.wrap (o+1))) (_,_,_,_,_,_,_) ((AaL (E1:=[(2,.optr 2 _ 0 0),(3,.optr 3 _ 0 0),(4,.optr 4 _ 0 0),(7,.optr 7 _ 0 0),(8,.osl 8 _ 0 c.length),(33,.osl 8 _ 0 c.length),(34,Av (c.length:Int)),(35,Av (i64.wrap (o+1)))]) (O1:=[(2,dV _ 3 36 (NQ a)),(3,dV _ 2 48 (.agg [.sl (e.To.map Mk),.sl (e.Keep.map D.bool)])),(4,dV _ 3 36 (.agg [Av 0,.nils,.nils])),(7,dV _ 3 36 (.agg [Av a.Params,.osl 68 _ 0 ((d++([(NS.mk j.Size k)]:List NS)).length),.osl 901 _ 0 (([]:List NH).length)])),(8,dW _ 1 3 (c.map Mk)),(68,dW _ 2 87 ((d++([(NS.mk j.Size k)]:List NS)).map OR)),(901,dW _ 5 90 (([]:List NH).map Ob))]) hX (λ_=>Qb (λg=>bif Nat.beq g 68 then 900 else g) (by kernel_rfl) hX)))
  ·refine Ab 9 λq bj=>?_
   refine A 13 ?_;refine lP (E:=λ(s:(List Int)×Int) (g:Nat×Nat×Nat×Nat×Nat×Nat×Nat×Nat)=>[(2,.optr 2 g.1 0 0),(3,.optr 3 g.2.1 0 0),(4,.optr 4 g.2.2.1 0 0),(7,.optr 7 g.2.2.2.1 0 0),(8,.osl 8 g.2.2.2.2.1 0 c.length),(14,.osl 14 g.2.2.2.2.2.1 0 s.1.length),(74,.osl 14 g.2.2.2.2.2.1 0 s.1.length),(75,Av (q.length:Int)),(76,Av s.2)]) (O:=λs g=>[(2,dV g.1 3 36 (NQ a)),(3,dV g.2.1 2 48 (.agg [.sl (e.To.map Mk),.sl (e.Keep.map D.bool)])),(4,dV g.2.2.1 3 36 (.agg [Av 0,.nils,.nils])),(7,dV g.2.2.2.1 3 36 (.agg [Av a.Params,.osl 900 g.2.2.2.2.2.2.1 0 d.length,.osl 901 g.2.2.2.2.2.2.2 0 (([]:List NH).length)])),(8,dW g.2.2.2.2.1 1 3 (c.map Mk)),(14,dW g.2.2.2.2.2.1 1 3 (s.1.map Mk)),(900,dW g.2.2.2.2.2.2.1 2 87 (d.map OR)),(901,dW g.2.2.2.2.2.2.2 5 90 (([]:List NH).map Ob))]) (body:=λs=>Aft q c e a d s.1 s.2) (s:=(q,0)) (_,_,_,_,_,_,_,_) hX<|?_
   rintro⟨bk,bl⟩ ⟨bm,bn,bo,bp,bq,br,bs,bt⟩ nn
   try dsimp only
   unfold Aft;refine Ac 6 ?_ ?_
   ·exact zB
   ·refine Ab 8 λt bu=>?_
    refine Ab 9 λu bv=>?_
    refine A 15 ?_;refine lP (E:=λ(s:(List NH)×Int) (g:Nat×Nat×Nat×Nat×Nat)=>[(4,.optr 4 g.1 0 0),(7,.optr 7 g.2.1 0 0),(17,.osl 17 g.2.2.1 0 t.length),(97,Av (u.length:Int)),(98,Av s.2)]) (O:=λs g=>[(4,dV g.1 3 36 (.agg [Av 0,.nils,.nils])),(7,dV g.2.1 3 36 (.agg [Av a.Params,.osl 900 g.2.2.2.2 0 d.length,.osl 93 g.2.2.2.1 0 s.1.length])),(17,dW g.2.2.1 1 3 (t.map Mk)),(93,dW g.2.2.2.1 5 90 (s.1.map Ob)),(900,dW g.2.2.2.2 2 87 (d.map OR))]) (body:=λs=>AaY u t a d s.1 s.2) (s:=(u,0)) (_,_,_,_,_) hX<|?_
    rintro⟨f,m⟩ ⟨bw,bx,bz,ca,cb⟩ nn
    try dsimp only
    unfold AaY;refine Ac 6 ?_ ?_
    ·refine Ab 24 λcc cd=>?_
     refine Ac 10 ?_ ?_
     ·refine Ab 6 λce cf=>?_
      refine Ab 2 λv ch=>?_
      refine A 3 ?_;refine bD λh ac=>sE (l:=f) (en:=Ob) (q':=(NH.mk h.Op v h.B h.C h.Imm)) r r r r r r r (by simp) ac r r r r r<|?_
      refine A 8 ?_;exact xL (s:=(f.set m.toNat (NH.mk h.Op v h.B h.C h.Imm),i64.wrap (m+1))) (_,_,_,_,_) ((hE ⟨rfl,r,r,r,r,trivial⟩ ⟨rfl,(Eq.trans (b:=dV _ 3 36 (.agg [Av a.Params,.osl 900 _ 0 d.length,.osl 93 _ 0 f.length])) r (by simp)),r,r,r,trivial⟩))
     ·refine Ac 6 ?_ ?_
      ·refine Ab 6 λci cj=>?_
       refine Ab 2 λx ck=>?_
       refine A 3 ?_;refine bD λi ad=>sE (l:=f) (en:=Ob) (q':=(NH.mk i.Op i.A x i.C i.Imm)) r r r r r r r (by simp) ad r r r r r<|?_
       refine A 8 ?_;exact xL (s:=(f.set m.toNat (NH.mk i.Op i.A x i.C i.Imm),i64.wrap (m+1))) (_,_,_,_,_) ((hE ⟨rfl,r,r,r,r,trivial⟩ ⟨rfl,(Eq.trans (b:=dV _ 3 36 (.agg [Av a.Params,.osl 900 _ 0 d.length,.osl 93 _ 0 f.length])) r (by simp)),r,r,r,trivial⟩))
      ·refine A 8 ?_;exact xL (s:=(f,i64.wrap (m+1))) (_,_,_,_,_) hX
    ·refine A 13 ?_;refine Qt (b:=((Lo.mk a.Params d f),0)) r ?_ r r ?_ (by first|rfl|(simp only[NP];rfl)|(simp only[NR];rfl)|(simp only[NP,NR];rfl)|(simp[Wo,NQ];try rfl)) (by decide)
     all_goals first|(simp;done)|(simp;omega)|rfl|(simp[Pn,Pc];done)|(simp[cells];done)

def AbO (a:NM×Int×NV):List D:=[Rk a.1,Av a.2.1,QH a.2.2]
def AbN (ds:List D):NM×Int×NV:=(Th (ds.getD 0 .top),uI (ds.getD 1 .top),AeM (ds.getD 2 .top))
instance:Od AbO AbN:=⟨λa=>by simp[AbN,AbO,uI]⟩
def Aiv (b:OE):D:=ON b
noncomputable def Aiw:Dw.Spec:=NN [] .val AbO AbN (λa=>WL a.1 a.2.1 a.2.2) Aiv noE
theorem AmY:NL Tryz.prog 112 Aiw:=by
 refine fn2 3 (nK 176 Atm<|nK 177 Ahj<|nK 236 AfK<|nK 237 AfL<|nK 238 AfM<|nK 239 AfN<|nK 240 AfO<|nK 235 Aok<|NG) Tryz.func112<|?_;rintro⟨p1,i2,d⟩;unfold WL;refine Ab 12 λe ak=>?_
 refine Ab 14 λr5 ao=>?_
 refine Ab 8 λr6 aq=>?_
 refine A 15 ?_;refine lP (E:=λ(s:(List NH)×Int) (g:Nat×Nat×Nat×Nat×Nat×Nat)=>[(5,.optr 5 g.1 0 0),(6,.optr 6 g.2.1 0 0),(7,.optr 7 g.2.2.1 0 0),(8,.optr 8 g.2.2.2.1 0 0),(9,.optr 9 g.2.2.2.2.1 0 0),(27,.osl 23 g.2.2.2.2.2 0 s.1.length),(28,Av (r5.length:Int)),(29,Av s.2)]) (O:=λs g=>[(5,dV g.1 3 39 (QH d)),(6,dV g.2.1 3 75 (.agg [Av 0,Av 0,.nils])),(7,dV g.2.2.1 3 36 (NQ e)),(8,dV g.2.2.2.1 3 75 (.agg [Av e.Params,Av d.Size,.osl 23 g.2.2.2.2.2 0 s.1.length])),(9,dV g.2.2.2.2.1 25 196 (.agg (ZQ.map AhZ))),(23,dW g.2.2.2.2.2 5 90 (s.1.map Ob))]) (_,_,_,_,_,_) hX<|?_
 rintro⟨a,c⟩ ⟨ar,au,av,aw,ax,ay⟩ nn;dsimp only[Xm];refine Ac 6 ?_ ?_
 ·refine A 7 ?_;refine cK λhq=>iO (l:=a) (en:=Ob) r r r r r hq<|bD λf az=>?_
  refine A 12 ?_;refine cK λhq=>Qw r r r hq<|AhH (λh=>?_) (λh=>?_)
  ·refine Qq (q:=236) (l:=ZQ) (en:=AhZ) (j:=f.Op.toNat) (by simp) r r r (AhG (k:=15) h r) r (λ_=>r)<|?_
   refine Ab 3 λi ba=>?_
   refine A 2 ?_;refine bD λbb ac=>sE (l:=a) (en:=Ob) (q':=i) r r r r r r r (by simp) ac r r r r r<|?_
   refine A 7 ?_;exact xL (s:=(a.set c.toNat i,i64.wrap (c+1))) (_,_,_,_,_,_) ((hE ⟨rfl,r,r,r,r,(AcM (q:=a.length) r (by simp)),r,r,trivial⟩ ⟨rfl,r,r,(Eq.trans (b:=dV _ 3 75 (.agg [Av e.Params,Av d.Size,.osl 23 _ 0 a.length])) r (by simp)),r,r,trivial⟩))
  ·refine AhH (λm=>?_) (λm=>?_)
   ·refine Qq (q:=237) (l:=ZQ) (en:=AhZ) (j:=f.Op.toNat) (by simp) r r r (AhG (k:=16) m r) r (λ_=>r)<|?_
    refine Ab 3 λo bc=>?_
    refine A 2 ?_;refine bD λbd ad=>sE (l:=a) (en:=Ob) (q':=o) r r r r r r r (by simp) ad r r r r r<|?_
    refine A 7 ?_;exact xL (s:=(a.set c.toNat o,i64.wrap (c+1))) (_,_,_,_,_,_) ((hE ⟨rfl,r,r,r,r,(AcM (q:=a.length) r (by simp)),r,r,trivial⟩ ⟨rfl,r,r,(Eq.trans (b:=dV _ 3 75 (.agg [Av e.Params,Av d.Size,.osl 23 _ 0 a.length])) r (by simp)),r,r,trivial⟩))
   ·refine AhH (λp=>?_) (λp=>?_)
    ·refine Qq (q:=238) (l:=ZQ) (en:=AhZ) (j:=f.Op.toNat) (by simp) r r r (AhG (k:=17) p r) r (λ_=>r)<|?_
     refine Ab 3 λt bf=>?_
     refine A 2 ?_;refine bD λbg ae=>sE (l:=a) (en:=Ob) (q':=t) r r r r r r r (by simp) ae r r r r r<|?_
     refine A 7 ?_;exact xL (s:=(a.set c.toNat t,i64.wrap (c+1))) (_,_,_,_,_,_) ((hE ⟨rfl,r,r,r,r,(AcM (q:=a.length) r (by simp)),r,r,trivial⟩ ⟨rfl,r,r,(Eq.trans (b:=dV _ 3 75 (.agg [Av e.Params,Av d.Size,.osl 23 _ 0 a.length])) r (by simp)),r,r,trivial⟩))
    ·refine AhH (λu=>?_) (λu=>?_)
     ·refine Qq (q:=239) (l:=ZQ) (en:=AhZ) (j:=f.Op.toNat) (by simp) r r r (AhG (k:=18) u r) r (λ_=>r)<|?_
      refine Ab 3 λv bh=>?_
      refine A 2 ?_;refine bD λbi af=>sE (l:=a) (en:=Ob) (q':=v) r r r r r r r (by simp) af r r r r r<|?_
      refine A 7 ?_;exact xL (s:=(a.set c.toNat v,i64.wrap (c+1))) (_,_,_,_,_,_) ((hE ⟨rfl,r,r,r,r,(AcM (q:=a.length) r (by simp)),r,r,trivial⟩ ⟨rfl,r,r,(Eq.trans (b:=dV _ 3 75 (.agg [Av e.Params,Av d.Size,.osl 23 _ 0 a.length])) r (by simp)),r,r,trivial⟩))
     ·refine AhH (λx=>?_) (λx=>?_)
      ·refine Qq (q:=240) (l:=ZQ) (en:=AhZ) (j:=f.Op.toNat) (by simp) r r r (AhG (k:=19) x r) r (λ_=>r)<|?_
       refine Ab 3 λz bj=>?_
       refine A 2 ?_;refine bD λbk ag=>sE (l:=a) (en:=Ob) (q':=z) r r r r r r r (by simp) ag r r r r r<|?_
       refine A 7 ?_;exact xL (s:=(a.set c.toNat z,i64.wrap (c+1))) (_,_,_,_,_,_) ((hE ⟨rfl,r,r,r,r,(AcM (q:=a.length) r (by simp)),r,r,trivial⟩ ⟨rfl,r,r,(Eq.trans (b:=dV _ 3 75 (.agg [Av e.Params,Av d.Size,.osl 23 _ 0 a.length])) r (by simp)),r,r,trivial⟩))
      ·refine Qq (q:=235) (l:=ZQ) (en:=AhZ) (j:=f.Op.toNat) (by simp) r r r (Aww [15,16,17,18,19] (by assumption) (by simp_all) (by decide)) r (λ_=>r)<|?_
       refine Ab 3 λaa bl=>?_
       refine A 2 ?_;refine bD λbm ah=>sE (l:=a) (en:=Ob) (q':=aa) r r r r r r r (by simp) ah r r r r r<|?_
       refine A 7 ?_;exact xL (s:=(a.set c.toNat aa,i64.wrap (c+1))) (_,_,_,_,_,_) ((hE ⟨rfl,r,r,r,r,(AcM (q:=a.length) r (by simp)),r,r,trivial⟩ ⟨rfl,r,r,(Eq.trans (b:=dV _ 3 75 (.agg [Av e.Params,Av d.Size,.osl 23 _ 0 a.length])) r (by simp)),r,r,trivial⟩))
 ·refine A 12 ?_;refine Abm (b:=(OE.mk e.Params d.Size a)) r ?_ r r ?_ (by first|rfl|(simp only[NP];rfl)|(simp only[NR];rfl)|(simp only[NP,NR];rfl)|(simp[Aiv,ON];try rfl))
  all_goals first|(simp;done)|(simp;omega)|rfl|(simp[Pn,Pc];done)|(simp[cells];done)

noncomputable def AoJ:Dw.Spec:=NN [] .ground Ph Pg (λa=>Aas a.1 a.2) NX noE
theorem Ahu:NL Tryz.prog 165 AoJ:=by
 refine fn2 2 (nK 226 Ahr<|NG) Tryz.func165<|?_;rintro⟨a,b⟩;unfold Aas;refine Ac 19 ?_ ?_
 ·exact B
 ·refine A 9 ?_;refine lP (E:=λ(s:Int) (g:Nat×Nat)=>[(2,.optr 2 g.1 0 0),(3,.optr 3 g.2 0 0),(5,Av s)]) (O:=λ_ g=>[(2,dV g.1 3 36 (NQ a)),(3,dV g.2 1 45 (.agg [.sl (b.Out.map (eL Mk))]))]) (_,_) hX<|?_
  rintro k3 ⟨c,d⟩ nn;dsimp only[Aht];refine Ac 10 ?_ ?_
  ·refine Ab 10 λe f=>?_
   refine Ab 2 λh i=>?_
   refine Ac 4 ?_ ?_
   ·exact B
   ·refine Ab 7 λj k=>?_
    refine A 11 ?_;refine Tz r ?_ ?_
    ·refine Ab 3 λl m=>?_
     refine Ab 4 λo p=>?_
     refine Ac 9 ?_ ?_
     ·exact B
     ·refine A 8 ?_;exact xL (s:=i64.wrap (k3+1)) (_,_) hX
    ·refine A 25 ?_;exact xL (s:=i64.wrap (k3+1)) (_,_) hX
  ·exact B

end Go.Proofs.YtcaoepecbgggcaaGreatDoor
