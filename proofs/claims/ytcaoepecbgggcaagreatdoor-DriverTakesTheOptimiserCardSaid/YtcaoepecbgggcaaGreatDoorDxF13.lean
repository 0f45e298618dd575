/-
 The code does what its typed programs say.
-/
import Derived.Test.YtcaoepecbgggcaaGreatDoorCl
import Derived.Test.YtcaoepecbgggcaaGreatDoorTrl
import Derived.Test.YtcaoepecbgggcaaGreatDoorDxF11
import Derived.Test.YtcaoepecbgggcaaGreatDoorDxF12
namespace Go.Proofs.YtcaoepecbgggcaaGreatDoor
open Go Go.Dw Go.Proofs
open Go.IntKind (i64)
set_option maxRecDepth 100000
set_option maxHeartbeats 40000000
open Go.Dw renaming ON -> bD,Qa -> cK,Ts -> bS,YU -> sE,Aeq -> iO,PL -> cD,Pn -> xL,AeG -> hE,Qb -> lP,rf -> r
noncomputable def Aph:Dw.Spec:=NO [] (.row 1 3) Rv Ru (λa=>Aaa a.1 a.2) OC noE
theorem Aof:NK Tryz.prog 95 Aph:=by
 refine fn2 2 (nK 100 Ahm<|nK 158 Ail<|nK 159 UR<|nK 160 Akg<|NG) Tryz.func95<|?_;rintro⟨b,c⟩;unfold Aaa;refine Ab 19 λa d=>?_
 refine A 6 ?_;refine lP (E:=λ(s:(List Int)×Int) (g:Nat×Nat)=>[(5,.osl 5 g.1 0 s.1.length),(14,.osl 14 g.2 0 a.length),(15,Av (a.length:Int)),(16,Av s.2)]) (O:=λs g=>[(5,dW g.1 1 3 (s.1.map NF)),(14,dW g.2 5 90 (a.map NY))]) (_,_) hX<|?_
 rintro⟨e,f⟩ ⟨h,i⟩ nn;dsimp only[Ahk];exact B

def WT (b:Lo×Int):D:=.tup [NR b.1,Av b.2]
noncomputable def Aod:Dw.Spec:=NO [] .val Rv Ru (λa=>YM a.1 a.2) WT noE
theorem Anc:NK Tryz.prog 41 Aod:=by
 refine fn2 2 (nK 93 AbU<|nK 95 Aof<|nK 96 AjT<|nK 97 AuU<|nK 98 AgR<|nK 99 Amf<|nK 100 Ahm<|NG) Tryz.func41<|?_;rintro⟨c,e⟩;unfold YM;refine Ab 13 λv ac=>?_
 refine Ac 10 ?_ ?_
 ·refine A 10 ?_;refine Pu (b:=((Lo.mk 0 ([]) ([])),v)) r ?_ r r ?_ (by first|rfl|(simp only[NN];rfl)|(simp only[NQ];rfl)|(simp only[NN,NQ];rfl)|(simp[WT,NR];try rfl)) (by decide)
  all_goals first|(simp;done)|(simp;omega)|rfl|(simp[Pd,OU];done)|(simp[cells];done)
 ·refine Ab 15 λa ad=>?_
  refine A 13 ?_;refine lP (E:=λ(s:(List NS)×Int) (g:Nat×Nat×Nat×Nat×Nat×Nat×Nat)=>[(2,.optr 2 g.1 0 0),(3,.optr 3 g.2.1 0 0),(4,.optr 4 g.2.2.1 0 0),(7,.optr 7 g.2.2.2.1 0 0),(8,.osl 8 g.2.2.2.2.1 0 a.length),(33,.osl 8 g.2.2.2.2.1 0 a.length),(34,Av (a.length:Int)),(35,Av s.2)]) (O:=λs g=>[(2,dV g.1 3 36 (NR c)),(3,dV g.2.1 2 48 (.agg [.sl (e.To.map NF),.sl (e.Keep.map D.bool)])),(4,dV g.2.2.1 3 36 (.agg [Av 0,.nils,.nils])),(7,dV g.2.2.2.1 3 36 (.agg [Av c.Params,.osl 900 g.2.2.2.2.2.1 0 s.1.length,.osl 901 g.2.2.2.2.2.2 0 (([]:List Mk).length)])),(8,dW g.2.2.2.2.1 1 3 (a.map NF)),(900,dW g.2.2.2.2.2.1 2 87 (s.1.map OH)),(901,dW g.2.2.2.2.2.2 5 90 (([]:List Mk).map NY))]) (_,_,_,_,_,_,_) ((ZJ (gg:=7) (off:=1) (tt:=900) (s:=2) (tyy:=87) r r r r (ZJ (gg:=7) (off:=2) (tt:=901) (s:=5) (tyy:=90) r r r r hX)))<|?_
  rintro⟨d,o⟩ ⟨ae,af,ag,ah,ai,aj,ak⟩ nn;dsimp only[Agv];refine Ac 6 ?_ ?_
  ·refine Ab 7 λao ap=>?_
   refine Ab 9 λj aq=>?_
   refine Ab 12 λp ar=>?_
   refine A 6 ?_;refine lP (E:=λ(s:Int×Int) (g:Nat×Nat×Nat×Nat×Nat×Nat×Nat×Nat×Nat)=>[(2,.optr 2 g.1 0 0),(3,.optr 3 g.2.1 0 0),(4,.optr 4 g.2.2.1 0 0),(7,.optr 7 g.2.2.2.1 0 0),(8,.osl 8 g.2.2.2.2.1 0 a.length),(11,.optr 11 g.2.2.2.2.2.1 0 0),(33,.osl 8 g.2.2.2.2.1 0 a.length),(34,Av (a.length:Int)),(35,Av o),(47,.osl 47 g.2.2.2.2.2.2.1 0 p.length),(48,Av (p.length:Int)),(49,Av s.2)]) (O:=λs g=>[(2,dV g.1 3 36 (NR c)),(3,dV g.2.1 2 48 (.agg [.sl (e.To.map NF),.sl (e.Keep.map D.bool)])),(4,dV g.2.2.1 3 36 (.agg [Av 0,.nils,.nils])),(7,dV g.2.2.2.1 3 36 (.agg [Av c.Params,.osl 900 g.2.2.2.2.2.2.2.1 0 d.length,.osl 901 g.2.2.2.2.2.2.2.2 0 (([]:List Mk).length)])),(8,dW g.2.2.2.2.1 1 3 (a.map NF)),(11,dV g.2.2.2.2.2.1 2 87 (.agg [Av j.Size,Av s.1])),(47,dW g.2.2.2.2.2.2.1 1 3 (p.map NF)),(900,dW g.2.2.2.2.2.2.2.1 2 87 (d.map OH)),(901,dW g.2.2.2.2.2.2.2.2 5 90 (([]:List Mk).map NY))]) (_,_,_,_,_,_,_,_,_) hX<|?_
   rintro⟨k,au⟩ ⟨av,aw,ax,ay,az,ba,bb,bc,bd⟩ nn;dsimp only[Agw];refine Ac 6 ?_ ?_
   ·exact B
   ·refine A 9 ?_;refine bS ([(NS.mk j.Size k)]:List NS) OH r r r (by simp) r r r<|?_
    refine A 10 ?_;exact xL (s:=(d++([(NS.mk j.Size k)]:List NS),i64.wrap (o+1))) (_,_,_,_,_,_,_) ((ZK (E1:=[(2,.optr 2 _ 0 0),(3,.optr 3 _ 0 0),(4,.optr 4 _ 0 0),(7,.optr 7 _ 0 0),(8,.osl 8 _ 0 a.length),(33,.osl 8 _ 0 a.length),(34,Av (a.length:Int)),(35,Av (i64.wrap (o+1)))]) (O1:=[(2,dV _ 3 36 (NR c)),(3,dV _ 2 48 (.agg [.sl (e.To.map NF),.sl (e.Keep.map D.bool)])),(4,dV _ 3 36 (.agg [Av 0,.nils,.nils])),(7,dV _ 3 36 (.agg [Av c.Params,.osl 68 _ 0 ((d++([(NS.mk j.Size k)]:List NS)).length),.osl 901 _ 0 (([]:List Mk).length)])),(8,dW _ 1 3 (a.map NF)),(68,dW _ 2 87 ((d++([(NS.mk j.Size k)]:List NS)).map OH)),(901,dW _ 5 90 (([]:List Mk).map NY))]) hX (λ_=>Qe (λg=>bif Nat.beq g 68 then 900 else g) (by kernel_rfl) hX)))
  ·refine Ab 9 λx bf=>?_
   refine A 13 ?_;refine lP (E:=λ(s:(List Int)×Int) (g:Nat×Nat×Nat×Nat×Nat×Nat×Nat×Nat)=>[(2,.optr 2 g.1 0 0),(3,.optr 3 g.2.1 0 0),(4,.optr 4 g.2.2.1 0 0),(7,.optr 7 g.2.2.2.1 0 0),(8,.osl 8 g.2.2.2.2.1 0 a.length),(14,.osl 14 g.2.2.2.2.2.1 0 s.1.length),(74,.osl 14 g.2.2.2.2.2.1 0 s.1.length),(75,Av (x.length:Int)),(76,Av s.2)]) (O:=λs g=>[(2,dV g.1 3 36 (NR c)),(3,dV g.2.1 2 48 (.agg [.sl (e.To.map NF),.sl (e.Keep.map D.bool)])),(4,dV g.2.2.1 3 36 (.agg [Av 0,.nils,.nils])),(7,dV g.2.2.2.1 3 36 (.agg [Av c.Params,.osl 900 g.2.2.2.2.2.2.1 0 d.length,.osl 901 g.2.2.2.2.2.2.2 0 (([]:List Mk).length)])),(8,dW g.2.2.2.2.1 1 3 (a.map NF)),(14,dW g.2.2.2.2.2.1 1 3 (s.1.map NF)),(900,dW g.2.2.2.2.2.2.1 2 87 (d.map OH)),(901,dW g.2.2.2.2.2.2.2 5 90 (([]:List Mk).map NY))]) (_,_,_,_,_,_,_,_) hX<|?_
   rintro⟨bg,bh⟩ ⟨bi,bj,bk,bl,bm,bn,bo,bp⟩ nn;dsimp only[Agx];refine Ac 6 ?_ ?_
   ·exact B
   ·refine Ab 8 λq bq=>?_
    refine Ab 9 λz br=>?_
    refine A 15 ?_;refine lP (E:=λ(s:(List Mk)×Int) (g:Nat×Nat×Nat×Nat×Nat)=>[(4,.optr 4 g.1 0 0),(7,.optr 7 g.2.1 0 0),(17,.osl 17 g.2.2.1 0 q.length),(97,Av (z.length:Int)),(98,Av s.2)]) (O:=λs g=>[(4,dV g.1 3 36 (.agg [Av 0,.nils,.nils])),(7,dV g.2.1 3 36 (.agg [Av c.Params,.osl 900 g.2.2.2.2 0 d.length,.osl 93 g.2.2.2.1 0 s.1.length])),(17,dW g.2.2.1 1 3 (q.map NF)),(93,dW g.2.2.2.1 5 90 (s.1.map NY)),(900,dW g.2.2.2.2 2 87 (d.map OH))]) (_,_,_,_,_) hX<|?_
    rintro⟨i,m⟩ ⟨bs,bt,bu,bv,bw⟩ nn;dsimp only[AbS];refine Ac 6 ?_ ?_
    ·refine Ab 24 λbx bz=>?_
     refine Ac 10 ?_ ?_
     ·refine Ab 6 λca cb=>?_
      refine Ab 2 λt cc=>?_
      refine A 3 ?_;refine bD λf aa=>sE (l:=i) (en:=NY) (q':=(Mk.mk f.Op t f.B f.C f.Imm)) r r r r r r r (by simp) aa r r r r r<|?_
      refine A 8 ?_;exact xL (s:=(i.set m.toNat (Mk.mk f.Op t f.B f.C f.Imm),i64.wrap (m+1))) (_,_,_,_,_) ((hE ⟨rfl,r,r,r,r,trivial⟩ ⟨rfl,(Eq.trans (b:=dV _ 3 36 (.agg [Av c.Params,.osl 900 _ 0 d.length,.osl 93 _ 0 i.length])) r (by simp)),r,r,r,trivial⟩))
     ·refine Ac 6 ?_ ?_
      ·refine Ab 6 λcd ce=>?_
       refine Ab 2 λu cf=>?_
       refine A 3 ?_;refine bD λh ab=>sE (l:=i) (en:=NY) (q':=(Mk.mk h.Op h.A u h.C h.Imm)) r r r r r r r (by simp) ab r r r r r<|?_
       refine A 8 ?_;exact xL (s:=(i.set m.toNat (Mk.mk h.Op h.A u h.C h.Imm),i64.wrap (m+1))) (_,_,_,_,_) ((hE ⟨rfl,r,r,r,r,trivial⟩ ⟨rfl,(Eq.trans (b:=dV _ 3 36 (.agg [Av c.Params,.osl 900 _ 0 d.length,.osl 93 _ 0 i.length])) r (by simp)),r,r,r,trivial⟩))
      ·exact B
    ·refine A 13 ?_;refine Pu (b:=((Lo.mk c.Params d i),0)) r ?_ r r ?_ (by first|rfl|(simp only[NN];rfl)|(simp only[NQ];rfl)|(simp only[NN,NQ];rfl)|(simp[WT,NR];try rfl)) (by decide)
     all_goals first|(simp;done)|(simp;omega)|rfl|(simp[Pd,OU];done)|(simp[cells];done)

def AcM (a:NM×Int×NT):List D:=[Rc a.1,Av a.2.1,PK a.2.2]
def AcL (ds:List D):NM×Int×NT:=(Tt (ds.getD 0 .top),uI (ds.getD 1 .top),AfN (ds.getD 2 .top))
instance:Od AcM AcL:=⟨λa=>by simp[AcL,AcM,uI]⟩
def AjE (b:OG):D:=OQ b
noncomputable def AjF:Dw.Spec:=NO [] .val AcM AcL (λa=>Xs a.1 a.2.1 a.2.2) AjE noE
theorem AoJ:NK Tryz.prog 112 AjF:=by
 refine fn2 3 (nK 176 AuW<|nK 177 Aiq<|nK 236 AgM<|nK 237 AgN<|nK 238 AgO<|nK 239 AgP<|nK 240 AgQ<|nK 235 ApS<|NG) Tryz.func112<|?_;rintro⟨p1,i2,d⟩;unfold Xs;refine Ab 12 λe ak=>?_
 refine Ab 14 λr5 ao=>?_
 refine Ab 8 λr6 aq=>?_
 refine A 15 ?_;refine lP (E:=λ(s:(List Mk)×Int) (g:Nat×Nat×Nat×Nat×Nat×Nat)=>[(5,.optr 5 g.1 0 0),(6,.optr 6 g.2.1 0 0),(7,.optr 7 g.2.2.1 0 0),(8,.optr 8 g.2.2.2.1 0 0),(9,.optr 9 g.2.2.2.2.1 0 0),(27,.osl 23 g.2.2.2.2.2 0 s.1.length),(28,Av (r5.length:Int)),(29,Av s.2)]) (O:=λs g=>[(5,dV g.1 3 39 (PK d)),(6,dV g.2.1 3 75 (.agg [Av 0,Av 0,.nils])),(7,dV g.2.2.1 3 36 (NR e)),(8,dV g.2.2.2.1 3 75 (.agg [Av e.Params,Av d.Size,.osl 23 g.2.2.2.2.2 0 s.1.length])),(9,dV g.2.2.2.2.1 25 196 (.agg (AaG.map Ajf))),(23,dW g.2.2.2.2.2 5 90 (s.1.map NY))]) (_,_,_,_,_,_) hX<|?_
 rintro⟨a,c⟩ ⟨ar,au,av,aw,ax,ay⟩ nn;dsimp only[XT];refine Ac 6 ?_ ?_
 ·refine A 7 ?_;refine cK λhq=>iO (l:=a) (en:=NY) r r r r r hq<|bD λf az=>?_
  refine A 12 ?_;refine cK λhq=>QD r r r hq<|AiO (λh=>?_) (λh=>?_)
  ·refine Qy (q:=236) (l:=AaG) (en:=Ajf) (j:=f.Op.toNat) (by simp) r r r (AiN (k:=15) h r) r (λ_=>r)<|?_
   refine Ab 3 λi ba=>?_
   refine A 2 ?_;refine bD λbb ac=>sE (l:=a) (en:=NY) (q':=i) r r r r r r r (by simp) ac r r r r r<|?_
   refine A 7 ?_;exact xL (s:=(a.set c.toNat i,i64.wrap (c+1))) (_,_,_,_,_,_) ((hE ⟨rfl,r,r,r,r,(AdI (q:=a.length) r (by simp)),r,r,trivial⟩ ⟨rfl,r,r,(Eq.trans (b:=dV _ 3 75 (.agg [Av e.Params,Av d.Size,.osl 23 _ 0 a.length])) r (by simp)),r,r,trivial⟩))
  ·refine AiO (λm=>?_) (λm=>?_)
   ·refine Qy (q:=237) (l:=AaG) (en:=Ajf) (j:=f.Op.toNat) (by simp) r r r (AiN (k:=16) m r) r (λ_=>r)<|?_
    refine Ab 3 λo bc=>?_
    refine A 2 ?_;refine bD λbd ad=>sE (l:=a) (en:=NY) (q':=o) r r r r r r r (by simp) ad r r r r r<|?_
    refine A 7 ?_;exact xL (s:=(a.set c.toNat o,i64.wrap (c+1))) (_,_,_,_,_,_) ((hE ⟨rfl,r,r,r,r,(AdI (q:=a.length) r (by simp)),r,r,trivial⟩ ⟨rfl,r,r,(Eq.trans (b:=dV _ 3 75 (.agg [Av e.Params,Av d.Size,.osl 23 _ 0 a.length])) r (by simp)),r,r,trivial⟩))
   ·refine AiO (λp=>?_) (λp=>?_)
    ·refine Qy (q:=238) (l:=AaG) (en:=Ajf) (j:=f.Op.toNat) (by simp) r r r (AiN (k:=17) p r) r (λ_=>r)<|?_
     refine Ab 3 λt bf=>?_
     refine A 2 ?_;refine bD λbg ae=>sE (l:=a) (en:=NY) (q':=t) r r r r r r r (by simp) ae r r r r r<|?_
     refine A 7 ?_;exact xL (s:=(a.set c.toNat t,i64.wrap (c+1))) (_,_,_,_,_,_) ((hE ⟨rfl,r,r,r,r,(AdI (q:=a.length) r (by simp)),r,r,trivial⟩ ⟨rfl,r,r,(Eq.trans (b:=dV _ 3 75 (.agg [Av e.Params,Av d.Size,.osl 23 _ 0 a.length])) r (by simp)),r,r,trivial⟩))
    ·refine AiO (λu=>?_) (λu=>?_)
     ·refine Qy (q:=239) (l:=AaG) (en:=Ajf) (j:=f.Op.toNat) (by simp) r r r (AiN (k:=18) u r) r (λ_=>r)<|?_
      refine Ab 3 λv bh=>?_
      refine A 2 ?_;refine bD λbi af=>sE (l:=a) (en:=NY) (q':=v) r r r r r r r (by simp) af r r r r r<|?_
      refine A 7 ?_;exact xL (s:=(a.set c.toNat v,i64.wrap (c+1))) (_,_,_,_,_,_) ((hE ⟨rfl,r,r,r,r,(AdI (q:=a.length) r (by simp)),r,r,trivial⟩ ⟨rfl,r,r,(Eq.trans (b:=dV _ 3 75 (.agg [Av e.Params,Av d.Size,.osl 23 _ 0 a.length])) r (by simp)),r,r,trivial⟩))
     ·refine AiO (λx=>?_) (λx=>?_)
      ·refine Qy (q:=240) (l:=AaG) (en:=Ajf) (j:=f.Op.toNat) (by simp) r r r (AiN (k:=19) x r) r (λ_=>r)<|?_
       refine Ab 3 λz bj=>?_
       refine A 2 ?_;refine bD λbk ag=>sE (l:=a) (en:=NY) (q':=z) r r r r r r r (by simp) ag r r r r r<|?_
       refine A 7 ?_;exact xL (s:=(a.set c.toNat z,i64.wrap (c+1))) (_,_,_,_,_,_) ((hE ⟨rfl,r,r,r,r,(AdI (q:=a.length) r (by simp)),r,r,trivial⟩ ⟨rfl,r,r,(Eq.trans (b:=dV _ 3 75 (.agg [Av e.Params,Av d.Size,.osl 23 _ 0 a.length])) r (by simp)),r,r,trivial⟩))
      ·refine Qy (q:=235) (l:=AaG) (en:=Ajf) (j:=f.Op.toNat) (by simp) r r r (Ayg [15,16,17,18,19] (by assumption) (by simp_all) (by decide)) r (λ_=>r)<|?_
       refine Ab 3 λaa bl=>?_
       refine A 2 ?_;refine bD λbm ah=>sE (l:=a) (en:=NY) (q':=aa) r r r r r r r (by simp) ah r r r r r<|?_
       refine A 7 ?_;exact xL (s:=(a.set c.toNat aa,i64.wrap (c+1))) (_,_,_,_,_,_) ((hE ⟨rfl,r,r,r,r,(AdI (q:=a.length) r (by simp)),r,r,trivial⟩ ⟨rfl,r,r,(Eq.trans (b:=dV _ 3 75 (.agg [Av e.Params,Av d.Size,.osl 23 _ 0 a.length])) r (by simp)),r,r,trivial⟩))
 ·refine A 12 ?_;refine Aaz (b:=(OG.mk e.Params d.Size a)) r ?_ r r ?_ (by first|rfl|(simp only[NN];rfl)|(simp only[NQ];rfl)|(simp only[NN,NQ];rfl)|(simp[AjE,OQ];try rfl))
  all_goals first|(simp;done)|(simp;omega)|rfl|(simp[Pd,OU];done)|(simp[cells];done)

noncomputable def Aqr:Dw.Spec:=NO [] .ground Pl Pk (λa=>Abl a.1 a.2) NX noE
theorem AiA:NK Tryz.prog 165 Aqr:=by
 refine fn2 2 (nK 226 Aiw<|NG) Tryz.func165<|?_;rintro⟨a,b⟩;unfold Abl;refine Ac 19 ?_ ?_
 ·exact B
 ·refine A 9 ?_;refine lP (E:=λ(s:Int) (g:Nat×Nat)=>[(2,.optr 2 g.1 0 0),(3,.optr 3 g.2 0 0),(5,Av s)]) (O:=λ_ g=>[(2,dV g.1 3 36 (NR a)),(3,dV g.2 1 45 (.agg [.sl (b.Out.map (eL NF))]))]) (_,_) hX<|?_
  rintro k3 ⟨c,d⟩ nn;dsimp only[Aiz];refine Ac 10 ?_ ?_
  ·refine Ab 10 λe f=>?_
   refine Ab 2 λh i=>?_
   refine Ac 4 ?_ ?_
   ·exact B
   ·refine Ab 7 λj k=>?_
    refine A 11 ?_;refine RS r ?_ ?_
    ·refine Ab 3 λl m=>?_
     refine Ab 4 λo p=>?_
     refine Ac 9 ?_ ?_
     ·exact B
     ·refine A 8 ?_;exact xL (s:=i64.wrap (k3+1)) (_,_) hX
    ·refine A 25 ?_;exact xL (s:=i64.wrap (k3+1)) (_,_) hX
  ·exact B

end Go.Proofs.YtcaoepecbgggcaaGreatDoor
