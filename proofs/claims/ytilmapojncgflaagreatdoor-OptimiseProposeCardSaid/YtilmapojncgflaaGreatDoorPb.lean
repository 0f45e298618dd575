/-
  Plain laws about the typed programs.
-/
import Derived.Test.YtilmapojncgflaaGreatDoorPa
import Derived.Test.YtilmapojncgflaaGreatDoorDxP
open BitVec renaming ofInt->aAP,toNat_and->aAj
open Bool renaming not_true->aAR,cond_eq_ite->aAi
open Classical renaming choose_spec->aAp,choose->aAs
open Int renaming toNat_natCast->aAB,toNat_of_nonneg->aAM,mul_le_mul_of_nonneg_left->aAN,dvd_of_emod_eq_zero->aAT,emod_add_mul_ediv->aAV,lt_or_le->aAZ,emod_lt_of_pos->aAe,tmod_eq_emod_of_nonneg->aAf,lt_of_mul_lt_mul_left->aAh,emod_nonneg->aAl
open List renaming getElem?_eq_getElem->aAA,getElem_mem->aAD,getElem?_eq_some_iff->aAE,mem_of_getElem?->aAF,getElem?_of_mem->aAG,take_length->aAI,take_succ_eq_append_getElem->aAL,pairwise_iff_getElem->aAO,mem_append->aAQ,replicate->aAS,mem_singleton->aAU,range->aAW,drop_eq_getElem_cons->aAY,take_add_one->aAa,mem_cons->aAb,getElem?_set_ne->aAd,ext_getElem?->aAg,getElem?_replicate->aAk,getElem?_set_self->aAm,take_append_drop->aAn,mem_iff_getElem?->aAo,getElem?_eq_none->aAq,length_replicate->aAr
open Nat renaming zero_le->aAC,pow_le_pow_right->aAH,le_refl->aAJ,not_lt_zero->aAK,and_sub_one_eq_zero_iff_isPowerOfTwo->aAX,two_pow_pos->aAc
open Option renaming bind_some->aA
namespace Go.Proofs.YtilmapojncgflaaGreatDoor
open Go Go.Dw Go.Proofs
open Classical in
noncomputable def SN (g:List (List Int)) (to:List Int) (p:Po):List Int :=
 if Pd to p.a0=Pd to p.a1 then to else if SY g to (Pd to p.a0) (Pd to p.a1)then Yi to (Pd to p.a0) (Pd to p.a1)else to
variable {g:List (List Int)} {to u:List Int} {p:Po} {s:List Pa} {k x6:Nat} {l:List OU} {a frm size:Int} {f:Mk}
noncomputable def AtA (n:Nat) (g:List (List Int)) (mv:List Po):List Int:=mv.foldl (SN g) ((aAW n).map λi:Nat=>(i:Int))
theorem Aqc (to:List Int) (a b:Int):(Yi to a b).length=to.length:=by grind [Yi]
theorem Avl (g:List (List Int)) (to:List Int) (p:Po):(SN g to p).length=to.length:=by
 grind [SN,Aqc]
theorem Asm (h:Pd to p.a0=Pd to p.a1):SN g to p=to:=by simp_all[SN]
theorem Asl (h:Pd to p.a0≠Pd to p.a1) (hA:SY g to (Pd to p.a0) (Pd to p.a1)):SN g to p=Yi to (Pd to p.a0) (Pd to p.a1):=by simp_all[SN]
theorem Asn (hA:¬ SY g to (Pd to p.a0) (Pd to p.a1)):SN g to p=to:=by simp_all[SN]
section
variable {n:Nat} {g:List (List Int)} {Q:Nat->Int->Prop} {to:List Int}
theorem Awj (to:List Int) (s:Nat):Pd to (s:Int)=(to[s]?).getD 0:=by simp[Pd]
def Yb (to:List Int) (s:Int) (k:Nat) (l:List Int):Prop:=∀ t,t∈l↔∃ j:Nat,j<k/\t=(j:Int)/\Pd to j=s
theorem Yb.zero (to:List Int) (s:Int):Yb to s 0 []:=λt=>⟨λh=>(by cases h),λ⟨j,h,_⟩=>absurd h (aAK _)⟩
theorem Yb.yes {s:Int} {l:List Int} (h:Yb to s k l) (e:Pd to k=s):Yb to s (k+1) (l++[(k:Int)]):=λt=>by
 rw[aAQ,h t,aAU]
 grind
theorem Yb.no {s:Int} {l:List Int} (h:Yb to s k l) (e:Pd to k≠s):Yb to s (k+1) l:=λt=>by
 rw[h t]
 grind
theorem AnE (hg:PX n g Q) (htn:to.length=n) {b:Int} {xs ys:List Int} (hx:Yb to a to.length xs) (hy:Yb to b to.length ys):SY g to a b↔∀ x∈xs,∀ row,g[x.toNat]? =some row->∀ y∈ys,y∉row:=by
 constructor
 ·intro h x hxm row hr y hym;obtain⟨i,i1,rfl,i3⟩:=(hx x).1 hxm;obtain⟨j,j1,rfl,j3⟩:=(hy y).1 hym;exact h i j row i1 j1 i3 j3 hr
 ·intro h x y row h1 h2 h3 h4 h5;exact h x ((hx x).2 ⟨x,h1,rfl,h3⟩) row (by simp_all) y ((hy y).2 ⟨y,h2,rfl,h4⟩)
structure Whole (n:Nat) (to:List Int):Prop where
 len:to.length=n
 at_:∀ s:Nat,s<n->0<=Pd to s/\Pd to s<=s/\Pd to (Pd to s)=Pd to s
theorem Asu (h:RO u to):Whole u.length to:=by
 refine⟨h.len.symm,λs hs=>?_⟩
 obtain⟨x,y,e1,e2,g1,g2,g3,g4,g5,g6,g7⟩:=h.get hs
 grind [Awj]
theorem AfA (hR:RO u to) {s:Int} (h0:0<=s) (h1:s<to.length):∃ u',Wg u s=some (u',Pd to s)/\RO u' to:=Auy hR h0 (Qv h0 h1)
theorem Atk {u5:List Int} (hR:RO u to) (hn:to.length<=500) (h5:u5.length=to.length) {b:Int} (ha0:0<=a) (ha1:a<to.length) (haa:Pd to a=a) (hb0:0<=b) (hb1:b<to.length) (hbb:Pd to b=b) (hne:a≠b) (hx6:x6<1000000) {r8 r9:List Int×Int} (e8:r8.2=a) (e9:r9.2=b) (q:Bool) :
  Hs (SS u5 r8 r9 (x6:Int) u q) λz=>∃ u',z= .inl (u',((x6+1:Nat):Int))/\RO u' (if q=true then Yi to a b else to):=by
 have hul:=hR.len;refine .chk (by omega) ?_
 rw[OX (by omega),e8,e9]
 cases q with
 | false=>exact .pure ⟨u,rfl,by simp_all⟩
 | true =>
  simp only[cond_true,if_true];obtain⟨u1,f1,R1⟩:=AfA hR ha0 ha1;obtain⟨u2,f2,R2⟩:=AfA R1 hb0 hb1;have l1:=R1.len;have l2:=R2.len;refine .chk (by omega) ?_
  rw[f1,aA];refine .chk (by grind) ?_
  rw[f2,aA,haa,hbb];obtain⟨an,rfl⟩:∃ k:Nat,a=(k:Int):=⟨a.toNat,by omega⟩
  obtain⟨bn,rfl⟩:∃ k:Nat,b=(k:Int):=⟨b.toNat,by omega⟩
  have em:PJ (an:Int) (bn:Int)=((max an bn:Nat):Int):=by grind [PJ]
  have ei:RQ (an:Int) (bn:Int)=((min an bn:Nat):Int):=by grind [RQ]
  rw[em,ei];refine .chk (by grind) ?_
  simp only[aAB];rw[aAA (by omega),aA]
  refine .pure ⟨_,rfl,R2.join ?_ ?_ (by omega)⟩
  all_goals grind [Qv,aAB]
theorem AxC (hg:PX n g Q) (htn:to.length=n) {u5:List Int} (hR:RO u to) (hn:to.length<=500) (h5:u5.length=to.length) {b:Int} (ha0:0<=a) (ha1:a<to.length) (haa:Pd to a=a) (hb0:0<=b) (hb1:b<to.length) (hbb:Pd to b=b) (hne:a≠b) (hx6:x6<1000000) {r8 r9:List Int×Int} (e8:r8.2=a) (e9:r9.2=b) {xs ys:List Int} (hx:Yb to a to.length xs) (hxl:xs.length<=to.length) (hy:Yb to b to.length ys) {m:List (Int×Bool)} (hm:∀ y,QL false y m=decide (y∈ys)) :
  Hs (Pc (λs=>Wc xs g m u5 r8 r9 (x6:Int) u s) 0) λz=>∃ u',z= .inl (u',((x6+1:Nat):Int))/\((SY g to a b->RO u' (Yi to a b))/\(¬ SY g to a b->RO u' to)):=by
 have hgl:=hg.1;have hap:=AnE hg htn hx hy;have no:¬ SY g to a b->Hs (SS u5 r8 r9 (x6:Int) u false) λz=>∃ u',z= .inl (u',((x6+1:Nat):Int))/\((SY g to a b->RO u' (Yi to a b))/\(¬ SY g to a b->RO u' to)):=λhna=>(Atk hR hn h5 ha0 ha1 haa hb0 hb1 hbb hne hx6 e8 e9 false).mono λz ⟨u',h1,h2⟩=>⟨u',h1,λh=>(hna h).elim,λ_=>by simp_all⟩
 refine Hs.loop (λi=>∃ k:Nat,i=(k:Int)/\k<=xs.length/\∀ x∈xs.take k,∀ row,g[x.toNat]? =some row->∀ y∈ys,y∉row) (λi=>xs.length-i.toNat) ⟨0,rfl,aAC _,λx h=>by simp at h⟩ ?_
 rintro _ ⟨k,rfl,hk,hall⟩;refine .dec (λhlt=>?_) λhge=>.lft ?_
 ·have hlt:k<xs.length:=by omega
  have hgx:xs[k]? =some xs[k]:=aAA _;have hxm:=aAD hlt;have htk:xs.take (k+1)=xs.take k++[xs[k]]:=by simp_all
  generalize xs[k]=x at hgx hxm htk;obtain⟨jx,hjx,rfl,hja⟩:=(hx x).1 hxm;have hrow:g[jx]? =some (g[jx]'(by omega)):=aAA _
  generalize g[jx]'(by omega)=row at hrow
  have hrl:=(hg.2 jx row hrow).1.1.length_le;refine .chk (by omega) ?_
  rw[aAB,hgx,aA,Pq,hrow,aA];refine Hs.loop (λi=>∃ m:Nat,i=(m:Int)/\m<=row.length/\∀ y∈row.take m,y∉ys) (λi=>row.length-i.toNat) ⟨0,rfl,aAC _,λx h=>by simp at h⟩ ?_
  rintro _ ⟨p,rfl,hp,hno⟩;refine .dec (λhlt2=>?_) λhge2=>.lft ?_
  ·have hlt2:p<row.length:=by omega
   have hgy:row[p]? =some row[p]:=aAA _;have htm:row.take (p+1)=row.take p++[row[p]]:=by grind [aAa]
   have hym:=aAD hlt2;generalize row[p]=y at hgy htm hym;rw[Pq,hgy,aA,hm,OX (by omega)]
   refine .dec (λh=>.lft ?_) λh=>.cnt ⟨⟨p+1,rfl,hlt2,λz hz=>?_⟩,by grind⟩
   ·unfold SU;rw[decide_eq_true (by omega),cond_true]
    refine .lft (no λhA=>?_)
    grind
   grind
  ·have hpp:p=row.length:=by omega
   subst hpp;rw[aAI]at hno;unfold SU;rw[decide_eq_false (by omega),cond_false,OX (by omega)]
   refine .cnt ⟨⟨k+1,rfl,hlt,λz hz row' hr y hy' hyr=>?_⟩,by simp only;omega⟩
   rw[htk]at hz;rcases aAQ.1 hz with hz|hz
   ·exact hall z hz row' hr y hy' hyr
   ·rw[aAU.1 hz,aAB,hrow]at hr;cases hr;exact hno y hyr hy'
 ·have hkk:k=xs.length:=by omega
  subst hkk;rw[aAI]at hall;have hA:SY g to a b:=hap.2 hall;exact(Atk hR hn h5 ha0 ha1 haa hb0 hb1 hbb hne hx6 e8 e9 true).mono λz ⟨u',h1,h2⟩=>⟨u',h1,λ_=>by simp_all,λh=>(h hA).elim⟩
theorem AvE (hg:PX n g Q) (htn:to.length=n) {u5:List Int} (hR:RO u to) (hn:to.length<=500) (h5:u5.length=to.length) {b:Int} (ha0:0<=a) (ha1:a<to.length) (haa:Pd to a=a) (hb0:0<=b) (hb1:b<to.length) (hbb:Pd to b=b) (hne:a≠b) (hx6:x6<1000000) {r8 r9:List Int×Int} (e8:r8.2=a) (e9:r9.2=b) :
  Hs (Pc (λs=>Vl u5 r9 r8 g (x6:Int) s.1 s.2.1 s.2.2) (u,([]:List Int),0)) λz=>∃ u',z= .inl (u',((x6+1:Nat):Int))/\((SY g to a b->RO u' (Yi to a b))/\(¬ SY g to a b->RO u' to)):=by
 refine Hs.loop (λs=>∃ k:Nat,s.2.2=(k:Int)/\k<=to.length/\RO s.1 to/\s.2.1.length<=k/\Yb to b k s.2.1) (λs=>to.length-s.2.2.toNat) ⟨0,rfl,aAC _,hR,aAJ _,Yb.zero to b⟩ ?_
 rintro⟨u1,ys,_⟩ ⟨k,rfl,hk,R1,hyl,hy⟩;replace R1:RO u1 to:=R1;replace hyl:ys.length<=k:=hyl;have l1:=R1.len;refine .dec (λhlt=>?_) λhge=>.lft ?_
 ·have hlt:k<to.length:=by simp_all
  obtain⟨u2,f2,R2⟩:=AfA R1 (s:=(k:Int)) (by omega) (by omega)
  refine .chk (by grind) ?_
  simp only[f2,aA,e9,OX (show k<9223372036854775807 by omega)]
  refine .beq (λh=>.chk (by simp;omega) (.cnt ⟨⟨k+1,rfl,hlt,R2,by simp;omega,hy.yes h⟩,by grind⟩)) λh=>.cnt ⟨⟨k+1,rfl,hlt,R2,by grind,hy.no h⟩,by grind⟩
 have hkk:k=to.length:=by grind
 subst hkk;refine .chk (by simp_all) ?_
 refine Hs.loop (λs=>∃ i:Nat,s.2=(i:Int)/\i<=ys.length/\∀ y,QL false y s.1=decide (y∈ys.take i)) (λs=>ys.length-s.2.toNat) ⟨0,rfl,aAC _,λy=>by simp[QL]⟩ ?_
 rintro⟨m,_⟩ ⟨i,rfl,hi,hm⟩;refine .dec (λhlt=>?_) λhge=>.lft ?_
 ·have hlt:i<ys.length:=by simp_all
  have hgy:ys[i]? =some ys[i]:=aAA _;have htm:ys.take (i+1)=ys.take i++[ys[i]]:=by simp_all
  generalize ys[i]=x at hgy htm;refine .chk (by omega) ?_
  simp only[aAB,hgy,aA];rw[OX (by omega)]
  refine .cnt ⟨⟨i+1,rfl,hlt,λy=>?_⟩,by grind⟩
  show QL false y (RT x true m)=_;rw[AkW,hm,htm]
  grind
 have hii:i=ys.length:=by grind
 subst hii;rw[aAI]at hm;refine Hs.loop (λs=>∃ k:Nat,s.2.2=(k:Int)/\k<=to.length/\RO s.1 to/\s.2.1.length<=k/\Yb to a k s.2.1) (λs=>to.length-s.2.2.toNat) ⟨0,rfl,aAC _,R1,aAJ _,Yb.zero to a⟩ ?_
 rintro⟨u3,xs,_⟩ ⟨k,rfl,hk,R3,hxl,hx⟩;replace R3:RO u3 to:=R3;replace hxl:xs.length<=k:=hxl;have l3:=R3.len;refine .dec (λhlt=>?_) λhge=>.lft ?_
 ·have hlt:k<to.length:=by simp_all
  obtain⟨u2,f2,R2⟩:=AfA R3 (s:=(k:Int)) (by omega) (by omega)
  refine .chk (by grind) ?_
  simp only[f2,aA,e8,OX (show k<9223372036854775807 by omega)]
  refine .beq (λh=>.chk (by simp;omega) (.cnt ⟨⟨k+1,rfl,hlt,R2,by simp;omega,hx.yes h⟩,by grind⟩)) λh=>.cnt ⟨⟨k+1,rfl,hlt,R2,by grind,hx.no h⟩,by grind⟩
 have hkk:k=to.length:=by grind
 subst hkk;exact AxC hg htn R3 hn h5 ha0 ha1 haa hb0 hb1 hbb hne hx6 e8 e9 hx hxl hy hm
theorem AsQ (hf:Pu f) (hml:Acv f) (hg:PX f.Slots.length g Q):Hs (VI f g) λto=>to=AtA f.Slots.length g (Tm f.Code []):=by
 have hlen:=hf.len';have hsl:=hf.slots;obtain⟨mv,hmv0,hmvl,hmv⟩:=ApT hlen;rw[AmP f (by omega)]at hmv0
 cases hmv0;refine Hs.bind (P:=λu=>u=(aAW f.Slots.length).map λi:Nat=>(i:Int)) ?_ λu hu=>?_
 ·refine .chk (by omega) ?_
  refine Hs.loop (λs=>∃ k:Nat,s.2=(k:Int)/\k<=f.Slots.length/\s.1.length=f.Slots.length/\∀ j:Nat,j<k->s.1[j]? =some (j:Int)) (λs=>f.Slots.length-s.2.toNat) ⟨0,rfl,aAC _,by simp,λj hj=>absurd hj (aAK _)⟩ ?_
  rintro⟨u,_⟩ ⟨k,rfl,hk,hul,hu⟩;replace hul:u.length=f.Slots.length:=hul;refine .dec (λhlt=>?_) λhge=>.lft (.pure ?_)
  ·have hlt:k<f.Slots.length:=by simp_all
   refine .chk (by simp_all) ?_
   simp only[aAB];rw[aAA (by omega),aA,OX (by omega)]
   refine .cnt ⟨⟨k+1,rfl,hlt,by simp[hul],λj hj=>?_⟩,by grind⟩
   grind
  ·have hkk:k=f.Slots.length:=by grind
   subst hkk;show u=_;refine aAg λj=>?_
   grind
 subst hu;rw[AvU f (by omega),aA]
 have hmvs:∀ p∈Tm f.Code [],0<=p.a0/\p.a0<f.Slots.length/\0<=p.a1/\p.a1<f.Slots.length:=λp hp=>by
  obtain⟨x,hx,hop,rfl⟩:=hmv p hp;obtain⟨a0,a1,b0,b1,_⟩:=hml x hx hop;simp_all
 unfold AtA;generalize Tm f.Code []=mv at hmvs hmvl;have hR0:=RO.Atj f.Slots.length;have hi0:((aAW f.Slots.length).map λi:Nat=>(i:Int)).length=f.Slots.length:=by simp
 generalize((aAW f.Slots.length).map λi:Nat=>(i:Int))=id0 at hR0 hi0
 have fl:∀ k,((mv.take k).foldl (SN g) id0).length=f.Slots.length:=by
  intro k;generalize mv.take k=l;clear hR0
  induction l generalizing id0<;>grind [Avl]
 refine Hs.loop (λs=>∃ k:Nat,s.2=(k:Int)/\k<=mv.length/\RO s.1 ((mv.take k).foldl (SN g) id0)) (λs=>mv.length-s.2.toNat) ⟨0,rfl,aAC _,hR0⟩ ?_
 rintro⟨u,_⟩ ⟨k,rfl,hk,hR⟩;replace hR:RO u ((mv.take k).foldl (SN g) id0):=hR;refine .dec (λhlt=>?_) λhge=>.lft ?_
 ·have hlt:k<mv.length:=by omega
  have hgp:mv[k]? =some mv[k]:=aAA _;have htk:mv.take (k+1)=mv.take k++[mv[k]]:=by simp_all
  have hpm:=hmvs _ (aAD hlt);generalize mv[k]=p at hgp htk hpm;have hfs:(mv.take (k+1)).foldl (SN g) id0=SN g ((mv.take k).foldl (SN g) id0) p:=by simp_all
  have hto:=fl k;generalize(mv.take k).foldl (SN g) id0=to at hR hfs hto;have hW:=Asu hR;have hul:=hR.len;obtain⟨a0,a1,b0,b1⟩:=hpm;refine .chk (by omega) ?_
  simp only[aAB,hgp,aA];obtain⟨u1,f1,R1⟩:=AfA hR a0 (by omega)
  obtain⟨u2,f2,R2⟩:=AfA R1 b0 (by omega)
  have l1:=R1.len;refine .chk (by omega) ?_
  rw[f1,aA];refine .chk (by grind) ?_
  rw[f2,aA];have nat:∀ {s:Int},0<=s->s<f.Slots.length->0<=Pd to s/\Pd to s<to.length/\Pd to (Pd to s)=Pd to s:=fun{s} h0 h1=>by
   obtain⟨j,rfl⟩:∃ j:Nat,s=(j:Int):=⟨s.toNat,by omega⟩
   obtain⟨w1,w2,w3⟩:=hW.at_ j (by omega)
   omega
  obtain⟨qa1,qa2,qa3⟩:=nat a0 a1;obtain⟨qb1,qb2,qb3⟩:=nat b0 b1;refine .bne (λhne=>?_) λhe=>?_
  ·refine(AvE (x6:=k) hg (by omega) R2 (by omega) (by omega) qa1 qa2 qa3 qb1 qb2 qb3 hne (by omega) rfl rfl).mono λz ⟨u',h1,h2,h3⟩=>?_
   subst h1;refine⟨⟨k+1,rfl,hlt,?_⟩,by grind⟩
   grind [SY,Asl,Asn]
  ·rw[Asm he]at hfs;rw[OX (by omega)]
   refine .cnt ⟨⟨k+1,rfl,hlt,?_⟩,by grind⟩
   simp_all
 ·have hkk:k=mv.length:=by omega
  subst hkk;have hto:=fl mv.length;rw[aAI]at hR hto;generalize mv.foldl (SN g) id0=to at hR hto;refine Hs.loop (λs=>∃ k:Nat,s.2.2=(k:Int)/\k<=to.length/\RO s.2.1 to/\s.1=to.take k) (λs=>to.length-s.2.2.toNat) ⟨0,rfl,aAC _,hR,rfl⟩ ?_
  rintro⟨_,u1,_⟩ ⟨k,rfl,hk,R1,rfl⟩;replace R1:RO u1 to:=R1;have l1:=R1.len;have hul:=hR.len;refine .dec (λhlt=>?_) λhge=>.lft (.pure ?_)
  ·have hlt:k<to.length:=by simp_all
   obtain⟨u2,f2,R2⟩:=AfA R1 (s:=(k:Int)) (by omega) (by omega)
   refine .chk (by grind) ?_
   simp only[f2,aA,OX (show k<9223372036854775807 by omega)]
   refine .chk (by simp;omega) (.cnt ⟨⟨k+1,rfl,hlt,R2,?_⟩,by grind⟩)
   grind [Qv,aAB,aAa]
  ·have hkk:k=to.length:=by grind
   subst hkk;show to.take to.length=to
   grind
end
open Go Go.Dw Go.Proofs
section
variable {n:Nat} {g:List (List Int)} {Q:Nat->Int->Prop} {to:List Int}
theorem AuW (hg:PX n g Q) (htn:to.length=n) (hl:n<=500) (a b:Int):Hs (AcH g to a b) λr=>(r=true↔SY g to a b):=by
 refine(AhM (by omega) a).bind λxs hx=>(AhM (by omega) b).bind λys hy=>?_
 have hap:=AnE hg htn (xs:=xs) (ys:=ys) hx.2 hy.2;refine Hs.loop (λi=>∃ k:Nat,i=(k:Int)/\k<=xs.length/\∀ x∈xs.take k,∀ row,g[x.toNat]? =some row->∀ y∈ys,y∉row) (λi=>xs.length-i.toNat) ⟨0,rfl,aAC _,λx h=>by simp at h⟩ ?_
 rintro _ ⟨k,rfl,hk,hall⟩;refine .dec (λhlt=>?_) λhge=>.lft (.pure ⟨λ_=>hap.2 ?_,λ_=>rfl⟩)
 rotate_left
 ·grind
 have hlt:k<xs.length:=by omega
 have hgx:xs[k]? =some xs[k]:=aAA _;have hxm:=aAD hlt;have htk:xs.take (k+1)=xs.take k++[xs[k]]:=by simp_all
 generalize xs[k]=x at hgx hxm htk;obtain⟨jx,hjx,rfl,_⟩:=(hx.2 x).1 hxm;have hgl:=hg.1;have hrow:g[jx]? =some (g[jx]'(by omega)):=aAA _
 generalize g[jx]'(by omega)=row at hrow
 have hset:=(hg.2 jx row hrow).1;have hrl:=hset.1.length_le;refine Hs.loop (λi=>∃ m:Nat,i=(m:Int)/\m<=ys.length/\∀ y∈ys.take m,y∉row) (λi=>ys.length-i.toNat) ⟨0,rfl,aAC _,λx h=>by simp at h⟩ ?_
 rintro _ ⟨m,rfl,hm,hno⟩;refine .dec (λhlt2=>?_) λhge2=>.lft ?_
 ·have hlt2:m<ys.length:=by omega
  have hgy:ys[m]? =some ys[m]:=aAA _;have hym:=aAD hlt2;have htm:ys.take (m+1)=ys.take m++[ys[m]]:=by simp_all
  generalize ys[m]=y at hgy htm hym;refine .chk (by omega) ?_
  simp only[aAB,hgx,aA,Pq,hrow];refine .chk (by omega) ?_
  rw[hgy,aA,AaW _ _ (by omega),aA,OX (by omega)]
  refine .dec (λh=>.lft (.lft (.pure ⟨λh=>(by cases h),λhA=>(hap.1 hA _ hxm row (by simp_all) y hym h).elim⟩))) λh=>.cnt ⟨⟨m+1,rfl,hlt2,λz hz=>?_⟩,by grind⟩
  grind
 ·have hmm:m=ys.length:=by omega
  subst hmm;rw[aAI]at hno;unfold YN;rw[OX (by omega)]
  refine .cnt ⟨⟨k+1,rfl,hlt,λz hz row' hr y hy'=>?_⟩,by grind⟩
  grind [aAB]
theorem Aom (a b:Int):RQ a b=min a b:=by grind [RQ]
theorem AsR (hf:Pu f) (hml:Acv f) (hg:PX f.Slots.length g Q):Hs (Sp f g) λto=>to=AtA f.Slots.length g (Tm f.Code []):=by
 have hlen:=hf.len';have hsl:=hf.slots;obtain⟨mv,hmv0,hmvl,hmv⟩:=ApT hlen;rw[AmP f (by omega)]at hmv0
 cases hmv0;unfold Sp;refine Hs.loop (λs=>∃ k:Nat,s.2=(k:Int)/\k<=f.Slots.length/\s.1=(aAW k).map λi:Nat=>(i:Int)) (λs=>f.Slots.length-s.2.toNat) ⟨0,rfl,aAC _,rfl⟩ ?_
 rintro⟨_,_⟩ ⟨k,rfl,hk,rfl⟩;unfold Zo;refine .dec (λhlt=>?_) λhge=>.lft ?_
 ·have hlt:k<f.Slots.length:=by omega
  refine .chk (by simp;omega) ?_
  rw[OX (by omega)]
  refine .cnt ⟨⟨k+1,rfl,hlt,?_⟩,by grind⟩
  grind [List.range_succ]
 have hkk:k=f.Slots.length:=by omega
 subst hkk;have hmvs:∀ p∈Tm f.Code [],0<=p.a0/\p.a0<f.Slots.length/\0<=p.a1/\p.a1<f.Slots.length:=λp hp=>by
  obtain⟨x,hx,hop,rfl⟩:=hmv p hp;obtain⟨a0,a1,b0,b1,_⟩:=hml x hx hop;simp_all
 rw[AmP f (by omega),aA]
 unfold AtA;generalize Tm f.Code []=mv at hmvs hmvl;have hW0:Whole f.Slots.length ((aAW f.Slots.length).map λi:Nat=>(i:Int)):=by
  have:=Asu (RO.Atj f.Slots.length);simp_all
 generalize((aAW f.Slots.length).map λi:Nat=>(i:Int))=id0 at hW0
 refine Hs.loop (λs=>∃ k:Nat,s.2=(k:Int)/\k<=mv.length/\s.1=(mv.take k).foldl (SN g) id0/\Whole f.Slots.length s.1) (λs=>mv.length-s.2.toNat) ⟨0,rfl,aAC _,rfl,hW0⟩ ?_
 rintro⟨to,_⟩ ⟨k,rfl,hk,hto,hW⟩;replace hto:to=(mv.take k).foldl (SN g) id0:=hto;replace hW:Whole f.Slots.length to:=hW;have htl:=hW.len;unfold VW;refine .dec (λhlt=>?_) λhge=>.lft (.pure ?_)
 rotate_left
 ·have hkk:k=mv.length:=by omega
  subst hkk;rw[aAI]at hto;exact hto
 have hlt:k<mv.length:=by omega
 have hgp:mv[k]? =some mv[k]:=aAA _;have htk:mv.take (k+1)=mv.take k++[mv[k]]:=by simp_all
 have hpm:=hmvs _ (aAD hlt);generalize mv[k]=p at hgp htk hpm;have hfs:(mv.take (k+1)).foldl (SN g) id0=SN g to p:=by simp_all
 obtain⟨a0,a1,b0,b1⟩:=hpm;have hA:=Qv (to:=to) (s:=p.a0) a0 (by omega)
 have hB:=Qv (to:=to) (s:=p.a1) b0 (by omega)
 simp only[aAB,hgp,aA,hA,hB];have skip:SN g to p=to->Hs (QQ (k:Int) to) (Rnd (λs:List Int×Int=>∃ k:Nat,s.2=(k:Int)/\k<=mv.length/\s.1=(mv.take k).foldl (SN g) id0/\Whole f.Slots.length s.1) (λs=>mv.length-s.2.toNat) (to,(k:Int)) λt=>t=mv.foldl (SN g) id0):=λh=>by
  unfold QQ;rw[OX (by omega)]
  exact .cnt ⟨⟨k+1,rfl,hlt,by rw[hfs,h],hW⟩,by grind⟩
 refine .chk (by omega) (.chk (by omega) (.chk (by omega) (.chk (by omega) (.beq (λh=>skip (Asm h)) λhne=>?_))))
 refine(AuW hg htl hsl (Pd to p.a0) (Pd to p.a1)).bind λr hr=>.cond (λh=>skip (Asn λhA=>by simp_all)) λhrt=>?_
 have hap:=hr.1 (by simp_all)
 have hst:=Asl hne hap;have nat:∀ {s:Int},0<=s->s<f.Slots.length->0<=Pd to s/\Pd to s<to.length/\Pd to (Pd to s)=Pd to s:=fun{s} h0 h1=>by
  obtain⟨j,rfl⟩:∃ j:Nat,s=(j:Int):=⟨s.toNat,by omega⟩
  obtain⟨w1,w2,w3⟩:=hW.at_ j (by omega)
  omega
 obtain⟨qa1,qa2,qa3⟩:=nat a0 a1;obtain⟨qb1,qb2,qb3⟩:=nat b0 b1;rw[hst]at hfs;generalize Pd to p.a0=a at *;generalize Pd to p.a1=b at *;unfold VY;refine Hs.loop (λs=>∃ k:Nat,s.2=(k:Int)/\k<=to.length/\s.1.length=to.length/\∀ j:Nat,j<to.length->Pd s.1 j=if j<k then Qz a b (Pd to j)else Pd to j) (λs=>to.length-s.2.toNat) ⟨0,rfl,aAC _,rfl,λj _=>(by simp)⟩ ?_
 rintro⟨t2,_⟩ ⟨m,rfl,hm,h2l,h2⟩;replace h2l:t2.length=to.length:=h2l;replace h2:∀ j:Nat,j<to.length->Pd t2 j=if j<m then Qz a b (Pd to j)else Pd to j:=h2
 unfold VX;refine .dec (λhlt2=>?_) λhge2=>.lft ?_
 ·have hlt2:m<to.length:=by simp_all
  have hgk:=Qv (to:=t2) (s:=(m:Int)) (by omega) (by omega)
  rw[h2 m hlt2,if_neg (Nat.lt_irrefl _)]at hgk;refine .chk (by omega) ?_
  rw[hgk,aA];have fin:∀ q:Bool,(q=true↔Pd to m=a\/Pd to m=b)->Hs (Sj (m:Int) t2 a b q) (Rnd (λs:List Int×Int=>∃ k:Nat,s.2=(k:Int)/\k<=to.length/\s.1.length=to.length/\∀ j:Nat,j<to.length->Pd s.1 j=if j<k then Qz a b (Pd to j)else Pd to j) (λs=>to.length-s.2.toNat) (t2,(m:Int)) (Rnd (λs:List Int×Int=>∃ k:Nat,s.2=(k:Int)/\k<=mv.length/\s.1=(mv.take k).foldl (SN g) id0/\Whole f.Slots.length s.1) (λs=>mv.length-s.2.toNat) (to,(k:Int)) λt=>t=mv.foldl (SN g) id0)):=by
   intro q hq;unfold Sj;rw[OX (by omega)]
   refine .cond (λh=>.chk (by omega) ?_) λh=>.cnt ⟨⟨m+1,rfl,hlt2,h2l,λj hj=>?_⟩,by grind⟩
   ·rw[hgk,aA];refine .cnt ⟨⟨m+1,rfl,hlt2,by simp[h2l],λj hj=>?_⟩,by grind⟩
    show Pd (t2.set ((m:Nat):Int).toNat (RQ a b)) j=_
    by_cases e:j=m
    ·simp_all[Pd,Qz]
    ·have:=h2 j hj;simp only[Pd,aAB]at this ⊢
     grind
   ·show Pd t2 j=_;rw[h2 j hj]
    by_cases e:j=m
    ·simp_all[Qz]
    omega
  refine .beq (λh=>fin true ⟨λ_=>.inl h,λ_=>rfl⟩) λh=>.chk (by omega) ?_
  rw[aA];exact fin _ ⟨λh'=>.inr (by simp_all),λh'=>by simp_all⟩
 ·have hkk:m=to.length:=by grind
  subst hkk;have e:t2=Yi to a b:=by
   refine aAg λj=>?_
   by_cases hj:j<to.length
   ·have:=h2 j hj;rw[if_pos hj]at this;have g1:=Qv (to:=t2) (s:=(j:Int)) (by omega) (by omega)
    have g2:=Qv (to:=to) (s:=(j:Int)) (by omega) (by omega)
    simp_all[AiY,Qz,Aom]
   grind [Aqc]
  unfold QQ;rw[OX (by omega)]
  refine .cnt ⟨⟨k+1,rfl,hlt,by simp_all,?_⟩,by simp only;omega⟩
  show Whole _ t2;refine⟨by omega,λs hs=>?_⟩
  obtain⟨w1,w2,w3⟩:=hW.at_ s hs;have key:∀ j:Int,0<=j->j<to.length->Pd t2 j=Qz a b (Pd to j):=λj h0 h1=>by
   have:=h2 j.toNat (by omega)
   rw[if_pos (by omega)]at this
   rw[show((j.toNat:Nat):Int)=j by omega]at this
   exact this
  rw[key s (by omega) (by omega)]
  have jm:Qz a b (min a b)=min a b:=by
   unfold Qz;rw[if_pos (by omega),Aom]
  by_cases ec:Pd to s=a\/Pd to s=b
  ·have ej:Qz a b (Pd to s)=min a b:=by unfold Qz;rw[if_pos ec,Aom]
   rw[ej,key _ (by omega) (by omega)]
   have:Pd to (min a b)=min a b:=by
    rcases Int.le_total a b with h|h
    ·rw[Int.min_eq_left h];exact qa3
    ·rw[Int.min_eq_right h];exact qb3
   rw[this,jm];exact⟨by omega,by omega,rfl⟩
  ·have ej:Qz a b (Pd to s)=Pd to s:=by unfold Qz;rw[if_neg ec]
   rw[ej,key _ w1 (by omega),w3,ej]
   exact⟨w1,w2,rfl⟩
theorem Arm (hf:Pu f) (hml:Acv f) (hg:PX f.Slots.length g Q):∃ to,VI f g=some to/\Sp f g=some to:=by
 obtain⟨a,h1,rfl⟩:=AsQ hf hml hg;obtain⟨b,k1,rfl⟩:=AsR hf hml hg;simp_all
end
open Go Go.Dw Go.Proofs
def Rn (a:OU):Prop:=0<=a.Off/\a.Off<=2147483647/\0<=a.Size/\a.Size<=2147483647/\a.Off+a.Size<=2147483647
def Yc (a b:OU):Prop:=Rn a/\Rn b/\0<a.Size/\0<b.Size/\a.Off<b.Off+b.Size/\b.Off<a.Off+a.Size
def InI (a:OU) (n:Int):Prop:=Rn a/\a.Off+a.Size<=n
instance (a:OU):Decidable (Rn a):=by unfold Rn;infer_instance
instance (a b:OU):Decidable (Yc a b):=by unfold Yc;infer_instance
instance (a:OU) (n:Int):Decidable (InI a n):=by unfold InI;infer_instance
theorem AdO (a:OU):TA a=some (decide (Rn a)):=by
 unfold TA;simp only[AaJ,aA]
 by_cases h1:0<=a.Off/\a.Off<=2147483647
 ·rw[decide_eq_true h1,cond_true]
  by_cases h2:0<=a.Size/\a.Size<=2147483647
  ·rw[decide_eq_true h2,cond_true,wrap64 (by omega) (by omega)]
   simp_all[Rn]
  ·rw[decide_eq_false h2,cond_false,decide_eq_false (λh=>h2 ⟨h.2.2.1,h.2.2.2.1⟩)]
 ·rw[decide_eq_false h1,cond_false,decide_eq_false (λh=>h1 ⟨h.1,h.2.1⟩)]
theorem AhF {m:Nat} (hm:m<=24):Rk ((2 ^ m:Nat):Int)=some true:=by
 have:Hs (Rk ((2 ^ m:Nat):Int)) λb=>b=true:=by
  unfold Rk;have hp:2 ^ m<=2 ^ 24:=aAH (by omega) hm
  refine Hs.loop (λk=>∃ j:Nat,k=((2 ^ j:Nat):Int)/\j<=m) (λk=>2 ^ m-k.toNat) ⟨0,rfl,aAC _⟩ ?_
  rintro _ ⟨j,rfl,hj⟩;have hjp:2 ^ j<=2 ^ m:=aAH (by omega) hj
  have hj0:0<2 ^ j:=aAc j;unfold RI;refine .dec (λ_=>.beq (λ_=>.lft (.pure rfl)) λhne=>?_) λh=>(h (by omega)).elim
  have hlt:j<m:=by
   grind
  have h2:2 ^ (j+1)<=2 ^ m:=aAH (by omega) hlt
  have h3:2 ^ (j+1)=2 ^ j*2:=Nat.pow_succ 2 j;refine .cnt ⟨⟨j+1,?_,hlt⟩,?_⟩
  all_goals grind [wrap64]
 obtain⟨r,h,rfl⟩:=this;exact h
def upN (n a:Int):Int:=n+(-n) % a
theorem SR {n:Int} (ha:0<a):n<=upN n a/\upN n a<n+a/\upN n a % a=0:=by
 have h1:=aAl (-n) (show a≠0 by omega)
 have h2:=aAe (-n) ha;refine⟨by grind [upN],by grind [upN],?_⟩
 unfold upN;rw[Int.emod_def (-n) a]
 grind [Int.mul_neg,Int.mul_emod_right]
def TE (a:Int):Prop:=∃ m:Nat,m<=24/\a=((2 ^ m:Nat):Int)
theorem TE.rng (h:TE a):1<=a/\a<=16777216:=by
 obtain⟨m,hm,rfl⟩:=h;have hp:2 ^ m<=2 ^ 24:=aAH (by omega) hm
 grind
theorem Asb {n:Int} (h0:0<=n) (h1:n<=1000000000) (ha:TE a):AfL n a=some (upN n a,0):=by
 obtain⟨a1,a2⟩:=ha.rng;obtain⟨m,hm,rfl⟩:=ha;unfold AfL;rw[AaJ,aA,decide_eq_true (show 0<=n/\n<=2147483647 by omega)]
 simp only[aAR,cond_false,AhF hm,aA];generalize((2 ^ m:Nat):Int)=a at *;unfold Ago AcA;have ht:n.tmod a=n % a:=aAf h0;have e1:=aAl n (show a≠0 by omega)
 have e2:=aAe n (show 0<a by omega)
 have e3:=aAl (-n) (show a≠0 by omega)
 have e4:=aAe (-n) (show 0<a by omega)
 rw[PN (by omega),ht]
 have key:(n % a=0->upN n a=n)/\(n % a≠0->upN n a=n-n % a+a):=by
  unfold upN;constructor
  ·simp_all[Int.emod_eq_zero_of_dvd,aAT]
  ·intro h;have hs:(n % a+(-n) % a) % a=0:=by
    rw[Int.emod_def n a,Int.emod_def (-n) a];have:n-a*(n / a)+(-n-a*(-n / a))=a*(-(n / a)+ -(-n / a)):=by grind
    simp_all
   have hq:n % a+(-n) % a=a:=by
    obtain⟨q,hq⟩:=aAT hs;have q1:0<q:=by
     rcases aAZ 0 q with h|h
     ·exact h
     ·have:=aAN h (show 0<=a by omega)
      omega
    have q2:q<2:=by
     rcases aAZ q 2 with h|h
     ·exact h
     ·have:=aAN h (show 0<=a by omega)
      omega
    grind
   omega
 by_cases h:n % a=0
 ·grind
 ·have:=key.2 h;rw[show(n % a != 0)=true by simp_all,cond_true,PN (by omega),wrap64 (n:=n-n % a) (by omega) (by omega),wrap64 (by omega) (by omega),<- this,decide_eq_false (by omega),cond_false]
theorem Aub (a b:OU):Zx a b=some (decide (Yc a b)):=by
 unfold Zx;simp only[AdO,aA]
 by_cases h1:Rn a
 ·by_cases h2:Rn b
  ·have e1:IntKind.i64.wrap (b.Off+b.Size)=b.Off+b.Size:=by grind [Rn,wrap64]
   have e2:IntKind.i64.wrap (a.Off+a.Size)=a.Off+a.Size:=by grind [Rn,wrap64]
   simp only[h1,h2,decide_true,cond_true,e1,e2,Yc,true_and]
   grind
  grind [Yc]
 grind [Yc]
def rowAt (g:List (List Int)) (y:Int):List Int:=(g[y.toNat]?).getD []
def AhB (n:Int) (x:Nat) (s:List Int):Prop:=PV s/\(∀ y∈s,y<n)/\(x:Int)∉s
def Sr (g:List (List Int)) (n:Int):Prop:=(g.length:Int)=n/\(∀ (x:Nat) s,g[x]? =some s->AhB n x s)/\∀ (x:Nat) s,g[x]? =some s->∀ y∈s,(x:Int)∈rowAt g y
attribute [local simp] PN aAi
section
variable {g:List (List Int)} {n:Int}
theorem Ayk (hn:(g.length:Int)=n) (hg:g.length<=1000) (hq:∀ s∈g,s.length<=9223372036854775807) {x:Nat} {row:List Int} (hx:g[x]? =some row) (hset:PV row) (a b:List Int) (d:Bool) :
  ∃ r,YK g (x:Int) n a b d=some r/\((∀ y∈row,y<n/\(x:Int)∈rowAt g y)/\r= .inl ((x+1:Nat):Int)\/(¬ ∀ y∈row,y<n/\(x:Int)∈rowAt g y)/\r= .inr false):=by
 have hxl:=(aAE.1 hx).1;have hlen:=hset.length_le;have wx:=OX (show x<9223372036854775807 by omega)
 unfold YK
 open Classical in
 have:=Rg (body:=λs=>Ul g (x:Int) n a b d s) row (λ(_:Unit) i=>i) (λ_ _=>True) (λ_ l=>some (if ∀ y∈l,y<n/\(x:Int)∈rowAt g y then(.inl ((x+1:Nat):Int):Int⊕Bool)else .inr false))
  (λ_ _=>⟨.inl ((x+1:Nat):Int),by simp_all[Ul,AbH],by simp⟩) (λ_ i y r _ hd hi hy=>by
   have hym:y∈row:=aAF hy;have h0:=hset.2 y hym;have w:=OX (show i<9223372036854775807 by omega)
   by_cases hyn:y<n
   ·have hyl:y.toNat<g.length:=by omega
    have hgy:g[y.toNat]? =some g[y.toNat]:=aAA hyl;have hs:=hq _ (aAD hyl);have hra:rowAt g y=g[y.toNat]:=by grind [rowAt]
    by_cases hin:(x:Int)∈g[y.toNat]
    all_goals simp_all[Ul,QU,AaW]
   ·refine .inr ⟨.inr false,?_,?_⟩
    ·simp_all[Ul]
    ·simp[hyn]) () trivial
 grind
theorem Aqk (hg:g.length<=1000) (hq:∀ s∈g,s.length<=9223372036854775807):∃ b,AcF g n=some b/\(b=true↔Sr g n):=by
 unfold AcF
 by_cases hn:(g.length:Int)=n
 ·simp only[hn,bne_self_eq_false,cond_false];refine Agx (body:=λs=>Rt n g s) (s:=0) (λs=>∃ x:Nat,s=(x:Int)/\x<=g.length/\∀ (k:Nat) s,k<x->g[k]? =some s->AhB n k s/\∀ y∈s,(k:Int)∈rowAt g y)
   (λb=>b=true↔Sr g n) (λs=>g.length-s.toNat) ⟨0,rfl,aAC _,λk s hk=>absurd hk (aAK _)⟩ (λs hI=>?_)
  obtain⟨x,rfl,hx,hall⟩:=hI
  by_cases hlt:x<g.length
  ·have hgx:g[x]? =some g[x]:=aAA hlt;have hxn:(x:Int)<n:=by omega
   have hl:=hq _ (aAD hlt);have bad:¬ (AhB n x g[x]/\∀ y∈g[x],(x:Int)∈rowAt g y)->Rt n g x=some (.inr false)->(∃ r,Rt n g x=some (.inr r)/\(r=true↔Sr g n)):=λh1 h2=>⟨false,h2,λh=>(by cases h),λh=>(h1 ⟨h.2.1 x _ hgx,h.2.2 x _ hgx⟩).elim⟩
   by_cases hset:PV g[x]
   ·have hb:TW none g[x]=true:=(AdQ _).2 hset
    by_cases hc:(x:Int)∈g[x]
    ·exact .inr (bad (λh=>h.1.2.2 hc) (by simp_all[Rt,AhZ,AaW]))
    ·obtain⟨r,h1,⟨h2,rfl⟩|⟨h2,rfl⟩⟩:=Ayk hn hg hq hgx hset g[x] g[x] false
     ·refine .inl ⟨((x+1:Nat):Int),by simp_all[Rt,AhZ,AaW],⟨x+1,rfl,hlt,λk s hk hks=>?_⟩,by omega⟩
      by_cases hkx:k=x
      ·subst hkx;rw[hgx]at hks;cases hks;exact⟨⟨hset,λy hy=>(h2 y hy).1,hc⟩,λy hy=>(h2 y hy).2⟩
      grind
     ·exact .inr (bad (λh=>h2 λy hy=>⟨h.1.2.1 y hy,h.2 y hy⟩) (by simp_all[Rt,AhZ,AaW]))
   ·have hb:TW none g[x]=false:=by
     grind [AdQ]
    exact .inr (bad (λh=>hset h.1.1) (by simp_all[Rt,AhZ]))
  ·right;have hxn:¬ (x:Int)<n:=by omega
   refine⟨true,by simp[Rt,hxn],λ_=>?_,λ_=>rfl⟩
   exact⟨hn,λk s hks=>(hall k s (by grind) hks).1,λk s hks=>(hall k s (by grind) hks).2⟩
 ·refine⟨false,by simp[hn],λh=>(by cases h),λh=>(hn h.1).elim⟩
end
open Go Go.Dw Go.Proofs
theorem Yc.symm {a b:OU} (h:Yc a b):Yc b a:=⟨h.2.1,h.1,h.2.2.2.1,h.2.2.1,h.2.2.2.2.2,h.2.2.2.2.1⟩
theorem Ata (l:List OU) (hl:l.length<=1000000) (x:OU):Hs (AeM l x) λb=>b=true↔∀ u∈l,¬ Yc u x:=by
 unfold AeM;refine Hs.loop (λi=>∃ k:Nat,i=(k:Int)/\k<=l.length/\∀ u∈l.take k,¬ Yc u x) (λi=>l.length-i.toNat) ⟨0,rfl,aAC _,λu hu=>by simp at hu⟩ ?_
 rintro _ ⟨k,rfl,hk,hno⟩;unfold AcZ;refine .dec (λhlt=>?_) λhge=>.lft (.pure ⟨λ_ u hu=>hno u (by grind),λ_=>rfl⟩)
 have hlt:k<l.length:=by omega
 rw[Pq,aAA hlt,aA,Aub,aA];refine .dec (λh=>.lft (.pure ⟨λh=>(by cases h),λh'=>(h' _ (aAD hlt) h).elim⟩)) λh=>?_
 rw[OX (by omega)]
 refine .cnt ⟨⟨k+1,rfl,hlt,λu hu=>?_⟩,by grind⟩
 grind [aAa]
theorem Aul:∀ l:List OU,l=[]\/∃ (k:Nat) (x:OU),l[k]? =some x/\∀ u∈l,u.Off+u.Size<=x.Off+x.Size
 | []=>.inl rfl
 | a::l=>by
  refine .inr ?_;rcases Aul l with rfl|⟨k,x,hk,hx⟩
  ·exact⟨0,a,rfl,λu hu=>by simp_all⟩
  ·by_cases h:a.Off+a.Size<=x.Off+x.Size
   ·exact⟨k+1,x,hk,λu hu=>(aAb.1 hu).elim (λe=>e▸h) (hx u)⟩
   ·refine⟨0,a,rfl,λu hu=>?_⟩
    grind
def Fits (l:List OU) (frm size align M b:Int):Prop:=frm<=b/\b<=M+63/\b.tmod align=0/\∀ u∈l,¬ Yc u ⟨b,size⟩
theorem AxR {align M:Int} (hl:l.length<=1000) (hM:M<=100000) (hf:0<=frm/\frm<=M) (hs:1<=size/\size<=16) (ha:TE align) (ha':align<=64) (hu:∀ u∈l,Rn u/\u.Off+u.Size<=M) :
  Hs (Xs l frm size align) λr=>r.2=0/\Fits l frm size align M r.1:=by
 have ep:Rk align=some true:=by obtain⟨m,hm,rfl⟩:=ha;exact AhF hm
 have har:=ha.rng;obtain⟨m,hm0,hm1,hmx⟩:∃ m:Int,-1<=m/\m<l.length/\∀ c:Int,((0<=m/\∃ x,l[m.toNat]? =some x/\c=PJ frm (x.Off+x.Size))\/(m<0/\c=frm))->∀ u∈l,u.Off+u.Size<=c:=by
  rcases Aul l with rfl|⟨k,x,hk,hx⟩
  ·exact⟨-1,by omega,by simp,λc _ u hu=>by cases hu⟩
  ·have hkl:=(aAE.1 hk).1;refine⟨(k:Int),by omega,by omega,λc hc u hu=>?_⟩
   grind [PJ]
 unfold Xs;simp only[AaJ,aA,ep];rw[decide_eq_true (p:=0<=frm/\frm<=2147483647) (by omega),decide_eq_true (p:=0<=size/\size<=2147483647) (by omega)]
 refine Hs.loop (λi=>∃ k:Nat,i=(k:Int)/\k<=l.length) (λi=>l.length-i.toNat) ⟨0,rfl,aAC _⟩ ?_
 rintro _ ⟨k,rfl,hk⟩;refine .dec (λhlt=>?_) λ_=>.lft ?_
 ·have hlt:k<l.length:=by omega
  rw[Pq,aAA hlt,aA,AdO,aA,decide_eq_true (hu _ (aAD hlt)).1];rw[OX (by omega)]
  exact .cnt ⟨⟨k+1,rfl,by omega⟩,by grind⟩
 refine Hs.loop (λs=>-1<=s.2.2/\s.2.2<=l.length/\(s.2.1=true->Fits l frm size align M s.1)/\(s.2.1=true\/s.2.2<=m)) (λs=>((l.length:Int)-s.2.2).toNat) ⟨by simp,by simp_all,λh=>(by cases h),.inr hm0⟩ ?_
 rintro⟨best,found,i⟩ ⟨h0,h1,h2,h3⟩;replace h0: -1<=i:=h0;replace h3:found=true\/i<=m:=h3;have j4:∀ c:Int,i<l.length->frm<=c->c<=M->(i=m->∀ u∈l,u.Off+u.Size<=c)->Hs (UM align size l found i best c) (Rnd (λs:Int×Bool×Int=>-1<=s.2.2/\s.2.2<=l.length/\(s.2.1=true->Fits l frm size align M s.1)/\(s.2.1=true\/s.2.2<=m)) (λs=>((l.length:Int)-s.2.2).toNat) (best,found,i) λr=>r.2=0/\Fits l frm size align M r.1):=by
  intro c hi c0 c1 hc;unfold UM;have w:IntKind.i64.wrap (i+1)=i+1:=wrap64 (by omega) (by omega)
  obtain⟨u1,u2,u3⟩:=SR (n:=c) (a:=align) (by omega)
  rw[w,Asb (by omega) (by omega) ha,aA]
  have hR:Rn ⟨upN c align,size⟩:=by refine⟨?_,?_,?_,?_,?_⟩<;>simp only<;>omega
  rw[AdO,aA,decide_eq_true hR,cond_true];have ht:(upN c align).tmod align=0:=by grind
  have fin:∀ (a:Int) (b:Bool),(b=true->Fits l frm size align M a)->(b=true\/i+1<=m)->Hs (cnt (a,b,i+1):Option ((Int×Bool×Int)⊕(Int×Int))) (Rnd (λs:Int×Bool×Int=>-1<=s.2.2/\s.2.2<=l.length/\(s.2.1=true->Fits l frm size align M s.1)/\(s.2.1=true\/s.2.2<=m)) (λs=>((l.length:Int)-s.2.2).toNat) (best,found,i) λr=>r.2=0/\Fits l frm size align M r.1):=λa b g1 g2=>.cnt ⟨⟨by grind,by grind,g1,g2⟩,by grind⟩
  refine(Ata l (by omega) _).bind λb hb=>.cond (λhb'=>?_) λhb'=>?_
  ·have hG:Fits l frm size align M (upN c align):=⟨by omega,by omega,ht,hb.1 hb'⟩
   grind
  ·refine fin _ _ h2 ?_;rcases h3 with h3|h3
   ·simp_all
   ·by_cases e:i=m
    ·have:b=true:=hb.2 λu hu' ho=>by
      have h5:=hc e u hu';have h6:=ho.2.2.2.2.2
      grind
     simp_all
    ·omega
 refine .dec (λhlt=>.dec (λhge=>?_) λhge=>?_) λhge=>.lft ?_
 ·have hge:0<=i:=hge;have hlt:i<l.length:=hlt;have hin:i.toNat<l.length:=by omega
  have hx:l[i.toNat]? =some (l[i.toNat]'hin):=aAA _;have hxu:=hu _ (aAD hin);generalize(l[i.toNat]'hin)=x at hx hxu;obtain⟨x1,x2,x3,x4,x5⟩:=hxu.1;rw[QU _ hge,hx,aA,aA,wrap64 (by omega) (by omega)]
  refine j4 _ hlt (by grind [PJ]) (by grind [PJ]) λe u hu'=>hmx _ (.inl ⟨by omega,x,by simp_all,rfl⟩) u hu'
 ·have hge:¬ 0<=i:=hge;exact j4 _ hlt (by omega) (by omega) λe u hu'=>hmx _ (.inr ⟨by omega,rfl⟩) u hu'
 ·have hft:found=true:=by
   grind
  subst hft;exact .pure ⟨rfl,h2 rfl⟩
theorem AuP (s:List Pa) (hs:s.length<=1000):Hs (ZO s) λout=>out.length=s.length/\(∀ v∈out,0<=v/\v<s.length)/\∀ j:Nat,j<s.length->(j:Int)∈out:=by
 refine Hs.loop (λq=>∃ k:Nat,q.2=(k:Int)/\k<=s.length/\q.1.length=k/\(∀ v∈q.1,0<=v/\v<s.length)/\∀ j:Nat,j<k->(j:Int)∈q.1) (λq=>s.length-q.2.toNat) ⟨0,rfl,aAC _,rfl,λv hv=>(by cases hv),λj hj=>absurd hj (aAK _)⟩ ?_
 rintro⟨out,_⟩ ⟨k,rfl,hk,hol,hov,hoa⟩;replace hol:out.length=k:=hol;replace hov:∀ v∈out,0<=v/\v<s.length:=hov;dsimp only;refine .dec (λhlt=>?_) λhge=>.lft (.pure ⟨by omega,hov,λj hj=>hoa j (by omega)⟩)
 have hlt:k<s.length:=by omega
 have j3:∀ m:Int,0<=m->m<=out.length->Hs (Tq out (k:Int) m) (Rnd (λq:List Int×Int=>∃ k:Nat,q.2=(k:Int)/\k<=s.length/\q.1.length=k/\(∀ v∈q.1,0<=v/\v<s.length)/\∀ j:Nat,j<k->(j:Int)∈q.1) (λq=>s.length-q.2.toNat) (out,(k:Int)) (λout=>out.length=s.length/\(∀ v∈out,0<=v/\v<s.length)/\∀ j:Nat,j<s.length->(j:Int)∈out)):=by
  intro m h0 h1;unfold Tq;refine .chk ⟨h0,h1⟩ (.chk (by simp;omega) (.chk (by simp;omega) (.chk ⟨h0,h1⟩ (.chk (by simp;omega) ?_))))
  unfold YQ;rw[OX (by omega)]
  refine .cnt ⟨⟨k+1,rfl,hlt,by simp;omega,λv hv=>?_,λj hj=>?_⟩,by grind⟩
  all_goals grind [aAn]
 refine Hs.loop (λm=>0<=m/\m<=out.length) (λm=>m.toNat) ⟨by omega,by omega⟩ ?_
 rintro m ⟨h0,h1⟩;refine .dec (λhp=>?_) λ_=>.lft (j3 m h0 h1)
 rw[wrap64 (n:=m-1) (by omega) (by omega)]
 exact(Hs.ix (P:=λ_=>True) (by omega) (by omega) λ_ _=>trivial).bind λx _=>.chk (by omega) ((Hs.get (by omega) (by omega) λv hv=>hov v (aAF hv)).bind λv hv=>(Hs.ix (P:=λ_=>True) hv.1 hv.2 λ_ _=>trivial).bind λy _=>(Aun x y).bind λb _=>.cond (λ_=>.cnt ⟨⟨by omega,by omega⟩,by grind⟩) λ_=>.lft (j3 m h0 h1))
theorem Rn.wrap {a:OU} (h:Rn a):IntKind.i64.wrap (a.Off+a.Size)=a.Off+a.Size:=by
 grind [Rn,wrap64]
theorem XG (m:Nat) (hm:m<=24):TE ((2 ^ m:Nat):Int):=⟨m,hm,rfl⟩
theorem Uc.al {s:Pa} (h:Uc s):TE s.Align/\s.Align<=64/\1<=s.Size/\s.Size<=16:=by
 obtain⟨h1,h2⟩:=h;have ha:TE s.Align/\s.Align<=64:=by
  simp only[aAb,List.not_mem_nil,or_false]at h2;rcases h2 with h|h|h|h|h|h|h|h<;>rw[h]
  ·exact⟨XG 3 (by omega),by omega⟩
  ·exact⟨XG 2 (by omega),by omega⟩
  ·exact⟨XG 0 (by omega),by omega⟩
  ·exact⟨XG 3 (by omega),by omega⟩
  ·exact⟨XG 4 (by omega),by omega⟩
  ·exact⟨XG 1 (by omega),by omega⟩
  ·exact⟨XG 5 (by omega),by omega⟩
  ·exact⟨XG 6 (by omega),by omega⟩
 grind
theorem AmR (h:∀ x∈s,Uc x) (hl:s.length<=512):Hs (Uv s) λe=>e=0:=by
 unfold Uv;rw[decide_eq_false (by omega),cond_false]
 refine Hs.loop (λi=>∃ k:Nat,i=(k:Int)/\k<=s.length) (λi=>s.length-i.toNat) ⟨0,rfl,aAC _⟩ ?_
 rintro _ ⟨k,rfl,hk⟩;refine .dec (λhlt=>?_) λ_=>.lft (.pure rfl)
 have hlt:k<s.length:=by omega
 have hx:=h _ (aAD hlt);rw[Pq,aAA hlt];generalize s[k]=x at hx;have e1:TK x.Size=some true:=by
  have:=hx.1;simp only[aAb,List.not_mem_nil,or_false]at this
  grind [TK]
 have e2:Rk x.Align=some true:=by
  obtain⟨m,hm,e⟩:=hx.al.1
  grind [AhF]
 simp only[aA,e1,e2,aAR,cond_false];rw[OX (by omega)]
 exact .cnt ⟨⟨k+1,rfl,by omega⟩,by grind⟩
def Uf (p:Pk) (n:Int) (x:OP):Int:=if x.Op=18 then PJ n (x.A+1)else if x.Op=22 then PJ n (((p.Funcs[x.A.toNat]?).map Mk.Params).getD 0)else n
def Te (p:Pk) (f:Mk) (k:Nat):Int:=(f.Code.take k).foldl (Uf p) 0
def Agk (p:Pk) (f:Mk):Prop:=∀ x∈f.Code,(x.Op=18->0<=x.A/\x.A<4)/\(x.Op=22->0<=x.A/\∃ g,p.Funcs[x.A.toNat]? =some g/\0<=g.Params/\g.Params<4)
theorem AaG {p:Pk} (hk:k<f.Code.length):Te p f (k+1)=Uf p (Te p f k) f.Code[k]:=by
 grind [Te,aAL]
theorem ArO {b c:Int} (h0:0<=a/\a<=c) (h1:b<=c):0<=PJ a b/\PJ a b<=c:=by grind [PJ]
theorem Adm {p:Pk} {f:Mk} (h:Agk p f):∀ {k:Nat},k<=f.Code.length->0<=Te p f k/\Te p f k<=4
 | 0,_=>by simp[Te]
 | k+1,hk=>by
  rw[AaG hk];have ih:=Adm h (k:=k) (by omega)
  obtain⟨h1,h2⟩:=h _ (aAD hk);unfold Uf;split
  ·exact ArO ih (by omega)
  ·split
   ·obtain⟨_,g,hg,hp⟩:=h2 ‹_›;rw[hg];exact ArO ih (by grind)
   ·exact ih
theorem ArU {p:Pk} {i:Int} (hi:ixO p.Funcs i=some f) (hl:f.Code.length<=10000) (h:Agk p f):Zq p i=some (16*Te p f f.Code.length):=by
 have:Hs (Zq p i) λr=>r=16*Te p f f.Code.length:=by
  unfold Zq;rw[hi,aA];refine Hs.loop (λq=>∃ k:Nat,q=(Te p f k,(k:Int))/\k<=f.Code.length) (λq=>f.Code.length-q.2.toNat) ⟨0,rfl,aAC _⟩ ?_
  rintro _ ⟨k,rfl,hk⟩;have hr:=Adm h hk;refine .dec (λhlt=>?_) λhge=>.lft (.pure ?_)
  ·have hlt:k<f.Code.length:=by omega
   have e:ixO f.Code (k:Int)=some f.Code[k]:=by simp_all
   obtain⟨h1,h2⟩:=h _ (aAD hlt);simp only[e,aA];rw[OX (by omega)]
   refine .beq (λh18=>?_) λh18=>.beq (λh22=>?_) λh22=>?_
   ·rw[wrap64 (by omega) (by omega)]
    exact .cnt ⟨⟨k+1,by grind [AaG,Uf],hlt⟩,by grind⟩
   ·obtain⟨a0,g,hg,hp⟩:=h2 h22;rw[QU _ a0,hg,aA];exact .cnt ⟨⟨k+1,by grind [AaG,Uf],hlt⟩,by grind⟩
   ·exact .cnt ⟨⟨k+1,by grind [AaG,Uf],hlt⟩,by grind⟩
  ·have:k=f.Code.length:=by omega
   subst this;rw[wrap64 (by omega) (by omega)]
   show Te p f f.Code.length*16=_;omega
 obtain⟨r,h,rfl⟩:=this;exact h
def WD (s:List Pa):Prop:=s.length<=7/\∀ x∈s,TE x.Align/\x.Align<=64/\1<=x.Size/\x.Size<=16
theorem SC.AxG {ps:List Int} {i most:Int} (h:SC ps i most f):WD f.Slots:=⟨by have:=h.slots;omega,λx hx=>(h.slot x hx).al⟩
def oN (off:List Int) (k:Nat):Int:=(off[k]?).getD 0
def szN (s:List Pa) (k:Nat):Int:=((s[k]?).map Pa.Size).getD 0
def alN (s:List Pa) (k:Nat):Int:=((s[k]?).map Pa.Align).getD 0
def ivN (s:List Pa) (off:List Int) (k:Nat):OU:=⟨oN off k,szN s k⟩
def Plc (s:List Pa) (frm B:Int) (off:List Int) (k:Nat):Prop:=frm<=oN off k/\oN off k+szN s k<=B/\(oN off k).tmod (alN s k)=0
structure Asg (s:List Pa) (g:List (List Int)) (frm:Int) (ord:List Int) (k:Nat) (done:List Bool) (off:List Int):Prop where
 dl:done.length=s.length
 fl:off.length=s.length
 pl:∀ y:Nat,done[y]? =some true->Plc s frm (frm+80*k) off y
 ap:∀ y z:Nat,y≠z->done[y]? =some true->done[z]? =some true->(z:Int)∈rowAt g y->¬ Yc (ivN s off y) (ivN s off z)
 cov:∀ j<k,∀ v,ord[j]? =some v->done[v.toNat]? =some true
theorem YU {x:Pa} (h:s[k]? =some x):szN s k=x.Size/\alN s k=x.Align:=by simp[szN,alN,h]
theorem Sr.sym {n:Int} (h:Sr g n) {y z:Nat} (hz:(z:Int)∈rowAt g y):(y:Int)∈rowAt g z:=by
 unfold rowAt at hz;rw[aAB]at hz;cases e:g[y]? with
 | none=>rw[e]at hz;cases hz
 | some t=>rw[e]at hz;exact h.2.2 y t e _ hz
theorem Asg.step {ord:List Int} {done:List Bool} {off:List Int} (h:Asg s g frm ord k done off) {n:Int} (hg:Sr g n) {w:Nat} (hk:ord[k]? =some (w:Int)) {x:Pa} (hx:s[w]? =some x) {r:Int} (h1:frm<=r) (h2:r+x.Size<=frm+80*(k+1)) (h3:r.tmod x.Align=0) (h4:∀ y:Nat,done[y]? =some true->(y:Int)∈rowAt g w->¬ Yc (ivN s off y) ⟨r,x.Size⟩) :
  Asg s g frm ord (k+1) (done.set w true) (off.set w r):=by
 obtain⟨dl,fl,pl,ap,cov⟩:=h;have hw:=(aAE.1 hx).1;have d1:∀ y:Nat,(done.set w true)[y]? =some true->y=w\/done[y]? =some true:=λy hy=>by
  by_cases e:y=w
  ·exact .inl e
  ·rw[aAd (λh=>e h.symm)]at hy;exact .inr hy
 have o1:oN (off.set w r) w=r:=by unfold oN;rw[aAm (by omega)];rfl
 have o2:∀ y:Nat,y≠w->oN (off.set w r) y=oN off y:=λy hy=>by unfold oN;rw[aAd (λh=>hy h.symm)]
 obtain⟨z1,z2⟩:=YU hx;refine⟨by simp[dl],by simp[fl],λy hy=>?_,λy z hne hy hz hm=>?_,λj hj v hv=>?_⟩
 ·by_cases e:y=w
  ·subst e;refine⟨?_,?_,?_⟩
   ·rw[o1];exact h1
   ·rw[o1,z1];omega
   ·rw[o1,z2];exact h3
  ·rcases d1 y hy with h|h
   ·exact(e h).elim
   obtain⟨p1,p2,p3⟩:=pl y h;refine⟨?_,?_,?_⟩
   ·rw[o2 y e];exact p1
   ·rw[o2 y e];omega
   ·rw[o2 y e];exact p3
 ·unfold ivN at *
  by_cases e:y=w
  ·subst e;have ez:z≠y:=λh=>hne h.symm
   rcases d1 z hz with h|h
   ·exact(ez h).elim
   rw[o1,z1,o2 z ez];exact λho=>h4 z h hm ho.symm
  ·rcases d1 y hy with h|h
   ·exact(e h).elim
   rw[o2 y e]
   by_cases e':z=w
   ·subst e';rw[o1,z1];exact h4 y h (hg.sym hm)
   ·rcases d1 z hz with h'|h'
    ·exact(e' h').elim
    rw[o2 z e'];exact ap y z hne h h' hm
 ·by_cases e:v.toNat=w
  ·rw[e,aAm (by omega)]
  ·rw[aAd (λh=>e h.symm)]
   by_cases ej:j=k
   ·subst ej;rw[hk]at hv;cases hv;simp at e
   ·exact cov j (by omega) v hv
theorem ApV (hs:WD s) (hso:∀ x∈s,Uc x) (hg:Sr g s.length) (hgl:∀ row∈g,row.length<=512) (hf:0<=frm/\frm<=1000) :
  Hs (UP s g frm) λq=>q.2=0/\q.1.length=s.length/\(∀ y:Nat,y<s.length->Plc s frm (frm+80*s.length) q.1 y)/\∀ y z:Nat,y<s.length->z<s.length->y≠z->(z:Int)∈rowAt g y->¬ Yc (ivN s q.1 y) (ivN s q.1 z):=by
 have hsl:=hs.1;have hgg:g.length=s.length:=by have:=hg.1;omega
 obtain⟨b,hb1,hb2⟩:=Aqk (g:=g) (n:=(s.length:Int)) (by omega) λr hr=>by have:=hgl r hr;omega
 unfold UP;refine(AmR hso (by omega)).bind λe he=>?_
 subst he;rw[hb1,hb2.2 hg,aA,AaJ,aA,decide_eq_true (by omega)]
 simp only[bne_self_eq_false,cond_false,aAR];unfold AaC;refine .chk (by omega) (.chk (by omega) ((AuP s (by omega)).bind λord ⟨ol,ov,oa⟩=>?_))
 refine Hs.loop (λq=>∃ k:Nat,q.2.2=(k:Int)/\k<=ord.length/\Asg s g frm ord k q.1 q.2.1) (λq=>ord.length-q.2.2.toNat) ⟨0,rfl,aAC _,by simp,by simp,λy hy=>?_,λy z _ hy=>?_,λj hj=>absurd hj (aAK _)⟩ ?_
 ·simp[aAk]at hy
 ·simp[aAk]at hy
 rintro⟨done,off,_⟩ ⟨k,rfl,hk,hI⟩;replace hI:Asg s g frm ord k done off:=hI;obtain⟨dl,fl,pl,ap,cov⟩:=id hI;unfold AaA;dsimp only;refine .dec (λhlt=>?_) λhge=>.lft (.pure ?_)
 rotate_left
 ·have hkk:k=s.length:=by omega
  subst hkk;have all:∀ y:Nat,y<s.length->done[y]? =some true:=λy hy=>by
   obtain⟨j,hj⟩:=aAG (oa y hy);have:=(aAE.1 hj).1;simpa using cov j (by omega) _ hj
  exact⟨rfl,fl,λy hy=>pl y (all y hy),λy z hy hz hne hm=>ap y z hne (all y hy) (all z hz) hm⟩
 have hlt:k<ord.length:=by omega
 have hov:ord[k]? =some ord[k]:=aAA hlt;have hvr:=ov _ (aAD hlt);generalize ord[k]=v at hov hvr;refine .chk (by omega) ?_
 rw[aAB,hov,aA];obtain⟨w,rfl⟩:∃ w:Nat,v=(w:Int):=⟨v.toNat,by omega⟩
 have hw:w<s.length:=by omega
 have hgr:ixO g (w:Int)=some (rowAt g w):=by
  rw[Pq];unfold rowAt;rw[aAB,aAA (by omega)];rfl
 have hrl:(rowAt g w).length<=512:=by
  unfold rowAt;rw[aAB,aAA (by omega)]
  exact hgl _ (aAD _)
 refine Hs.loop (λq=>∃ j:Nat,q.2=(j:Int)/\j<=s.length/\q.1.length<=j/\(∀ u∈q.1,∃ y:Nat,done[y]? =some true/\u=ivN s off y)/\∀ y:Nat,y<j->done[y]? =some true->(y:Int)∈rowAt g w->ivN s off y∈q.1) (λq=>s.length-q.2.toNat) ⟨0,rfl,aAC _,by simp,λu hu=>(by cases hu),λy hy=>absurd hy (aAK _)⟩ ?_
 rintro⟨used,_⟩ ⟨j,rfl,hj,hul,hu1,hu2⟩;replace hul:used.length<=j:=hul;replace hu1:∀ u∈used,∃ y:Nat,done[y]? =some true/\u=ivN s off y:=hu1;replace hu2:∀ y:Nat,y<j->done[y]? =some true->(y:Int)∈rowAt g w->ivN s off y∈used:=hu2;unfold AaB;dsimp only;refine .dec (λhlt'=>?_) λhge=>.lft ?_
 ·have hjl:j<s.length:=by omega
  have hdj:done[j]? =some (done[j]'(by omega)):=aAA _
  generalize(done[j]'(by omega))=d at hdj
  refine .chk (by omega) ?_
  rw[aAB,hdj,aA];have no:¬ (d=true/\(j:Int)∈rowAt g w)->∀ y:Nat,y<j+1->done[y]? =some true->(y:Int)∈rowAt g w->ivN s off y∈used:=λhn y hy h1 h2=>by
   by_cases e:y=j
   ·subst e;rw[hdj]at h1;exact(hn ⟨Option.some.inj h1,h2⟩).elim
   ·exact hu2 y (by omega) h1 h2
  have key:∀ d:Bool,(bif d then(ixO g (w:Int)).bind λx=>(UO x (j:Int)).bind λr=>QN (j:Int) off s used r else QN (j:Int) off s used false)=QN (j:Int) off s used (d&&decide ((j:Int)∈rowAt g w)):=λd=>by
   cases d
   ·rfl
   ·rw[cond_true,hgr,aA,AaW _ _ (by omega),aA,Bool.true_and]
  rw[key];unfold QN;rw[OX (by omega)]
  refine .cond (λhd=>?_) λhd=>.cnt ⟨⟨j+1,rfl,hjl,by simp only;omega,hu1,no λh=>by simp[h.1,h.2]at hd⟩,by simp only;omega⟩
  ·have hd:d=true:=by simp at hd;exact hd.1
   refine .chk (by omega) ?_
   have hoj:off[j]? =some (oN off j):=by unfold oN;rw[aAA (by omega)];rfl
   have hsj:s[j]? =some s[j]:=aAA _;rw[aAB,hoj,aA,Pq,hsj,aA];have hiv:(OU.mk (oN off j) s[j].Size)=ivN s off j:=by unfold ivN;rw[(YU hsj).1]
   rw[hiv];refine .chk (by simp;omega) (.cnt ⟨⟨j+1,rfl,hjl,by simp;omega,λu hu=>?_,λy hy h1 h2=>?_⟩,by simp only;omega⟩)
   ·rcases aAQ.1 hu with hu|hu
    ·exact hu1 u hu
    ·simp at hu;subst hu;exact⟨j,by rw[hdj,hd],rfl⟩
   ·by_cases e:y=j
    ·subst e;simp
    ·exact List.mem_append_left _ (hu2 y (by omega) h1 h2)
 ·have hjj:j=s.length:=by omega
  subst hjj;have hsw:s[w]? =some s[w]:=aAA _;obtain⟨a1,a2,a3,a4⟩:=hs.2 _ (aAD hw);generalize s[w]=x at hsw a1 a2 a3 a4;simp only[Pq,hsw,aA];have hR:∀ u∈used,Rn u/\u.Off+u.Size<=frm+80*(k:Int):=λu hu=>by
   obtain⟨y,hy,rfl⟩:=hu1 u hu;obtain⟨p1,p2,_⟩:=pl y hy;have hyl:y<s.length:=by rw[<- dl];exact(aAE.1 hy).1
   have hsy:s[y]? =some s[y]:=aAA _;obtain⟨_,_,b3,b4⟩:=hs.2 _ (aAD hyl);rw[<- (YU hsy).1]at b3 b4;refine⟨⟨?_,?_,?_,?_,?_⟩,p2⟩<;>simp only[ivN]<;>omega
  refine(AxR (M:=frm+80*(k:Int)) (by omega) (by omega) (by omega) ⟨a3,a4⟩ a1 a2 hR).bind λr ⟨r0,r1,r2,r3,r4⟩=>?_
  rw[r0];simp only[bne_self_eq_false,cond_false];refine .chk (by omega) ?_
  rw[aAB,aAA (by omega),aA]
  refine .chk (by omega) ?_
  rw[aAA (by omega),aA]
  unfold Xw;rw[OX (by omega)]
  exact .cnt ⟨⟨k+1,rfl,hlt,hI.step hg hov hsw r1 (by omega) r3 λy h1 h2=>r4 _ (hu2 y (by rw[<- dl];exact(aAE.1 h1).1) h1 h2)⟩,by simp only;omega⟩
def AcL (a:OU) (size y:Int):Prop:=a.Off<y+size/\y<a.Off+a.Size
instance (a:OU) (size y:Int):Decidable (AcL a size y):=inferInstanceAs (Decidable (_/\_))
structure RK (l:List OU) (frm size al y:Int):Prop where
 ge:frm<=y
 al0:y % al=0
 free:∀ a∈l,¬ AcL a size y
 least:∀ z,frm<=z->z % al=0->(∀ a∈l,¬ AcL a size z)->y<=z
theorem RK.unique {al y z:Int} (h:RK l frm size al y) (k:RK l frm size al z):y=z:=by
 have:=h.least z k.ge k.al0 k.free;have:=k.least y h.ge h.al0 h.free;omega
theorem RK.ArR {l':List OU} {al y:Int} (h:RK l frm size al y) (hm:∀ a,a∈l↔a∈l'):RK l' frm size al y :=
 ⟨h.ge,h.al0,λa ha=>h.free a ((hm a).2 ha),λz h1 h2 h3=>h.least z h1 h2 λa ha=>h3 a ((hm a).1 ha)⟩
theorem AmV {n al z:Int} (ha:0<al) (h1:n<=z) (h2:z % al=0):upN n al<=z:=by
 obtain⟨u1,u2,u3⟩:=SR (n:=n) ha;have e1:=aAV z al;have e2:=aAV (upN n al) al;rcases aAZ z (upN n al)with h|h
 ·exfalso;have h3:al*(z / al)<al*(upN n al / al):=by omega
  have h4:z / al<upN n al / al:=aAh h3 (by omega)
  have h5:al*(z / al+1)<=al*(upN n al / al):=aAN h4 (by omega)
  grind
 ·exact h
theorem Avu {n al y:Int} (ha:0<al) (h1:n<=y) (h2:y<n+al) (h3:y % al=0):upN n al=y:=by
 have h:=AmV ha h1 h3;obtain⟨u1,u2,u3⟩:=SR (n:=n) ha;have e1:=aAV y al;have e2:=aAV (upN n al) al;rcases aAZ (upN n al) y with h'|h'
 ·exfalso;have h3:al*(upN n al / al)<al*(y / al):=by omega
  have h4:upN n al / al<y / al:=aAh h3 (by omega)
  have h5:al*(upN n al / al+1)<=al*(y / al):=aAN h4 (by omega)
  grind
 ·omega
def swp (size al y:Int) (a:OU):Int:=if AcL a size y then upN (a.Off+a.Size) al else y
def AqM (l:List OU):Prop:=l.Pairwise λa b=>a.Off<=b.Off
structure SwI (done:List OU) (frm size al y:Int):Prop where
 ge:frm<=y
 al0:y % al=0
 off:∀ a∈done,a.Off+a.Size<=y\/y+size<=a.Off
 least:∀ z,frm<=z->z<y->z % al=0->∃ a∈done,AcL a size z
theorem SwI.step {done:List OU} {al y:Int} {a:OU} (ha:0<al) (h:SwI done frm size al y) (hs:∀ d∈done,d.Off<=a.Off):SwI (done++[a]) frm size al (swp size al y a):=by
 unfold swp;split
 ·rename_i hm;obtain⟨m1,m2⟩:=hm;obtain⟨u1,u2,u3⟩:=SR (n:=a.Off+a.Size) ha;refine⟨by have:=h.ge;omega,u3,λd hd=>?_,λz z1 z2 z3=>?_⟩
  ·rcases aAQ.1 hd with hd|hd
   ·rcases h.off d hd with h1|h1
    all_goals grind
   simp_all
  ·by_cases hz:z<y
   ·obtain⟨d,hd,k⟩:=h.least z z1 hz z3
    grind
   ·refine⟨a,List.mem_append_right _ (aAU.2 rfl),by omega,?_⟩
    grind [aAZ,AmV]
 ·rename_i hm;refine⟨h.ge,h.al0,λd hd=>?_,λz z1 z2 z3=>?_⟩
  ·rcases aAQ.1 hd with hd|hd
   ·exact h.off d hd
   grind [AcL]
  ·obtain⟨d,hd,k⟩:=h.least z z1 z2 z3
   grind
theorem Awv {frm size al:Int} (ha:0<al):∀ (rest done:List OU) (y:Int),SwI done frm size al y->AqM (done++rest)->SwI (done++rest) frm size al (rest.foldl (swp size al) y)
 | [],done,y,h,_=>by simp_all
 | a::rest,done,y,h,hs=>by
  have hda:∀ d∈done,d.Off<=a.Off:=λd hd=>(List.pairwise_append.1 hs).2.2 d hd a (List.mem_cons_self ..)
  have:=Awv ha rest (done++[a]) _ (h.step ha hda) (by simp_all)
  simp_all
theorem SwI.AuJ {al y:Int} (h:SwI l frm size al y):RK l frm size al y:=by
 refine⟨h.ge,h.al0,λa ha hm=>?_,λz z1 z2 z3=>?_⟩
 ·unfold AcL at hm;rcases h.off a ha with h1|h1<;>omega
 ·rcases aAZ z y with h1|h1
  ·obtain⟨a,ha,k⟩:=h.least z z1 h1 z2;simp_all
  ·exact h1
theorem AnS {al:Int} (ha:0<al) (hs:AqM l):RK l frm size al (l.foldl (swp size al) (upN frm al)):=by
 obtain⟨u1,u2,u3⟩:=SR (n:=frm) ha;have:=Awv (frm:=frm) (size:=size) ha l [] (upN frm al) ⟨u1,u3,(λa h=>by cases h),λz z1 z2 z3=>(by have:=AmV ha z1 z3;omega)⟩ hs
 grind [SwI.AuJ]
theorem RK.AxO {al y:Int} (ha:0<al) (h:RK l frm size al y):y=upN frm al\/∃ a∈l,y=upN (max frm (a.Off+a.Size)) al:=by
 by_cases h1:y-al<frm
 ·exact .inl (Avu ha h.ge (by omega) h.al0).symm
 ·have hz:(y-al) % al=0:=by rw[Int.sub_emod,h.al0];simp
  have:¬ ∀ a∈l,¬ AcL a size (y-al):=λhf=>by have:=h.least (y-al) (by omega) hz hf;omega
  obtain⟨a,ha'⟩:=Classical.not_forall.1 this;obtain⟨hal,hm⟩:=Classical.not_imp.1 ha';have hn:=h.free a hal;unfold AcL at hm hn;exact .inr ⟨a,hal,(Avu ha (by omega) (by omega) h.al0).symm⟩
theorem AoZ {u:OU} {b:Int} (hu:Rn u) (hp:0<u.Size) (hs:0<size) (hb:Rn ⟨b,size⟩):Yc u ⟨b,size⟩↔AcL u size b :=
 ⟨λh=>⟨h.2.2.2.2.1,h.2.2.2.2.2⟩,λh=>⟨hu,hb,hp,hs,h.1,h.2⟩⟩
theorem AbB (a b:Int):PJ a b=max a b:=by grind [PJ]
theorem Auz {align M y:Int} (hl:l.length<=1000) (hM:M<=100000) (hf:0<=frm/\frm<=M) (hs:1<=size/\size<=16) (ha:TE align) (ha':align<=64) (hu:∀ u∈l,Rn u/\u.Off+u.Size<=M) (hp:∀ u∈l,0<u.Size) (hy:RK l frm size align y) :
  Xs l frm size align=some (y,0):=by
 have ep:Rk align=some true:=by obtain⟨m,hm,rfl⟩:=ha;exact AhF hm
 have har:=ha.rng;obtain⟨m,hm0,hm1,hmx⟩:∃ m:Int,-1<=m/\m<l.length/\∀ c:Int,((0<=m/\∃ x,l[m.toNat]? =some x/\c=PJ frm (x.Off+x.Size))\/(m<0/\c=frm))->y=upN c align:=by
  rcases hy.AxO (by omega)with h|⟨a,ha1,h⟩
  ·refine⟨-1,by omega,by omega,λc hc=>?_⟩
   simp_all
  ·obtain⟨k,hk⟩:=aAG ha1;have hkl:=(aAE.1 hk).1;refine⟨(k:Int),by omega,by omega,λc hc=>?_⟩
   grind [AbB]
 have lst:∀ b:Int,Fits l frm size align M b->y<=b:=by
  rintro b ⟨b1,b2,b3,b4⟩;refine hy.least b b1 (by grind) λu hu' hm=>b4 u hu' ((AoZ (hu u hu').1 (hp u hu') (by omega) ?_).2 hm)
  refine⟨?_,?_,?_,?_,?_⟩<;>simp only<;>omega
 have key:Hs (Xs l frm size align) λr=>r=(y,0):=by
  unfold Xs;simp only[AaJ,aA,ep];rw[decide_eq_true (p:=0<=frm/\frm<=2147483647) (by omega),decide_eq_true (p:=0<=size/\size<=2147483647) (by omega)]
  refine Hs.loop (λi=>∃ k:Nat,i=(k:Int)/\k<=l.length) (λi=>l.length-i.toNat) ⟨0,rfl,aAC _⟩ ?_
  rintro _ ⟨k,rfl,hk⟩;refine .dec (λhlt=>?_) λ_=>.lft ?_
  ·have hlt:k<l.length:=by omega
   rw[Pq,aAA hlt,aA,AdO,aA,decide_eq_true (hu _ (aAD hlt)).1];rw[OX (by omega)]
   exact .cnt ⟨⟨k+1,rfl,by omega⟩,by grind⟩
  refine Hs.loop (λs=>-1<=s.2.2/\s.2.2<=l.length/\(s.2.1=true->Fits l frm size align M s.1)/\((s.2.1=true/\s.1=y)\/s.2.2<=m)) (λs=>((l.length:Int)-s.2.2).toNat) ⟨by simp,by simp_all,λh=>(by cases h),.inr hm0⟩ ?_
  rintro⟨best,found,i⟩ ⟨h0,h1,h2,h3⟩;replace h0: -1<=i:=h0;replace h3:(found=true/\best=y)\/i<=m:=h3;have j4:∀ c:Int,i<l.length->frm<=c->c<=M->(i=m->y=upN c align)->Hs (UM align size l found i best c) (Rnd (λs:Int×Bool×Int=>-1<=s.2.2/\s.2.2<=l.length/\(s.2.1=true->Fits l frm size align M s.1)/\((s.2.1=true/\s.1=y)\/s.2.2<=m)) (λs=>((l.length:Int)-s.2.2).toNat) (best,found,i) λr=>r=(y,0)):=by
   intro c hi c0 c1 hc;unfold UM;have w:IntKind.i64.wrap (i+1)=i+1:=wrap64 (by omega) (by omega)
   obtain⟨u1,u2,u3⟩:=SR (n:=c) (a:=align) (by omega)
   rw[w,Asb (by omega) (by omega) ha,aA]
   have hR:Rn ⟨upN c align,size⟩:=by refine⟨?_,?_,?_,?_,?_⟩<;>simp only<;>omega
   rw[AdO,aA,decide_eq_true hR,cond_true];have ht:(upN c align).tmod align=0:=by grind
   have fin:∀ (a:Int) (b:Bool),(b=true->Fits l frm size align M a)->((b=true/\a=y)\/i+1<=m)->Hs (cnt (a,b,i+1):Option ((Int×Bool×Int)⊕(Int×Int))) (Rnd (λs:Int×Bool×Int=>-1<=s.2.2/\s.2.2<=l.length/\(s.2.1=true->Fits l frm size align M s.1)/\((s.2.1=true/\s.1=y)\/s.2.2<=m)) (λs=>((l.length:Int)-s.2.2).toNat) (best,found,i) λr=>r=(y,0)):=λa b g1 g2=>.cnt ⟨⟨by grind,by grind,g1,g2⟩,by grind⟩
   have bst:found=true->y<=best:=λh=>lst _ (h2 h)
   refine(Ata l (by omega) _).bind λb hb=>.cond (λhb'=>?_) λhb'=>?_
   ·have hG:Fits l frm size align M (upN c align):=⟨by omega,by omega,ht,hb.1 hb'⟩
    grind
   ·refine fin _ _ h2 ?_;rcases h3 with h3|h3
    ·simp_all
    ·by_cases e:i=m
     ·have:b=true:=hb.2 λu hu' ho=>by
       have h5:=hy.free u hu'
       grind [AoZ]
      simp_all
     ·omega
  refine .dec (λhlt=>.dec (λhge=>?_) λhge=>?_) λhge=>.lft ?_
  ·have hge:0<=i:=hge;have hlt:i<l.length:=hlt;have hin:i.toNat<l.length:=by omega
   have hx:l[i.toNat]? =some (l[i.toNat]'hin):=aAA _;have hxu:=hu _ (aAD hin);generalize(l[i.toNat]'hin)=x at hx hxu;obtain⟨x1,x2,x3,x4,x5⟩:=hxu.1;rw[QU _ hge,hx,aA,aA,wrap64 (by omega) (by omega)]
   refine j4 _ hlt (by grind [PJ]) (by grind [PJ]) λe=>hmx _ (.inl ⟨by omega,x,by simp_all,rfl⟩)
  ·have hge:¬ 0<=i:=hge;exact j4 _ hlt (by omega) (by omega) λe=>hmx _ (.inr ⟨by omega,rfl⟩)
  ·have hge:¬ i<(l.length:Int):=hge;rcases h3 with⟨rfl,rfl⟩|h
   ·exact .pure rfl
   ·omega
 obtain⟨r,h,rfl⟩:=key;exact h
end Go.Proofs.YtilmapojncgflaaGreatDoor
namespace Go.Dw
section
variable {α:Type}
def gap (out:List α) (j:Nat) (e:α) (rest:List α):List α:=out.take j++e::(out.drop j++rest)
theorem Apv (out:List α) (j:Nat) (e:α) (rest:List α):(gap out j e rest).length=out.length+1+rest.length:=by
 unfold gap
 grind
theorem ArA (out:List α) (e:α) (rest:List α):gap out out.length e rest=out++e::rest:=by simp[gap]
theorem ArC (out:List α) (j:Nat) (e:α) (rest:List α):gap out j e rest=gap out j e []++rest:=by simp[gap]
theorem AuD {out:List α} {j:Nat} (h:j<=out.length) (e:α) (rest:List α):(gap out j e rest)[j]? =some e:=by
 grind [gap]
theorem ArB {out:List α} {m:Nat} {c:α} (h:out[m]? =some c) (e:α) (rest:List α):(gap out (m+1) e rest)[m]? =some c:=by
 have hl:=(aAE.1 h).1;unfold gap
 grind
theorem ArD {out:List α} {m:Nat} {c:α} (h:out[m]? =some c) (e:α) (rest:List α):((gap out (m+1) e rest).set (m+1) c).set m e=gap out m e rest:=by
 obtain⟨hl,rfl⟩:=aAE.1 h;have hlen1:(out.take m).length=m:=by simp;omega
 have e1:out.take (m+1)=out.take m++[out[m]]:=by simp_all
 have e2:out.drop m=out[m]::out.drop (m+1):=aAY hl;unfold gap
 grind
def TP (bf:α->α->Bool) (out:List α) (e:α):Nat->Nat
 | 0=>0
 | k+1=>match out[k]? with|some c=>if bf e c=true then TP bf out e k else k+1|none=>k+1
theorem Ajm {bf:α->α->Bool} {out:List α} {e c:α} {k:Nat} (h:out[k]? =some c) (hb:bf e c=true):TP bf out e (k+1)=TP bf out e k:=by grind [TP]
theorem Alf {bf:α->α->Bool} {out:List α} {e c:α} {k:Nat} (h:out[k]? =some c) (hb:¬ bf e c=true):TP bf out e (k+1)=k+1:=by grind [TP]
theorem Asp (bf:α->α->Bool) (out:List α) (e:α):∀ k,TP bf out e k<=k
 | 0=>aAJ _
 | k+1=>by
  have:=Asp bf out e k;unfold TP
  grind
def YG (bf:α->α->Bool) (out:List α) (e:α):List α:=gap out (TP bf out e out.length) e []
theorem AvN (bf:α->α->Bool) (out:List α) (e:α):(YG bf out e).length=out.length+1:=by grind [YG,Apv]
theorem AvO (bf:α->α->Bool) (out:List α) (e x:α):x∈YG bf out e↔x=e\/x∈out:=by
 grind [YG,gap,aAn]
def QI (bf:α->α->Bool) (l:List α):List α:=l.foldl (YG bf) []
theorem Ald (bf:α->α->Bool) (l:List α) (e:α):QI bf (l++[e])=YG bf (QI bf l) e:=by grind [QI]
theorem AjW (bf:α->α->Bool):∀ (l out:List α),(l.foldl (YG bf) out).length=out.length+l.length
 | [],_=>rfl
 | a::l,out=>by
  show(l.foldl (YG bf) (YG bf out a)).length=_;rw[AjW bf l,AvN,List.length_cons];omega
theorem Abm (bf:α->α->Bool) (l:List α):(QI bf l).length=l.length:=by grind [QI,AjW]
theorem AjX (bf:α->α->Bool) (x:α):∀ (l out:List α),x∈l.foldl (YG bf) out↔x∈l\/x∈out
 | [],_=>by simp
 | a::l,out=>by
  show x∈l.foldl (YG bf) (YG bf out a)↔_;rw[AjX bf x l,AvO,aAb]
  grind
theorem AmS (bf:α->α->Bool) (l:List α) (x:α):x∈QI bf l↔x∈l:=by grind [QI,AjX]
theorem AsI {bf:α->α->Bool} {key:α->Int} (hbf:∀ a b,bf a b=true↔key a<key b) {out:List α} (h:out.Pairwise λa b=>key a<=key b) (e:α):(YG bf out e).Pairwise λa b=>key a<=key b:=by
 have hk:∀ k,k<=out.length->(∀ (j:Nat) c,k<=j->out[j]? =some c->key e<=key c)->(gap out (TP bf out e k) e []).Pairwise λa b=>key a<=key b:=by
  intro k
  induction k with
  | zero =>
   intro _ hall;show(List.take 0 out++e::(List.drop 0 out++[])).Pairwise _;simp only[List.take_zero,List.nil_append,List.drop_zero,List.append_nil];refine List.pairwise_cons.2 ⟨λc hc=>?_,h⟩
   obtain⟨j,hj⟩:=aAG hc
   grind
  | succ k ih =>
   intro hk hall;have hg:out[k]? =some (out[k]'(by omega)):=aAA _
   generalize out[k]'(by omega)=c at hg
   by_cases hb:bf e c=true
   ·grind [Ajm]
   ·rw[Alf hg hb];have hc:key c<=key e:=by
     simp_all
    unfold gap;rw[List.append_nil];refine List.pairwise_append.2 ⟨h.sublist (List.take_sublist _ _),List.pairwise_cons.2 ⟨λd hd=>?_,h.sublist (List.drop_sublist _ _)⟩,λa ha b hb'=>?_⟩
    ·grind [aAG]
    ·obtain⟨i,hi⟩:=aAG ha;rw[List.getElem?_take]at hi;split at hi
     ·have hac:key a<=key c:=by
       by_cases ei:i=k
       ·simp_all
       grind [aAO]
      rcases aAb.1 hb' with rfl|hb'
      ·omega
      ·obtain⟨j,hj⟩:=aAG hb'
       grind
     ·cases hi
 exact hk out.length (aAJ _) λj c hj hc=>by simp_all
theorem Ahs {bf:α->α->Bool} {key:α->Int} (hbf:∀ a b,bf a b=true↔key a<key b):∀ (l:List α) {out:List α},out.Pairwise (λa b=>key a<=key b)->(l.foldl (YG bf) out).Pairwise λa b=>key a<=key b
 | [],_,h=>h
 | a::l,_,h=>Ahs hbf l (AsI hbf h a)
theorem AmT {bf:α->α->Bool} {key:α->Int} (hbf:∀ a b,bf a b=true↔key a<key b) (l:List α):(QI bf l).Pairwise λa b=>key a<=key b:=Ahs hbf l List.Pairwise.nil
end
end Go.Dw
namespace Go.Proofs.YtilmapojncgflaaGreatDoor
open Go Go.Dw Go.Proofs
def alI (s:List Pa) (i:Int):Int:=((s[i.toNat]?).map Pa.Align).getD 0
def szI (s:List Pa) (i:Int):Int:=((s[i.toNat]?).map Pa.Size).getD 0
theorem AmY {s:List Pa} {i:Int} {x:Pa} (h:s[i.toNat]? =some x):alI s i=x.Align/\szI s i=x.Size:=by simp[alI,szI,h]
def bfS (s:List Pa) (i c:Int):Bool:=decide (alI s c<alI s i\/alI s c=alI s i/\szI s c<szI s i)
def idI (n:Nat):List Int:=(aAW n).map λi:Nat=>(i:Int)
theorem Aoh (n:Nat):idI (n+1)=idI n++[(n:Int)]:=by simp[idI,List.range_succ]
theorem AhL (n:Nat):(idI n).length=n:=by simp[idI]
theorem Axl {n k:Nat} (h:k<n):(idI n)[k]? =some (k:Int):=by simp[idI,h]
theorem AoL (x y:Int):TH x y=some (if x<y then -1 else if y<x then 1 else 0):=by
 unfold TH TU
 grind
theorem AxY (a b:Int):Aeo [a,b]=some (if a≠0 then a else b):=by
 have key:Hs (Aeo [a,b]) λr=>r=if a≠0 then a else b:=by
  refine Hs.loop (λi=>i=0\/(i=1/\a=0)\/(i=2/\a=0/\b=0)) (λi=>3-i.toNat) (.inl rfl) ?_
  rintro i (rfl|⟨rfl,ha⟩|⟨rfl,ha,hb⟩)
  ·refine .dec (λ_=>?_) λh=>(h (by simp)).elim
   refine .bne (λh=>.lft (.pure (show a=if a≠0 then a else b from by omega))) λh=>.cnt ⟨.inr (.inl ⟨rfl,h⟩),by decide⟩
  ·refine .dec (λ_=>?_) λh=>(h (by simp)).elim
   refine .bne (λh=>.lft (.pure (show b=if a≠0 then a else b from by omega))) λh=>.cnt ⟨.inr (.inr ⟨rfl,ha,h⟩),by decide⟩
  ·refine .dec (λh=>absurd h (by simp)) λ_=>.lft (.pure (show 0=if a≠0 then a else b from by omega))
 obtain⟨r,h,rfl⟩:=key;exact h
section
variable {s:List Pa}
theorem Axs {a b:Int} (ha0:0<=a) (ha1:a<s.length) (hb0:0<=b) (hb1:b<s.length):Hs (TQ a b s) λr=>(r<0↔bfS s a b=true):=by
 unfold TQ;have ga:s[a.toNat]? =some (s[a.toNat]'(by omega)):=aAA _
 have gb:s[b.toNat]? =some (s[b.toNat]'(by omega)):=aAA _
 generalize s[a.toNat]'(by omega)=x at ga
 generalize s[b.toNat]'(by omega)=y at gb
 obtain⟨a1,a2⟩:=AmY ga;obtain⟨b1,b2⟩:=AmY gb;simp only[QU _ ha0,QU _ hb0,ga,gb,aA,AoL,AxY];refine .pure ?_;unfold bfS
 grind
theorem Aui {a b:Int} {x y:Pa} (hx:s[a.toNat]? =some x) (hy:s[b.toNat]? =some y):YR x y=some (bfS s a b):=by
 obtain⟨a1,a2⟩:=AmY hx;obtain⟨b1,b2⟩:=AmY hy;unfold YR bfS
 grind
theorem Ale (bf:Int->Int->Bool) {n:Nat} {v:Int} (h:v∈QI bf (idI n)):0<=v/\v<n:=by
 grind [AmS,idI]
theorem Avd (hs:s.length<=1000):ZO s=some (QI (bfS s) (idI s.length)):=by
 have key:Hs (ZO s) λout=>out=QI (bfS s) (idI s.length):=by
  refine Hs.loop (λq=>∃ k:Nat,q.2=(k:Int)/\k<=s.length/\q.1=QI (bfS s) (idI k)) (λq=>s.length-q.2.toNat) ⟨0,rfl,aAC _,rfl⟩ ?_
  rintro⟨out,_⟩ ⟨k,rfl,hk,ho⟩;replace ho:out=QI (bfS s) (idI k):=ho;have hol:out.length=k:=by rw[ho,Abm,AhL]
  have hor:∀ v∈out,0<=v/\v<s.length:=λv hv=>by rw[ho]at hv;have:=Ale _ hv;omega
  dsimp only;refine .dec (λhlt=>?_) λhge=>.lft (.pure ?_)
  rotate_left
  ·have hkk:k=s.length:=by omega
   subst hkk;exact ho
  have hlt:k<s.length:=by omega
  have hsn:QI (bfS s) (idI (k+1))=YG (bfS s) out (k:Int):=by rw[Aoh,Ald,ho]
  have gk:s[((k:Nat):Int).toNat]? =some (s[k]'hlt):=by simp_all
  have j3:∀ m:Nat,m=TP (bfS s) out (k:Int) out.length->Hs (Tq out (k:Int) (m:Int)) (Rnd (λq:List Int×Int=>∃ k:Nat,q.2=(k:Int)/\k<=s.length/\q.1=QI (bfS s) (idI k)) (λq=>s.length-q.2.toNat) (out,(k:Int)) (λout=>out=QI (bfS s) (idI s.length))):=by
   intro m hm;have hml:m<=out.length:=by grind [Asp]
   unfold Tq;refine .chk (by omega) (.chk (by simp;omega) (.chk (by simp;omega) (.chk (by omega) (.chk (by simp;omega) ?_))))
   unfold YQ;rw[OX (by omega)]
   refine .cnt ⟨⟨k+1,rfl,hlt,?_⟩,by grind⟩
   grind [YG,gap]
  refine Hs.loop (λm=>∃ j:Nat,m=(j:Int)/\j<=out.length/\TP (bfS s) out (k:Int) out.length=TP (bfS s) out (k:Int) j) (λm=>m.toNat) ⟨out.length,rfl,aAJ _,rfl⟩ ?_
  rintro _ ⟨j,rfl,hj,hst⟩;refine .dec (λhp=>?_) λhp=>.lft (j3 j ?_)
  ·obtain⟨m,rfl⟩:∃ m:Nat,j=m+1:=⟨j-1,by omega⟩
   have hg:out[m]? =some (out[m]'(by omega)):=aAA _
   have hcr:=hor _ (aAD (show m<out.length by omega))
   generalize out[m]'(by omega)=c at hg hcr
   have gc:s[c.toNat]? =some (s[c.toNat]'(by omega)):=aAA _
   have ew:IntKind.i64.wrap ((((m+1:Nat):Int))-1)=(m:Int):=by grind [wrap64]
   rw[ew,QU _ (show(0:Int)<=(k:Int)by omega),gk,aA]
   refine .chk (by omega) ?_
   rw[aAB,hg,aA,QU _ hcr.1,gc,aA,Aui gk gc,aA];refine .cond (λhb=>.cnt ⟨⟨m,rfl,by omega,?_⟩,by simp_all⟩) λhb=>.lft (j3 (m+1) ?_)
   all_goals grind [Ajm,Alf]
  ·have hj0:j=0:=by omega
   subst hj0;rw[hst];rfl
 obtain⟨r,h,rfl⟩:=key;exact h
theorem AuS (hs:s.length<=19):AaL s=some (QI (bfS s) (idI s.length)):=by
 have key:Hs (AaL s) λout=>out=QI (bfS s) (idI s.length):=by
  refine Hs.loop (λq=>∃ k:Nat,q.2=(k:Int)/\k<=s.length/\q.1=idI k) (λq=>s.length-q.2.toNat) ⟨0,rfl,aAC _,rfl⟩ ?_
  rintro⟨_,_⟩ ⟨k,rfl,hk,rfl⟩;refine .dec (λhlt=>?_) λhge=>.lft ?_
  ·have hlt:k<s.length:=by omega
   refine .chk (by grind [AhL]) ?_
   rw[OX (by omega)]
   exact .cnt ⟨⟨k+1,rfl,hlt,(Aoh k).symm⟩,by grind⟩
  have hkk:k=s.length:=by omega
  subst hkk;have hll:=AhL s.length;refine Hs.loop (λq=>q=(idI s.length,(0:Int),(20:Int))) (λ_=>0) rfl ?_
  rintro _ rfl;dsimp only;refine .dec (λh=>by omega) λ_=>.lft ?_
  unfold Aam;have start:∃ i:Nat,1<=i/\((1:Nat):Int)=(i:Int)/\(i<=s.length\/s.length=0)/\idI s.length=QI (bfS s) (idI (min i s.length))++(idI s.length).drop i:=by
   refine⟨1,aAJ _,rfl,by omega,?_⟩
   cases h:s.length with
   | zero=>rfl
   | succ n =>
    rw[show min 1 (n+1)=1 by omega]
    have:idI 1=[0]:=rfl;rw[this];show _=[0]++(idI (n+1)).drop 1
    grind [idI,List.range_succ_eq_map]
  refine Hs.loop (λq=>∃ i:Nat,1<=i/\q.2=(i:Int)/\(i<=s.length\/s.length=0)/\q.1=QI (bfS s) (idI (min i s.length))++(idI s.length).drop i) (λq=>s.length-q.2.toNat) start ?_
  rintro⟨x,_⟩ ⟨i,hi1,rfl,hi,hx⟩;replace hx:x=QI (bfS s) (idI (min i s.length))++(idI s.length).drop i:=hx;unfold Aal;dsimp only;refine .dec (λhlt=>?_) λhge=>.lft ?_
  ·have hlt:i<s.length:=by omega
   rw[show min i s.length=i by omega]at hx
   obtain⟨out,ho⟩:∃ out,out=QI (bfS s) (idI i):=⟨_,rfl⟩;have hol:out.length=i:=by rw[ho,Abm,AhL]
   have hor:∀ v∈out,0<=v/\v<s.length:=λv hv=>by rw[ho]at hv;have:=Ale _ hv;omega
   have hdr:(idI s.length).drop i=(i:Int)::(idI s.length).drop (i+1):=by
    rw[aAY (by omega)]
    congr 1;have:=Axl hlt;simp_all
   have hsn:QI (bfS s) (idI (i+1))=YG (bfS s) out (i:Int):=by rw[Aoh,Ald,ho]
   rw[<- ho,hdr,<- ArA]at hx;have hrl:((idI s.length).drop (i+1)).length=s.length-(i+1):=by simp_all
   generalize(idI s.length).drop (i+1)=rest at hx hrl hdr;have fin:∀ m:Nat,m=TP (bfS s) out (i:Int) out.length->Hs (lft (UW (i:Int) (gap out m (i:Int) rest)):Option ((List Int×Int)⊕((List Int×Int)⊕List Int))) (Rnd (λq:List Int×Int=>∃ j:Nat,q.2=(j:Int)/\j<=out.length/\q.1=gap out j (i:Int) rest/\TP (bfS s) out (i:Int) out.length=TP (bfS s) out (i:Int) j) (λq=>q.2.toNat) (gap out m (i:Int) rest,(m:Int)) (Rnd (λq:List Int×Int=>∃ i:Nat,1<=i/\q.2=(i:Int)/\(i<=s.length\/s.length=0)/\q.1=QI (bfS s) (idI (min i s.length))++(idI s.length).drop i) (λq=>s.length-q.2.toNat) (x,(i:Int)) λout=>out=QI (bfS s) (idI s.length))):=by
    intro m hm;unfold UW;rw[OX (by omega)]
    refine .lft (.cnt ⟨⟨i+1,by omega,rfl,.inl hlt,?_⟩,by grind⟩)
    show gap out m (i:Int) rest=_;rw[show min (i+1) s.length=i+1 by omega,hsn,ArC,hm]
    unfold YG;congr 1;have:=congrArg List.tail hdr
    grind [List.tail_drop]
   refine Hs.loop (λq=>∃ j:Nat,q.2=(j:Int)/\j<=out.length/\q.1=gap out j (i:Int) rest/\TP (bfS s) out (i:Int) out.length=TP (bfS s) out (i:Int) j) (λq=>q.2.toNat) ⟨out.length,by rw[hol],aAJ _,hx,rfl⟩ ?_
   rintro⟨_,_⟩ ⟨j,rfl,hj,rfl,hst⟩;have hgl:=Apv out j (i:Int) rest;dsimp only;refine .dec (λhp=>?_) λhp=>fin j ?_
   ·obtain⟨m,rfl⟩:∃ m:Nat,j=m+1:=⟨j-1,by omega⟩
    have hg:out[m]? =some (out[m]'(by omega)):=aAA _
    have hcr:=hor _ (aAD (show m<out.length by omega))
    generalize out[m]'(by omega)=c at hg hcr
    have ew:IntKind.i64.wrap ((((m+1:Nat):Int))-1)=(m:Int):=by grind [wrap64]
    have g1:=AuD hj (i:Int) rest;have g2:=ArB hg (i:Int) rest;refine .chk (by omega) ?_
    rw[aAB,g1,aA,ew];refine .chk (by omega) ?_
    rw[aAB,g2,aA];refine(Axs (by omega) (by omega) hcr.1 hcr.2).bind λr hr=>.cond (λhb=>?_) λhb=>fin (m+1) ?_
    ·have hb:=hr.1 (of_decide_eq_true hb);unfold Zi;rw[ew];refine .chk (by omega) ?_
     rw[aAB,g2,aA];refine .chk (by omega) ?_
     rw[aAB,g1,aA];refine .chk (by omega) ?_
     refine .chk (by grind) ?_
     rw[aAA (by grind),aA,ArD hg]
     exact .cnt ⟨⟨m,rfl,by omega,rfl,by grind [Ajm]⟩,by simp_all⟩
    grind [Alf]
   ·have hj0:j=0:=by omega
    subst hj0;rw[hst];rfl
  ·have hxe:x=QI (bfS s) (idI s.length):=by
    simp_all
   have hxl:x.length=s.length:=by grind [Abm]
   refine .chk (by omega) ?_
   refine Hs.loop (λb=>b=20) (λ_=>0) rfl ?_
   rintro _ rfl;refine .dec (λh=>by omega) λ_=>.lft ?_
   refine .chk (by omega) (.pure hxe)
 obtain⟨r,h,rfl⟩:=key;exact h
end
end Go.Proofs.YtilmapojncgflaaGreatDoor
namespace Go.Dw
open Go
theorem Avy (x k w:Nat) (hx:x<2 ^ w) (hk:k<=w):x &&& (2 ^ w-1-(2 ^ k-1))=x / 2 ^ k*2 ^ k:=by
 have hle:2 ^ k<=2 ^ w:=aAH (by omega) hk
 have h0:0<2 ^ k:=aAc k;apply Nat.eq_of_testBit_eq
 grind [Nat.testBit_lt_two_pow,Nat.lt_of_lt_of_le,aAH]
theorem AxI (x:Int) (k:Nat) (hk:k<=24) (h0:0<=x) (h1:x<4611686018427387904) :
  IntKind.i64.wrap (((aAP IntKind.i64.bits x &&& ~~~ aAP IntKind.i64.bits ((2 ^ k-1:Nat):Int)).toNat:Nat):Int)=x-x % ((2 ^ k:Nat):Int):=by
 obtain⟨n,rfl⟩:∃ n:Nat,x=(n:Int):=⟨x.toNat,by omega⟩
 have hp:2 ^ k<=2 ^ 24:=aAH (by omega) hk
 have hp0:0<2 ^ k:=aAc k;have hn:n<2 ^ 64:=by omega
 have hb:IntKind.i64.bits=64:=rfl;rw[hb,aAj,BitVec.toNat_not];have e1:(aAP 64 (n:Int)).toNat=n:=by simp;omega
 have e2:(aAP 64 ((2 ^ k-1:Nat):Int)).toNat=2 ^ k-1:=by
  grind
 rw[e1,e2,Avy n k 64 hn (by omega)]
 have hm:=Nat.div_add_mod n (2 ^ k)
 grind [wrap64]
end Go.Dw
namespace Go.Proofs.YtilmapojncgflaaGreatDoor
open Go Go.Dw Go.Proofs
variable {m:List (List Bool)} {l g:List (List Int)} {i:Int} {s:List Pa} {w:Nat} {p:Pk} {f:Mk} {mv:OP->Int->Bool}
theorem AiS (n:Int):SX n=some (decide (0<=n/\n<=2147483647)):=by
 rw[<- AaJ];rfl
theorem ApZ (a:OU):YF a=some (decide (Rn a)):=by
 rw[<- AdO]
 grind [YF,TA,AiS,AaJ]
theorem AoP {m:Nat} (hm:m<=24):Rs ((2 ^ m:Nat):Int)=some true:=by
 have hp:2 ^ m<=2 ^ 24:=aAH (by omega) hm
 have h0:0<2 ^ m:=aAc m;have hz:(2 ^ m) &&& (2 ^ m-1)=0:=by simp_all
 unfold Rs;generalize 2 ^ m=a at *;rw[decide_eq_true (show((a:Nat):Int)>=1 by omega),cond_true,decide_eq_true (show((a:Nat):Int)<=16777216 by omega),cond_true,wrap64 (n:=(a:Int)-1) (by omega) (by omega)]
 have hb:IntKind.i64.bits=64:=rfl;have e1:(aAP 64 (a:Int)).toNat=a:=by grind
 have e2:(aAP 64 ((a:Int)-1)).toNat=a-1:=by grind
 rw[hb,aAj,e1,e2,hz];rfl
theorem AsN {a u v:Int} (ha:0<a) (hu:u % a=0) (hv:v % a=0) (h1:u-v<a) (h2:v-u<a):u=v:=by
 obtain⟨p,rfl⟩:=aAT hu;obtain⟨q,rfl⟩:=aAT hv;have key:∀ x y:Int,x<y->a*x+a<=a*y:=λx y h=>by
  have:=aAN (show x+1<=y by omega) (show 0<=a by omega)
  grind
 rcases Int.lt_trichotomy p q with h|h|h
 ·grind
 ·rw[h]
 ·have:=key q p h;omega
theorem Apr {n a:Int} (h0:0<=n) (h1:n<=4000000000) (ha:TE a):AaT n a=some (upN n a):=by
 obtain⟨a1,a2⟩:=ha.rng;obtain⟨m,hm,rfl⟩:=ha;obtain⟨p1,p2,p3⟩:=SR (n:=n) (a:=((2 ^ m:Nat):Int)) (by omega)
 unfold AaT;have w1:IntKind.i64.wrap (n+((2 ^ m:Nat):Int))=n+((2 ^ m:Nat):Int):=wrap64 (by omega) (by omega)
 have w2:IntKind.i64.wrap (n+((2 ^ m:Nat):Int)-1)=n+((2 ^ m:Nat):Int)-1:=wrap64 (by omega) (by omega)
 have w3:IntKind.i64.wrap (((2 ^ m:Nat):Int)-1)=((2 ^ m-1:Nat):Int):=by grind [wrap64]
 rw[w1,w2,w3,AxI _ m hm (by omega) (by omega)]
 have key:n+((2 ^ m:Nat):Int)-1-(n+((2 ^ m:Nat):Int)-1) % ((2 ^ m:Nat):Int)=upN n ((2 ^ m:Nat):Int):=by
  refine AsN (a:=((2 ^ m:Nat):Int)) (by omega) ?_ p3 (by omega) (by omega)
  simp_all
 rw[key]
theorem AxP {n a:Int} (h0:0<=n) (h1:n<=1000000000) (ha:TE a):AgG n a=some (upN n a,0):=by
 have h2:=Apr h0 (by omega) ha
 obtain⟨a1,a2⟩:=ha.rng;obtain⟨p1,p2,p3⟩:=SR (n:=n) (a:=a) (by omega)
 have hp:Rs a=some true:=by obtain⟨m,hm,rfl⟩:=ha;exact AoP hm
 unfold AgG;rw[AiS,aA,decide_eq_true (show 0<=n/\n<=2147483647 by omega)]
 simp only[aAR,cond_false,hp,aA];unfold AeC VB
 grind
theorem Axg {x y:Int} (hx:0<=x/\x<=1000000000) (hy:0<=y/\y<=1000000000):Aey x y=some (x+y,0):=by
 grind [Aey,AcN,VB,AiS,wrap64]
theorem AvJ {a:OU} {y size:Int} (ha:Rn a) (hp:0<a.Size) (hs:0<size) (h0: -4611686018427387904<=y/\y<=4611686018427387904) (h1:size<=2147483647):Acw a ⟨y,size⟩=some (decide (AcL a size y)):=by
 obtain⟨a1,a2,a3,a4,a5⟩:=ha;unfold Acw;dsimp only;rw[wrap64 (n:=a.Off+a.Size) (by omega) (by omega),wrap64 (n:=y+size) (by omega) (by omega)]
 congr 1;refine decide_eq_decide.2 ?_
 grind [AcL,PJ,RQ]
def bfO (a b:OU):Bool:=decide (a.Off<b.Off)
theorem Axk (a b:OU):Hs (AaQ a b) λr=>(r<0↔bfO a b=true):=by
 unfold AaQ;simp only[AoL,aA];refine .pure ?_;unfold bfO
 grind
theorem Asx {l:List OU} (hl:l.length<=1000) (h:∀ a∈l,Rn a):PM l=some false:=by
 have key:Hs (Qn l) λr=>r= -1:=by
  refine Hs.loop (λi=>∃ k:Nat,i=(k:Int)/\k<=l.length) (λi=>l.length-i.toNat) ⟨0,rfl,aAC _⟩ ?_
  rintro _ ⟨k,rfl,hk⟩;refine .dec (λhlt=>?_) λ_=>.lft (.pure rfl)
  have hlt:k<l.length:=by omega
  rw[Pq,aAA hlt,aA];unfold Aez;rw[ApZ,aA,aA,decide_eq_true (h _ (aAD hlt)),OX (by omega)]
  exact .cnt ⟨⟨k+1,rfl,hlt⟩,by grind⟩
 obtain⟨r,h1,rfl⟩:=key
 grind [PM]
section
variable {l:List OU} {frm size align M:Int}
theorem AuA {x:List OU} (hx:∀ a∈x,Rn a/\a.Off+a.Size<=M) (hxp:∀ a∈x,0<a.Size) (hxl:x.length<=1000) (hM:M<=100000) (hf:0<=frm/\frm<=M) (hs:1<=size/\size<=16) (ha:TE align) (ha':align<=64) (y0:Int) (h0:0<=y0/\y0<=M+63) :
  Hs (Pc (λs=>AcO x size align s.1 s.2) (y0,0)) λr=>r=(x.foldl (swp size align) y0,0):=by
 have har:=ha.rng;refine Hs.loop (λs=>∃ k:Nat,s.2=(k:Int)/\k<=x.length/\s.1=(x.take k).foldl (swp size align) y0/\0<=s.1/\s.1<=M+63) (λs=>x.length-s.2.toNat) ⟨0,rfl,aAC _,rfl,h0.1,h0.2⟩ ?_
 rintro⟨y,_⟩ ⟨k,rfl,hk,hy,y1,y2⟩;replace hy:y=(x.take k).foldl (swp size align) y0:=hy;refine .dec (λhlt=>?_) λhge=>.lft ?_
 ·have hlt:k<x.length:=by omega
  have hg:x[k]? =some x[k]:=aAA _;have htk:x.take (k+1)=x.take k++[x[k]]:=by simp_all
  have hm:=aAD hlt;generalize x[k]=a at hg htk hm;obtain⟨⟨a1,a2,a3,a4,a5⟩,a6⟩:=hx a hm;obtain⟨u1,u2,_⟩:=SR (n:=a.Off+a.Size) (a:=align) (by omega)
  have hst:(x.take (k+1)).foldl (swp size align) y0=swp size align y a:=by simp_all
  refine .chk (by omega) ?_
  rw[aAB,hg,aA,AvJ ⟨a1,a2,a3,a4,a5⟩ (hxp a hm) (by omega) (by omega) (by omega),aA,OX (by omega)]
  refine .dec (λh=>?_) λh=>.cnt ⟨⟨k+1,rfl,hlt,?_,y1,y2⟩,by grind⟩
  ·rw[wrap64 (by omega) (by omega),Apr (by omega) (by omega) ha,aA]
   refine .cnt ⟨⟨k+1,rfl,hlt,?_,by omega,by omega⟩,by grind⟩
   simp_all[swp]
  simp_all[swp]
 ·have hkk:k=x.length:=by omega
  subst hkk;rw[aAI]at hy;rw[wrap64 (by omega) (by omega),decide_eq_false (by omega),cond_false]
  exact .pure (show(y,(0:Int))=_ by rw[hy])
theorem Aud {y:Int} (hl:l.length<=12) (hM:M<=100000) (hf:0<=frm/\frm<=M) (hs:1<=size/\size<=16) (ha:TE align) (ha':align<=64) (hu:∀ u∈l,Rn u/\u.Off+u.Size<=M) (hp:∀ u∈l,0<u.Size) (hy:RK l frm size align y) :
  Zl l frm size align=some (y,0):=by
 have har:=ha.rng;have ep:Rs align=some true:=by obtain⟨m,hm,rfl⟩:=ha;exact AoP hm
 have key:Hs (Zl l frm size align) λr=>r=(y,0):=by
  unfold Zl;simp only[AiS,aA,ep];rw[decide_eq_true (p:=0<=frm/\frm<=2147483647) (by omega),decide_eq_true (p:=0<=size/\size<=2147483647) (by omega),Asx (by omega) λa h=>(hu a h).1]
  simp only[aAR,cond_false,aA];unfold AcQ Arp Zu AcV Aiq;rw[PN (by omega),aA,PN ?_,aA,aA]
  rotate_left
  ·have:=Akt (l.length:Int);omega
  refine Hs.loop (λ_=>True) (λ_=>0) trivial ?_
  rintro _ -;unfold AcP;rw[wrap64 (by omega) (by omega)]
  refine .dec (λ_=>?_) λh=>by omega
  have start:∃ i:Nat,1<=i/\((1:Nat):Int)=(i:Int)/\(i<=l.length\/l.length=0)/\l=QI bfO (l.take (min i l.length))++l.drop i:=by
   refine⟨1,aAJ _,rfl,by omega,?_⟩
   cases l<;>grind [QI,YG,gap]
  refine Hs.loop (λq=>∃ i:Nat,1<=i/\q.2=(i:Int)/\(i<=l.length\/l.length=0)/\q.1=QI bfO (l.take (min i l.length))++l.drop i) (λq=>l.length-q.2.toNat) start ?_
  rintro⟨x,_⟩ ⟨i,hi1,rfl,hi,hx⟩;replace hx:x=QI bfO (l.take (min i l.length))++l.drop i:=hx;dsimp only;refine .dec (λhlt=>?_) λhge=>.lft ?_
  ·have hlt:i<l.length:=by omega
   rw[show min i l.length=i by omega]at hx
   obtain⟨out,ho⟩:∃ out,out=QI bfO (l.take i):=⟨_,rfl⟩;have hol:out.length=i:=by grind [Abm]
   have hdr:l.drop i=l[i]::l.drop (i+1):=aAY hlt;have htk:l.take (i+1)=l.take i++[l[i]]:=by grind
   have hrl:(l.drop (i+1)).length=l.length-(i+1):=by simp
   generalize l[i]=e at hdr htk;have hsn:QI bfO (l.take (i+1))=YG bfO out e:=by grind [Ald]
   rw[<- ho,hdr,<- ArA]at hx;obtain⟨rest,hrest⟩:∃ rest,rest=l.drop (i+1):=⟨_,rfl⟩;rw[<- hrest]at hx hrl;have fin:∀ m:Nat,m=TP bfO out e out.length->Hs (lft (WK (i:Int) (gap out m e rest)):Option ((List OU×Int)⊕((List OU×Int)⊕(Unit⊕(Int×Int))))) (Rnd (λq:List OU×Int=>∃ j:Nat,q.2=(j:Int)/\j<=out.length/\q.1=gap out j e rest/\TP bfO out e out.length=TP bfO out e j) (λq=>q.2.toNat) (gap out m e rest,(m:Int)) (Rnd (λq:List OU×Int=>∃ i:Nat,1<=i/\q.2=(i:Int)/\(i<=l.length\/l.length=0)/\q.1=QI bfO (l.take (min i l.length))++l.drop i) (λq=>l.length-q.2.toNat) (x,(i:Int)) (Rnd (λ_:Unit=>True) (λ_=>0) () λr=>r=(y,0)))):=by
    intro m hm;unfold WK;rw[OX (by omega)]
    refine .lft (.cnt ⟨⟨i+1,by omega,rfl,.inl hlt,?_⟩,by grind⟩)
    rw[show min (i+1) l.length=i+1 by omega,hsn,ArC,hm,<- hrest]
    rfl
   refine Hs.loop (λq=>∃ j:Nat,q.2=(j:Int)/\j<=out.length/\q.1=gap out j e rest/\TP bfO out e out.length=TP bfO out e j) (λq=>q.2.toNat) ⟨out.length,by rw[hol],aAJ _,hx,rfl⟩ ?_
   rintro⟨_,_⟩ ⟨j,rfl,hj,rfl,hst⟩;have hgl:=Apv out j e rest;dsimp only;refine .dec (λhp=>?_) λhp=>fin j ?_
   ·obtain⟨m,rfl⟩:∃ m:Nat,j=m+1:=⟨j-1,by omega⟩
    have hg:out[m]? =some (out[m]'(by omega)):=aAA _
    generalize out[m]'(by omega)=c at hg
    have ew:IntKind.i64.wrap ((((m+1:Nat):Int))-1)=(m:Int):=by grind [wrap64]
    have g1:=AuD hj e rest;have g2:=ArB hg e rest;refine .chk (by omega) ?_
    rw[aAB,g1,aA,ew];refine .chk (by omega) ?_
    rw[aAB,g2,aA];refine(Axk e c).bind λr hr=>.cond (λhb=>?_) λhb=>fin (m+1) ?_
    ·have hb:=hr.1 (of_decide_eq_true hb);unfold AcR;rw[ew];refine .chk (by omega) ?_
     rw[aAB,g2,aA];refine .chk (by omega) ?_
     rw[aAB,g1,aA];refine .chk (by omega) ?_
     refine .chk (by grind) ?_
     rw[aAA (by grind),aA,ArD hg]
     exact .cnt ⟨⟨m,rfl,by omega,rfl,by grind [Ajm]⟩,by simp_all⟩
    grind [Alf]
   ·have hj0:j=0:=by omega
    subst hj0;rw[hst];rfl
  ·have hxe:x=QI bfO l:=by
    simp_all
   have hxl:x.length=l.length:=by rw[hxe,Abm]
   have hmem:∀ a,a∈x↔a∈l:=λa=>by rw[hxe,AmS]
   have hso:AqM x:=by rw[hxe];exact AmT (key:=OU.Off) (λa b=>by unfold bfO;grind) l
   obtain⟨u1,u2,_⟩:=SR (n:=frm) (a:=align) (by omega)
   refine .lft ?_;refine .chk (by omega) ?_
   rw[Apr (by omega) (by omega) ha,aA]
   refine(AuA (frm:=frm) (λa h=>hu a ((hmem a).1 h)) (λa h=>hp a ((hmem a).1 h)) (by omega) hM hf hs ha ha' _ ⟨by omega,by omega⟩).mono λr hr=>?_
   subst hr;have:=(AnS (frm:=frm) (size:=size) (al:=align) (by omega) hso).ArR hmem
   show(_,(0:Int))=_;rw[this.unique hy]
 obtain⟨r,h,rfl⟩:=key;exact h
theorem AvS (ha:TE align) (l:List OU) (frm size:Int):∃ y,RK l frm size align y:=by
 have har:=ha.rng;have hso:AqM (QI bfO l):=AmT (key:=OU.Off) (λa b=>by simp_all[bfO]) l
 exact⟨_,(AnS (frm:=frm) (size:=size) (al:=align) (by omega) hso).ArR λa=>AmS bfO l a⟩
end
open Go Go.Dw Go.Proofs
theorem Awg:∀ k:Fin 17,AbT ((k:Nat):Int)=TK ((k:Nat):Int)/\(TK ((k:Nat):Int)).isSome=true:=by decide +kernel
theorem Aql (n:Int):∃ b,AbT n=some b/\TK n=some b:=by
 by_cases h:1<=n/\n<=16
 ·have:=Awg ⟨n.toNat,by omega⟩
  grind [Option.isSome_iff_exists]
 ·refine⟨false,?_,?_⟩
  ·grind [AbT]
  ·unfold TK;have e1:(n==1)=false:=by simp;omega
   have e2:(n==2)=false:=by simp;omega
   have e3:(n==4)=false:=by simp;omega
   have e4:(n==8)=false:=by simp;omega
   have e5:(n==16)=false:=by simp;omega
   grind
def Pw (n:Int):Prop:=∃ i:Nat,i<=24/\n=(2 ^ i:Nat)
theorem AmQ (n:Int) (j:Nat) (hj:j<=24):RI n ((2 ^ j:Nat):Int)=if n=(2 ^ j:Nat)then some (.inr true)else some (.inl ((2 ^ (j+1):Nat):Int)):=by
 have h1:2 ^ j<=2 ^ 24:=aAH (by decide) hj
 have h2:(2 ^ j:Nat)<=16777216:=by omega
 have w:IntKind.i64.wrap (((2 ^ j:Nat):Int)*2)=((2 ^ (j+1):Nat):Int):=by
  grind [wrap64]
 unfold RI;have hd:decide (((2 ^ j:Nat):Int)<=16777216)=true:=by grind
 simp_all
theorem Ave (n:Int):∀ (d j:Nat),j+d<=24->n=(2 ^ (j+d):Nat)->Pc (λs=>RI n s) ((2 ^ j:Nat):Int)=some true:=by
 intro d
 induction d with
 | zero =>
  intro j hj hn;rw[Adk];rw[AmQ n j (by omega),if_pos (by omega)]
 | succ d ih =>
  intro j hj hn;rw[Adk];rw[AmQ n j (by omega),if_neg]
  ·grind
  ·have:2 ^ j<2 ^ (j+(d+1)):=Nat.pow_lt_pow_right (by decide) (by omega)
   omega
theorem Api (n:Int) (h:¬ Pw n):∀ (d j:Nat),j+d=25->Pc (λs=>RI n s) ((2 ^ j:Nat):Int)=some false:=by
 intro d
 induction d with
 | zero =>
  simp_all[Adk,RI]
 | succ d ih =>
  intro j hj;rw[Adk];rw[AmQ n j (by omega),if_neg (λe=>h ⟨j,by omega,e⟩)]
  grind
theorem Axw {i:Nat} (h:2 ^ i<=16777216):i<=24:=by
 by_cases hi:i<=24
 ·exact hi
 ·have:2 ^ 25<=2 ^ i:=aAH (by decide) (by omega)
  omega
theorem Apa (n:Int):∃ b,Rs n=some b/\Rk n=some b:=by
 have hr:Rk n=Pc (λs=>RI n s) ((2 ^ 0:Nat):Int):=rfl
 by_cases h:1<=n/\n<=16777216
 ·obtain⟨m,rfl⟩:∃ m:Nat,n=m:=⟨n.toNat,by omega⟩
  have e1:Rs (m:Int)=some (decide (m &&& (m-1)=0)):=by
   unfold Rs;have h1:((m:Int)>=1):=h.1;have h2:((m:Int)<=16777216):=h.2;have w:IntKind.i64.wrap ((m:Int)-1)=((m-1:Nat):Int):=by grind [wrap64]
   have t1:(aAP IntKind.i64.bits (m:Int)).toNat=m:=by
    show(aAP 64 (m:Int)).toNat=m
    grind
   have t2:(aAP IntKind.i64.bits ((m-1:Nat):Int)).toNat=m-1:=by
    grind
   have hle:m &&& (m-1)<=m:=Nat.and_le_left;have w2:IntKind.i64.wrap ((m &&& (m-1):Nat):Int)=((m &&& (m-1):Nat):Int):=wrap64 (by omega) (by omega)
   rw[decide_eq_true h1,cond_true,decide_eq_true h2,cond_true,w,aAj,t1,t2,w2];congr 1
   grind
  by_cases hp:m &&& (m-1)=0
  ·obtain⟨i,hi⟩:=(aAX (show m≠0 by omega)).1 hp
   refine⟨true,by simp_all,?_⟩
   exact Ave _ i 0 (by have:=Axw (i:=i) (by omega);omega) (by simp_all)
  ·refine⟨false,by simp_all,?_⟩
   refine Api _ (λ⟨i,_,hi⟩=>hp ?_) 25 0 (by omega)
   exact(aAX (show m≠0 by omega)).2 ⟨i,by omega⟩
 ·refine⟨false,?_,?_⟩
  ·grind [Rs]
  ·rw[hr];refine Api _ (λ⟨i,hi24,hi⟩=>h ?_) 25 0 (by omega)
   have h1:2 ^ i<=2 ^ 24:=aAH (by decide) hi24
   grind
noncomputable def Adh (x:Pa):Bool:=(TK x.Size).getD false&&(Rk x.Align).getD false
theorem Aux (x:Pa):YD x=some (!Adh x):=by
 obtain⟨a,a1,a2⟩:=Aql x.Size;obtain⟨b,b1,b2⟩:=Apa x.Align
 grind [YD,Adh]
def AlU (s:List Pa) (e:Int):Prop:=(512<s.length/\e=3)\/(s.length<=512/\(∀ x∈s,Adh x=true)/\e=0)\/(s.length<=512/\(∃ x∈s,Adh x=false)/\e=5)
theorem AlU.one {a b:Int} (h:AlU s a) (k:AlU s b):a=b:=by
 rcases h with⟨h1,h2⟩|⟨h1,h2,h3⟩|⟨h1,⟨x,h2,h3⟩,h4⟩<;>rcases k with⟨k1,k2⟩|⟨k1,k2,k3⟩|⟨k1,⟨y,k2,k3⟩,k4⟩<;>first
  | omega
  | (simp_all)
  | simp_all
theorem Arx (s:List Pa):Hs (YC s) (AlU s):=by
 refine .dec (λh=>.pure (.inl ⟨by omega,rfl⟩)) λh=>?_
 have hl:s.length<=512:=by omega
 have key:Hs (Pc (λst=>Qs s st) 0) λr=>(r= -1/\∀ x∈s,Adh x=true)\/(0<=r/\∃ x∈s,Adh x=false):=by
  refine Hs.loop (λi=>0<=i/\i<=s.length/\∀ (j:Nat) x,(j:Int)<i->s[j]? =some x->Adh x=true) (λi=>s.length-i.toNat) ⟨by omega,by omega,λj x h=>by omega⟩ ?_
  rintro i ⟨h0,h1,h2⟩;refine .dec (λhlt=>?_) λhlt=>?_
  ·refine(Hs.ix h0 hlt λx hx=>hx).bind λx hx=>?_
   rw[Aux,aA];refine .cond (λhb=>.lft (.pure (.inr ⟨h0,x,aAF hx,by simp_all⟩))) λhb=>?_
   have w:IntKind.i64.wrap (i+1)=i+1:=wrap64 (by omega) (by omega)
   rw[w];refine .cnt ⟨⟨by omega,by omega,λj y hj hy=>?_⟩,by grind⟩
   grind
  ·refine .lft (.pure (.inl ⟨rfl,λx hx=>?_⟩))
   grind [aAo]
 refine Hs.bind (P:=λb=>(b=false/\∀ x∈s,Adh x=true)\/(b=true/\∃ x∈s,Adh x=false)) (key.bind λr hr=>.pure ?_) λb hb=>?_
 ·grind
 ·rcases hb with⟨rfl,h⟩|⟨rfl,h⟩
  ·exact .pure (.inr (.inl ⟨hl,h,rfl⟩))
  ·exact .pure (.inr (.inr ⟨hl,h,rfl⟩))
theorem AuY (s:List Pa):Hs (Uv s) (AlU s):=by
 refine .dec (λh=>.pure (.inl ⟨by omega,rfl⟩)) λh=>?_
 have hl:s.length<=512:=by omega
 refine Hs.loop (λi=>0<=i/\i<=s.length/\∀ (j:Nat) x,(j:Int)<i->s[j]? =some x->Adh x=true) (λi=>s.length-i.toNat) ⟨by omega,by omega,λj x h=>by omega⟩ ?_
 rintro i ⟨h0,h1,h2⟩;refine .dec (λhlt=>?_) λhlt=>?_
 ·refine(Hs.ix h0 hlt λx hx=>hx).bind λx hx=>?_
  obtain⟨a,a1,a2⟩:=Aql x.Size;obtain⟨b,b1,b2⟩:=Apa x.Align;have hg:Adh x=(a&&b):=by grind [Adh]
  rw[a2,aA];have hx':ixO s i=some x:=by grind [QU]
  cases a
  ·exact .lft (.pure (.inr (.inr ⟨hl,⟨x,aAF hx,hg⟩,rfl⟩)))
  ·rw[hx',aA,b2,aA];cases b
   ·exact .lft (.pure (.inr (.inr ⟨hl,⟨x,aAF hx,hg⟩,rfl⟩)))
   ·simp only[aAR,cond_false];have w:IntKind.i64.wrap (i+1)=i+1:=wrap64 (by omega) (by omega)
    rw[w];refine .cnt ⟨⟨by omega,by omega,λj y hj hy=>?_⟩,by grind⟩
    grind
 ·refine .lft (.pure (.inr (.inl ⟨hl,λx hx=>?_,rfl⟩)))
  grind [aAo]
theorem Apl (s:List Pa):∃ e,YC s=some e/\Uv s=some e/\(e=0->s.length<=512):=by
 obtain⟨a,a1,a2⟩:=Arx s;obtain⟨b,b1,b2⟩:=AuY s;obtain rfl:=a2.one b2;exact⟨a,a1,b1,λh=>by rcases a2 with h1|h1|h1<;>omega⟩
attribute [local simp] PN aAi
theorem contains_eq (s:List Int) (v:Int) (hs:s.length<=9223372036854775807):RC s v=some (decide (v∈s)):=by
 grind [RC,ArH,AnJ]
theorem Atf (x y:Int):AaK x y=some (decide (x<y)):=by simp[AaK,TU]
theorem Avj (s:List Int) (t:Int) (hp:s.Pairwise (· <·)) (hs:s.length<=1000000):∃ i,RA s t=some (i,decide (t∈s)):=by
 unfold RA;have key:=Agx (body:=λs_1:Int×Int=>PR s t s_1.1 s_1.2) (s:=(0,(s.length:Int)))
  (λst=>∃ i j:Nat,st=((i:Int),(j:Int))/\i<=j/\j<=s.length/\(∀ (k:Nat) x,k<i->s[k]? =some x->x<t)/\∀ (k:Nat) x,j<=k->s[k]? =some x->t<=x)
  (λr=>r.2=decide (t∈s)) (λst=>(st.2-st.1).toNat) ⟨0,s.length,rfl,aAC _,aAJ _,λk x hk=>absurd hk (aAK _),λk x hk hx=>by
   simp_all⟩ (λst hI=>by
   obtain⟨i,j,rfl,hij,hj,h1,h2⟩:=hI
   by_cases hlt:i<j
   ·left;have hm:=AxV (a:=(i:Int)+j) (by omega) (by omega)
    have hmid:((i:Int)+j) / 2=(((i+j) / 2:Nat):Int):=by omega
    rw[hmid]at hm;have hm1:i<=(i+j) / 2:=by omega
    have hm2:(i+j) / 2<j:=by omega
    generalize(i+j) / 2=m at *;have hml:m<s.length:=by omega
    have w:=OX (show m<9223372036854775807 by omega)
    by_cases hx:s[m]<t
    ·refine⟨(((m+1:Nat):Int),(j:Int)),?_,⟨m+1,j,rfl,by omega,hj,λk x hk hkx=>?_,h2⟩,by omega⟩
     ·simp_all[PR,Atf]
     grind [aAO]
    ·refine⟨((i:Int),(m:Int)),?_,⟨i,m,rfl,by omega,by omega,h1,λk x hk hkx=>?_⟩,by omega⟩
     ·simp only[PR,hm];simp[hlt,hml,Atf,hx]
     grind [aAO]
   ·right;have e:i=j:=by omega
    subst e;have hmem:t∈s↔s[i]? =some t:=by
     constructor
     ·intro ht;obtain⟨k,hk⟩:=aAG ht;rcases Nat.lt_trichotomy k i with h|h|h
      ·grind
      ·simp_all
      ·obtain⟨hkl,hkt⟩:=aAE.1 hk;have h3:=h2 i s[i] (aAJ _) (aAA (by omega))
       grind [aAO]
     grind
    by_cases hil:i<s.length
    ·by_cases hx:s[i]=t
     ·simp_all[PR,QA]
     ·have ht:¬ t∈s:=λh=>by
       simp_all
      simp_all[PR,QA,Wa]
    ·have ht:¬ t∈s:=λh=>by
      simp_all
     exact⟨((i:Int),false),by simp[PR,QA,hil],by simp[ht]⟩)
 simp_all
section
variable {g:List (List Int)} {n:Int}
theorem Ayi (hn:(g.length:Int)=n) (hg:g.length<=1000) (hr:∀ (x:Nat) s,g[x]? =some s->AhB n x s) {x:Nat} {row:List Int} (hx:g[x]? =some row) :
  ∃ r,Pc (λs=>Se row g (x:Int) s) 0=some r/\((∀ y∈row,(x:Int)∈rowAt g y)/\r= .inl ((x+1:Nat):Int)\/(¬ ∀ y∈row,(x:Int)∈rowAt g y)/\r= .inr false):=by
 have hrow:=hr x row hx;have hxl:=(aAE.1 hx).1;have hlen:=hrow.1.length_le;have wx:=OX (show x<9223372036854775807 by omega)
 open Classical in
 have:=Rg (body:=λs=>Se row g (x:Int) s) row (λ(_:Unit) i=>i) (λ_ _=>True) (λ_ l=>some (if ∀ y∈l,(x:Int)∈rowAt g y then(.inl ((x+1:Nat):Int):Int⊕Bool)else .inr false))
  (λ_ _=>⟨.inl ((x+1:Nat):Int),by simp[Se,wx],by simp⟩) (λ_ i y r _ hd hi hy=>by
   have hym:y∈row:=aAF hy;have h0:=hrow.1.2 y hym;have h1:=hrow.2.1 y hym;have hyl:y.toNat<g.length:=by omega
   have hgy:g[y.toNat]? =some g[y.toNat]:=aAA hyl;have hs:=hr _ _ hgy;obtain⟨q,hq⟩:=Avj g[y.toNat] (x:Int) hs.1.1 (by have:=hs.1.length_le;omega)
   have w:=OX (show i<9223372036854775807 by omega)
   have hra:rowAt g y=g[y.toNat]:=by grind [rowAt]
   by_cases hin:(x:Int)∈g[y.toNat]
   all_goals simp_all[Se,QU]) () trivial
 grind
theorem Ayh (hn:(g.length:Int)=n) (hg:g.length<=1000) (hr:∀ (x:Nat) s,g[x]? =some s->AhB n x s):∃ b,Pc (λs=>Rz g s) 0=some b/\(b=true↔Sr g n):=by
 have key:=Agx (body:=λs=>Rz g s) (s:=0) (λs=>∃ x:Nat,s=(x:Int)/\x<=g.length/\∀ (k:Nat) s,k<x->g[k]? =some s->∀ y∈s,(k:Int)∈rowAt g y)
  (λb=>b=true↔Sr g n) (λs=>g.length-s.toNat) ⟨0,rfl,aAC _,λk s hk=>absurd hk (aAK _)⟩ (λs hI=>by
   obtain⟨x,rfl,hx,hall⟩:=hI
   by_cases hlt:x<g.length
   ·have hgx:g[x]? =some g[x]:=aAA hlt;obtain⟨r,h1,⟨h2,rfl⟩|⟨h2,rfl⟩⟩:=Ayi hn hg hr hgx
    ·refine .inl ⟨((x+1:Nat):Int),?_,⟨x+1,rfl,hlt,λk s hk hks=>?_⟩,by omega⟩
     ·simp[Rz,hlt,h1]
     grind
    ·refine .inr ⟨false,by simp[Rz,hlt,h1],?_⟩
     constructor
     ·simp_all
     ·intro h;exact(h2 (h.2.2 x _ hgx)).elim
   ·refine .inr ⟨true,by simp[Rz,hlt],?_⟩
    constructor
    ·intro _;exact⟨hn,hr,λk s hks=>hall k s (by grind) hks⟩
    simp_all)
 exact key
theorem Axm {s:List Int} (h:PV s) (hs:0<s.length):(∀ y∈s,y<n)↔s[s.length-1]<n:=by
 constructor
 ·simp_all
 ·intro h1 y hy;obtain⟨k,hk⟩:=aAG hy;obtain⟨hkl,rfl⟩:=aAE.1 hk
  by_cases e:k=s.length-1
  ·simp_all
  ·have:=aAO.1 h.1 k (s.length-1) hkl (by omega) (by omega)
   omega
theorem AuF (hg:g.length<=1000) (hq:∀ s∈g,s.length<=9223372036854775807):∃ b,Xi g n=some b/\(b=true↔Sr g n):=by
 unfold Xi
 by_cases hn:(g.length:Int)=n
 ·simp only[hn,bne_self_eq_false,cond_false];refine Agx (body:=λs=>PZ g n s) (s:=0) (λs=>∃ x:Nat,s=(x:Int)/\x<=g.length/\∀ (k:Nat) s,k<x->g[k]? =some s->AhB n k s)
   (λb=>b=true↔Sr g n) (λs=>g.length-s.toNat) ⟨0,rfl,aAC _,λk s hk=>absurd hk (aAK _)⟩ (λs hI=>?_)
  obtain⟨x,rfl,hx,hall⟩:=hI
  by_cases hlt:x<g.length
  ·have hgx:g[x]? =some g[x]:=aAA hlt;have hl:=hq _ (aAD hlt);have w:=OX (show x<9223372036854775807 by omega)
   have bad:¬ AhB n x g[x]->PZ g n x=some (.inr false)->(∃ r,PZ g n x=some (.inr r)/\(r=true↔Sr g n)):=λh1 h2=>⟨false,h2,λh=>(by cases h),λh=>(h1 (h.2.1 x _ hgx)).elim⟩
   have good:AhB n x g[x]->PZ g n x=some (.inl ((x+1:Nat):Int))->(∃ s',PZ g n x=some (.inl s')/\(∃ x:Nat,s'=(x:Int)/\x<=g.length/\∀ (k:Nat) s,k<x->g[k]? =some s->AhB n k s)/\g.length-s'.toNat<g.length-((x:Int)).toNat) :=
    λh1 h2=>⟨_,h2,⟨x+1,rfl,hlt,λk s hk hks=>by
     grind⟩,by omega⟩
   by_cases hset:PV g[x]
   ·have hb:TW none g[x]=true:=(AdQ _).2 hset
    by_cases h0:0<g[x].length
    ·have wl:IntKind.i64.wrap ((g[x].length:Int)-1)=((g[x].length-1:Nat):Int):=by grind [wrap64]
     have hlast:g[x][g[x].length-1]? =some (g[x][g[x].length-1]'(by omega)):=aAA _
     by_cases hm:g[x][g[x].length-1]'(by omega)<n
     ·have hall':=(Axm (n:=n) hset h0).2 hm
      by_cases hc:(x:Int)∈g[x]
      ·exact .inr (bad (λh=>h.2.2 hc) (by simp[PZ,hlt,AdR _ hl,hb,h0,wl,hlast,show ¬ n<=g[x][g[x].length-1]'(by omega)by omega,contains_eq _ _ hl,hc]))
      ·exact .inl (good ⟨hset,hall',hc⟩ (by simp[PZ,hlt,AdR _ hl,hb,h0,wl,hlast,show ¬ n<=g[x][g[x].length-1]'(by omega)by omega,contains_eq _ _ hl,hc,w]))
     ·exact .inr (bad (λh=>hm (h.2.1 _ (aAD _))) (by simp[PZ,hlt,AdR _ hl,hb,h0,wl,hlast,show n<=g[x][g[x].length-1]'(by omega)by omega]))
    ·have hnil:g[x]=[]:=List.eq_nil_of_length_eq_zero (by omega)
     exact .inl (good (by rw[hnil];exact⟨PV.nil,λy hy=>(by cases hy),by simp⟩) (by simp[PZ,hlt,hnil,AdR [] (by simp),TW,contains_eq [] _ (by simp),w]))
   ·have hb:TW none g[x]=false:=by
     grind [AdQ]
    exact .inr (bad (λh=>hset h.1) (by simp[PZ,hlt,AdR _ hl,hb]))
  ·right;obtain⟨b,h1,h2⟩:=Ayh hn hg (λk s hks=>hall k s (by grind) hks)
   exact⟨b,by simp[PZ,hlt,h1],h2⟩
 ·refine⟨false,by simp[hn],?_⟩
  constructor
  ·simp_all
  ·intro h;exact(hn h.1).elim
end
open Go Go.Dw Go.Proofs
def AmX (s:List Pa) (g:List (List Int)) (done:List Bool) (off:List Int) (w:Nat) (l:List OU):Prop:=∀ u,u∈l↔∃ y:Nat,done[y]? =some true/\(y:Int)∈rowAt g w/\u=ivN s off y
open Classical in
noncomputable def AoU (s:List Pa) (g:List (List Int)) (frm:Int) (done:List Bool) (off:List Int) (w:Nat):Int :=
 if h:∃ y l,AmX s g done off w l/\RK l frm (szN s w) (alN s w) y then aAs h else 0
theorem AuK {frm:Int} {done:List Bool} {off:List Int} {l:List OU} {y:Int} (hl:AmX s g done off w l) (hy:RK l frm (szN s w) (alN s w) y):AoU s g frm done off w=y:=by
 unfold AoU;have h:∃ y l,AmX s g done off w l/\RK l frm (szN s w) (alN s w) y:=⟨y,l,hl,hy⟩;rw[dif_pos h];obtain⟨l',h1,h2⟩:=aAp h;exact(h2.ArR λa=>(h1 a).trans (hl a).symm).unique hy
noncomputable def AqS (s:List Pa) (g:List (List Int)) (frm:Int) (q:List Bool×List Int) (v:Int):List Bool×List Int:=(q.1.set v.toNat true,q.2.set v.toNat (AoU s g frm q.1 q.2 v.toNat))
noncomputable def AlV (s:List Pa) (g:List (List Int)) (frm:Int) (ord:List Int):List Bool×List Int:=ord.foldl (AqS s g frm) (aAS s.length false,aAS s.length 0)
theorem ApU {frm:Int} {ord:List Int} {k:Nat} {v:Int} (h:ord[k]? =some v):AlV s g frm (ord.take (k+1))=AqS s g frm (AlV s g frm (ord.take k)) v:=by
 grind [aAa,AlV]
section
variable {s:List Pa} {g:List (List Int)} {frm:Int} {ord:List Int} {k:Nat} {done:List Bool} {off:List Int}
theorem Arz (hs:WD s) (hg:Sr g s.length) (hf:0<=frm/\frm<=1000) (hI:Asg s g frm ord k done off) (hk:k<=7) (hov:ord[k]? =some (w:Int)) {x:Pa} (hsw:s[w]? =some x) {l:List OU} (hl:l.length<=12) (hu:AmX s g done off w l) :
  ∃ y,AoU s g frm done off w=y/\Xs l frm x.Size x.Align=some (y,0)/\Zl l frm x.Size x.Align=some (y,0)/\Asg s g frm ord (k+1) (done.set w true) (off.set w y):=by
 obtain⟨dl,fl,pl,ap,cov⟩:=id hI;obtain⟨a1,a2,a3,a4⟩:=hs.2 _ (aAF hsw);have har:=a1.rng;have hR:∀ u∈l,(Rn u/\u.Off+u.Size<=frm+80*(k:Int))/\0<u.Size:=λu hu'=>by
  obtain⟨y,hy,_,rfl⟩:=(hu u).1 hu';obtain⟨p1,p2,_⟩:=pl y hy;have hyl:y<s.length:=by grind
  have hsy:s[y]? =some s[y]:=aAA _;obtain⟨_,_,b3,b4⟩:=hs.2 _ (aAD hyl);rw[<- (YU hsy).1]at b3 b4;refine⟨⟨⟨?_,?_,?_,?_,?_⟩,p2⟩,?_⟩<;>simp only[ivN]<;>omega
 obtain⟨y,hy⟩:=AvS a1 l frm x.Size;obtain⟨z1,z2⟩:=YU hsw;have e1:=Auz (M:=frm+80*(k:Int)) (by omega) (by omega) (by omega) ⟨a3,a4⟩ a1 a2 (λu h=>(hR u h).1) (λu h=>(hR u h).2) hy
 have e2:=Aud (M:=frm+80*(k:Int)) hl (by omega) (by omega) ⟨a3,a4⟩ a1 a2 (λu h=>(hR u h).1) (λu h=>(hR u h).2) hy
 have hle:y<=frm+80*(k:Int)+63:=by
  rcases hy.AxO (by omega)with h|⟨a,ha,h⟩
  ·have:=SR (n:=frm) (a:=x.Align) (by omega);omega
  ·have:=SR (n:=max frm (a.Off+a.Size)) (a:=x.Align) (by omega)
   grind
 have hge:=hy.ge;refine⟨y,AuK hu (by simp_all),e1,e2,hI.step hg hov hsw hge (by omega) (by rw[aAf (by omega)];exact hy.al0) λz h1 h2 ho=>?_⟩
 exact hy.free _ ((hu _).2 ⟨z,h1,h2,rfl⟩) ⟨ho.2.2.2.2.1,ho.2.2.2.2.2⟩
theorem Ard:Asg s g frm ord 0 (aAS s.length false) (aAS s.length 0):=by
 refine⟨by simp,by simp,λy hy=>?_,λy z _ hy=>?_,λj hj=>absurd hj (aAK _)⟩
 all_goals grind
theorem Anc (hg:Sr g s.length) (hw:w<s.length):g[w]? =some (rowAt g w):=by
 have hgg:g.length=s.length:=by have:=hg.1;omega
 grind [rowAt]
theorem AjZ {y:Nat} (h:y<off.length):off[y]? =some (oN off y):=by grind [oN]
theorem Auh (hs:WD s) (hso:∀ x∈s,Uc x) (hg:Sr g s.length) (hgl:∀ row∈g,row.length<=512) (hf:0<=frm/\frm<=1000) :
  Hs (UP s g frm) λq=>q=((AlV s g frm (QI (bfS s) (idI s.length))).2,0):=by
 have hsl:=hs.1;have hgg:g.length=s.length:=by have:=hg.1;omega
 obtain⟨b,hb1,hb2⟩:=Aqk (g:=g) (n:=(s.length:Int)) (by omega) λr hr=>by grind
 refine(AmR hso (by omega)).bind λe he=>?_
 subst he;rw[hb1,hb2.2 hg,aA,AaJ,aA,decide_eq_true (by omega)]
 refine .chk (by omega) (.chk (by omega) ?_)
 rw[Avd (by omega),aA]
 obtain⟨ord,ho⟩:∃ ord,ord=QI (bfS s) (idI s.length):=⟨_,rfl⟩;have ol:ord.length=s.length:=by rw[ho,Abm,AhL]
 have ov:∀ v∈ord,0<=v/\v<s.length:=λv hv=>by rw[ho]at hv;exact Ale _ hv
 rw[<- ho];refine Hs.loop (λq=>∃ k:Nat,q.2.2=(k:Int)/\k<=ord.length/\Asg s g frm ord k q.1 q.2.1/\(q.1,q.2.1)=AlV s g frm (ord.take k)) (λq=>ord.length-q.2.2.toNat) ⟨0,rfl,aAC _,Ard,rfl⟩ ?_
 rintro⟨done,off,_⟩ ⟨k,rfl,hk,hI,he⟩;replace hI:Asg s g frm ord k done off:=hI;obtain⟨dl,fl,pl,ap,cov⟩:=id hI;dsimp only;refine .dec (λhlt=>?_) λhge=>.lft (.pure ?_)
 rotate_left
 ·have hkk:k=ord.length:=by omega
  subst hkk;rw[aAI]at he;show(off,(0:Int))=_;rw[<- he]
 have hlt:k<ord.length:=by omega
 have hov:ord[k]? =some ord[k]:=aAA hlt;have hvr:=ov _ (aAD hlt);generalize ord[k]=v at hov hvr;refine .chk (by omega) ?_
 rw[aAB,hov,aA];obtain⟨w,rfl⟩:∃ w:Nat,v=(w:Int):=⟨v.toNat,by omega⟩
 have hw:w<s.length:=by omega
 have hgr:ixO g (w:Int)=some (rowAt g w):=by grind [Pq,Anc]
 have hrl:(rowAt g w).length<=512:=hgl _ (aAF (Anc hg hw));refine Hs.loop (λq=>∃ j:Nat,q.2=(j:Int)/\j<=s.length/\q.1.length<=j/\∀ u,u∈q.1↔∃ y:Nat,y<j/\done[y]? =some true/\(y:Int)∈rowAt g w/\u=ivN s off y) (λq=>s.length-q.2.toNat) ⟨0,rfl,aAC _,by simp,λu=>⟨λh=>(by cases h),λ⟨y,h,_⟩=>absurd h (aAK _)⟩⟩ ?_
 rintro⟨used,_⟩ ⟨j,rfl,hj,hul,hu⟩;replace hul:used.length<=j:=hul;refine .dec (λhlt'=>?_) λhge=>.lft ?_
 ·have hjl:j<s.length:=by omega
  have hdj:done[j]? =some (done[j]'(by omega)):=aAA _
  generalize(done[j]'(by omega))=d at hdj
  refine .chk (by omega) ?_
  rw[aAB,hdj,aA];have key:∀ d:Bool,(bif d then(ixO g (w:Int)).bind λx=>(UO x (j:Int)).bind λr=>QN (j:Int) off s used r else QN (j:Int) off s used false)=QN (j:Int) off s used (d&&decide ((j:Int)∈rowAt g w)):=λd=>by
   cases d
   ·rfl
   ·rw[cond_true,hgr,aA,AaW _ _ (by omega),aA,Bool.true_and]
  rw[key];have split:∀ u,(∃ y:Nat,y<j+1/\done[y]? =some true/\(y:Int)∈rowAt g w/\u=ivN s off y)↔u∈used\/(d=true/\(j:Int)∈rowAt g w/\u=ivN s off j):=λu=>by
   grind
  unfold QN;rw[OX (by omega)]
  refine .cond (λhd=>?_) λhd=>.cnt ⟨⟨j+1,rfl,hjl,by grind,λu=>?_⟩,by grind⟩
  ·simp only[Bool.and_eq_true,decide_eq_true_eq]at hd;refine .chk (by omega) ?_
   have hoj:=AjZ (off:=off) (y:=j) (by omega)
   have hsj:s[j]? =some s[j]:=aAA _;rw[aAB,hoj,aA,Pq,hsj,aA];have hiv:(OU.mk (oN off j) s[j].Size)=ivN s off j:=by grind [ivN,YU]
   rw[hiv];refine .chk (by simp;omega) (.cnt ⟨⟨j+1,rfl,hjl,by simp;omega,λu=>?_⟩,by grind⟩)
   simp_all
  simp_all
 ·have hjj:j=s.length:=by omega
  subst hjj;have hsw:s[w]? =some s[w]:=aAA _;generalize s[w]=x at hsw;simp only[Pq,hsw,aA];have hUI:AmX s g done off w used:=λu=>by
   grind
  obtain⟨y,f1,f2,f3,f4⟩:=Arz hs hg hf hI (by omega) hov hsw (by omega) hUI
  rw[f2,aA];simp only[bne_self_eq_false,cond_false];refine .chk (by omega) ?_
  rw[aAB,aAA (by omega),aA]
  refine .chk (by omega) ?_
  rw[aAA (by omega),aA]
  unfold Xw;rw[OX (by omega)]
  refine .cnt ⟨⟨k+1,rfl,hlt,f4,?_⟩,by grind⟩
  rw[ApU hov,<- he]
  grind [AqS]
theorem Auc (hs:WD s) (hso:∀ x∈s,Uc x) (hg:Sr g s.length) (hgl:∀ row∈g,row.length<=512) (hf:0<=frm/\frm<=1000) :
  Hs (WH s g frm) λq=>q=((AlV s g frm (QI (bfS s) (idI s.length))).2,0):=by
 have hsl:=hs.1;have hgg:g.length=s.length:=by have:=hg.1;omega
 obtain⟨b,hb1,hb2⟩:=AuF (g:=g) (n:=(s.length:Int)) (by omega) λr hr=>by grind
 obtain⟨e,he1,he2,_⟩:=Apl s;obtain⟨e',he3,he4⟩:=AmR hso (by omega)
 rw[he2]at he3;cases he3;subst he4;unfold WH;rw[he1,aA,hb1,hb2.2 hg,aA];simp only[bne_self_eq_false,cond_false,aAR];rw[decide_eq_false (by omega),cond_false,decide_eq_false (by omega),cond_false]
 refine .chk (by omega) (.chk (by omega) ?_)
 rw[AuS (by omega),aA]
 obtain⟨ord,ho⟩:∃ ord,ord=QI (bfS s) (idI s.length):=⟨_,rfl⟩;have ol:ord.length=s.length:=by rw[ho,Abm,AhL]
 have ov:∀ v∈ord,0<=v/\v<s.length:=λv hv=>by rw[ho]at hv;exact Ale _ hv
 rw[<- ho];simp only[aAB];refine Hs.loop (λq=>∃ k:Nat,q.2.2=(k:Int)/\k<=ord.length/\Asg s g frm ord k q.1 q.2.1/\(q.1,q.2.1)=AlV s g frm (ord.take k)) (λq=>ord.length-q.2.2.toNat) ⟨0,rfl,aAC _,Ard,rfl⟩ ?_
 rintro⟨done,off,_⟩ ⟨k,rfl,hk,hI,he⟩;replace hI:Asg s g frm ord k done off:=hI;replace he:(done,off)=AlV s g frm (ord.take k):=he;obtain⟨dl,fl,pl,ap,cov⟩:=id hI;unfold Zg;dsimp only;refine .dec (λhlt=>?_) λhge=>.lft (.pure ?_)
 rotate_left
 ·have hkk:k=ord.length:=by omega
  subst hkk;rw[aAI]at he;show(off,(0:Int))=_;rw[<- he]
 have hlt:k<ord.length:=by omega
 have hov:ord[k]? =some ord[k]:=aAA hlt;have hvr:=ov _ (aAD hlt);generalize ord[k]=v at hov hvr;refine .chk (by omega) ?_
 rw[aAB,hov,aA];obtain⟨w,rfl⟩:∃ w:Nat,v=(w:Int):=⟨v.toNat,by omega⟩
 have hw:w<s.length:=by omega
 have hgr:ixO g (w:Int)=some (rowAt g w):=by grind [Pq,Anc]
 have hrow:=hg.2.1 w _ (Anc hg hw);rw[hgr,aA];generalize hrw:rowAt g w=row at hrow;have hrlen:row.length<=7:=by
  have:=AmZ (l:=row) (a:=0) (n:=(s.length:Int)) hrow.1.1 λx hx=>⟨(hrow.1.2 x hx).1,hrow.2.1 x hx⟩
  omega
 refine Hs.loop (λq=>∃ j:Nat,q.2=(j:Int)/\j<=row.length/\q.1.length<=j/\∀ u,u∈q.1↔∃ y:Nat,done[y]? =some true/\(y:Int)∈row.take j/\u=ivN s off y) (λq=>row.length-q.2.toNat) ⟨0,rfl,aAC _,by simp,λu=>⟨λh=>(by cases h),λ⟨y,_,h,_⟩=>(by simp at h)⟩⟩ ?_
 rintro⟨used,_⟩ ⟨j,rfl,hj,hul,hu⟩;replace hul:used.length<=j:=hul;replace hu:∀ u,u∈used↔∃ y:Nat,done[y]? =some true/\(y:Int)∈row.take j/\u=ivN s off y:=hu;unfold Zh;dsimp only;refine .dec (λhlt'=>?_) λhge=>.lft ?_
 ·have hjl:j<row.length:=by omega
  have hgz:row[j]? =some row[j]:=aAA _;have htk:row.take (j+1)=row.take j++[row[j]]:=by simp_all
  have hzm:=aAD hjl;generalize row[j]=z at hgz htk hzm;have z0:=(hrow.1.2 z hzm).1;have z1:=hrow.2.1 z hzm;obtain⟨zn,rfl⟩:∃ k:Nat,z=(k:Int):=⟨z.toNat,by omega⟩
  have hdj:done[zn]? =some (done[zn]'(by omega)):=aAA _
  generalize(done[zn]'(by omega))=d at hdj
  rw[Pq,hgz,aA];refine .chk (by omega) ?_
  rw[aAB,hdj,aA];have split:∀ u,(∃ y:Nat,done[y]? =some true/\(y:Int)∈row.take (j+1)/\u=ivN s off y)↔u∈used\/(d=true/\u=ivN s off zn):=λu=>by
   rw[hu u,htk];constructor
   ·grind
   grind
  rw[OX (by omega)]
  refine .cond (λhd=>?_) λhd=>.cnt ⟨⟨j+1,rfl,hjl,by grind,λu=>?_⟩,by grind⟩
  ·have hoj:=AjZ (off:=off) (y:=zn) (by omega)
   have hsj:s[zn]? =some (s[zn]'(by omega)):=aAA _
   generalize(s[zn]'(by omega))=xz at hsj
   unfold Aan;simp only[Pq,hoj,hsj,aA];have hiv:(OU.mk (oN off zn) xz.Size)=ivN s off zn:=by unfold ivN;rw[(YU hsj).1]
   rw[hiv];refine .chk (by simp;omega) (.cnt ⟨⟨j+1,rfl,hjl,by simp;omega,λu=>?_⟩,by simp only;omega⟩)
   show u∈used++[ivN s off zn]↔_;rw[split u,aAQ,aAU];exact⟨λh=>h.imp id λh=>⟨hd,h⟩,λh=>h.imp id λh=>h.2⟩
  simp_all
 ·have hjj:j=row.length:=by omega
  subst hjj;have hsw:s[w]? =some s[w]:=aAA _;generalize s[w]=x at hsw;simp only[Pq,hsw,aA];rw[aAI]at hu;have hUI:AmX s g done off w used:=λu=>by simp_all
  obtain⟨y,f1,f2,f3,f4⟩:=Arz hs hg hf hI (by omega) hov hsw (by omega) hUI
  rw[f3,aA];simp only[bne_self_eq_false,cond_false];refine .chk (by omega) ?_
  rw[aAB,aAA (by omega),aA]
  refine .chk (by omega) ?_
  rw[aAA (by omega),aA,OX (by omega)]
  refine .cnt ⟨⟨k+1,rfl,hlt,f4,?_⟩,by simp only;omega⟩
  rw[ApU hov,<- he]
  grind [AqS]
theorem AsA (hs:WD s) (hso:∀ x∈s,Uc x) (hg:Sr g s.length) (hgl:∀ row∈g,row.length<=512) (hf:0<=frm/\frm<=1000):∃ off,WH s g frm=some (off,0)/\UP s g frm=some (off,0):=by
 obtain⟨a,h1,rfl⟩:=Auc hs hso hg hgl hf;obtain⟨b,k1,rfl⟩:=Auh hs hso hg hgl hf;simp_all
end
open Go Go.Dw Go.Proofs
theorem ArS (hi:ixO p.Funcs i=some f) (hl:f.Code.length<=10000) (h:Agk p f):Za p i=some (16*Te p f f.Code.length):=by
 have:Hs (Za p i) λr=>r=16*Te p f f.Code.length:=by
  unfold Za;rw[hi,aA];refine Hs.loop (λq=>∃ k:Nat,q=((k:Int),Te p f k)/\k<=f.Code.length) (λq=>f.Code.length-q.1.toNat) ⟨0,rfl,aAC _⟩ ?_
  rintro _ ⟨k,rfl,hk⟩;have hr:=Adm h hk;refine .dec (λhlt=>?_) λhge=>.lft (.pure ?_)
  ·have hlt:k<f.Code.length:=by omega
   have e:ixO f.Code (k:Int)=some f.Code[k]:=by simp_all
   obtain⟨h1,h2⟩:=h _ (aAD hlt);simp only[e,aA];rw[OX (by omega)]
   refine .beq (λh18=>?_) λh18=>.beq (λh22=>?_) λh22=>?_
   ·rw[wrap64 (by omega) (by omega)]
    exact .cnt ⟨⟨k+1,by grind [AaG,Uf],hlt⟩,by grind⟩
   ·obtain⟨a0,g,hg,hp⟩:=h2 h22;rw[QU _ a0,hg,aA];exact .cnt ⟨⟨k+1,by grind [AaG,Uf],hlt⟩,by grind⟩
   ·exact .cnt ⟨⟨k+1,by grind [AaG,Uf],hlt⟩,by grind⟩
  ·have:k=f.Code.length:=by omega
   subst this;rw[wrap64 (by omega) (by omega)]
   exact rfl
 obtain⟨r,h,rfl⟩:=this;exact h
def Afv (s:List Pa) (off:List Int):Nat->Int
 | 0=>0
 | k+1=>max (Afv s off k) (oN off k+szN s k)
section
variable {s:List Pa} {off:List Int} {B:Int}
theorem AnZ (hB:0<=B) (h:∀ y:Nat,y<s.length->0<=oN off y+szN s y/\oN off y+szN s y<=B):∀ {k:Nat},k<=s.length->0<=Afv s off k/\Afv s off k<=B
 | 0,_=>⟨Int.le_refl _,hB⟩
 | k+1,hk=>by
  have ih:=AnZ hB h (k:=k) (by omega)
  grind [Afv]
theorem Axu (hs:s.length<=1000) (hl:off.length=s.length) (hB:0<=B/\B<=100000) (h:∀ y:Nat,y<s.length->0<=oN off y+szN s y/\oN off y+szN s y<=B):Aeq s off=some (Afv s off s.length):=by
 have key:Hs (Aeq s off) λe=>e=Afv s off s.length:=by
  refine Hs.loop (λq=>∃ k:Nat,q.2=(k:Int)/\k<=s.length/\q.1=Afv s off k) (λq=>s.length-q.2.toNat) ⟨0,rfl,aAC _,rfl⟩ ?_
  rintro⟨_,_⟩ ⟨k,rfl,hk,rfl⟩;refine .dec (λhlt=>?_) λhge=>.lft (.pure ?_)
  ·have hlt:k<s.length:=by omega
   have hsk:s[k]? =some s[k]:=aAA _;have:=h k hlt;rw[Pq,AjZ (by omega),aA,Pq,hsk,aA,<- (YU hsk).1,wrap64 (by omega) (by omega),OX (by omega),AbB]
   exact .cnt ⟨⟨k+1,rfl,hlt,rfl⟩,by grind⟩
  ·have hkk:k=s.length:=by omega
   subst hkk;rfl
 obtain⟨r,h,rfl⟩:=key;exact h
theorem AxA (hs:s.length<=1000) (hl:off.length=s.length) (hB:0<=B/\B<=100000) (h:∀ y:Nat,y<s.length->0<=oN off y+szN s y/\oN off y+szN s y<=B):AgN s off=some (Afv s off s.length):=by
 have key:Hs (AgN s off) λe=>e=Afv s off s.length:=by
  refine Hs.loop (λq=>∃ k:Nat,q.2=(k:Int)/\k<=s.length/\q.1=Afv s off k) (λq=>s.length-q.2.toNat) ⟨0,rfl,aAC _,rfl⟩ ?_
  rintro⟨_,_⟩ ⟨k,rfl,hk,rfl⟩;refine .dec (λhlt=>.dec (λ_=>?_) λh=>by omega) λhge=>.lft (.pure ?_)
  ·have hlt:k<s.length:=by omega
   have hsk:s[k]? =some s[k]:=aAA _;have:=h k hlt;unfold AeY;rw[Pq,AjZ (by omega),aA,Pq,hsk,aA,<- (YU hsk).1,wrap64 (by omega) (by omega),OX (by omega),AbB]
   exact .cnt ⟨⟨k+1,rfl,hlt,rfl⟩,by grind⟩
  ·have hkk:k=s.length:=by omega
   subst hkk;rfl
 obtain⟨r,h,rfl⟩:=key;exact h
def Amr (p:Pk) (f:Mk) (al:Int) (off:List Int):PG:=⟨16*Te p f f.Code.length,upN (max (16*Te p f f.Code.length) (Afv f.Slots off f.Slots.length)) al,off⟩
variable {p:Pk} {i:Int} {f:Mk} {al:Int}
theorem ArX (hl:off.length=f.Slots.length) (hB:B<=100000) (h:∀ y:Nat,y<f.Slots.length->0<=oN off y/\0<=szN f.Slots y/\oN off y+szN f.Slots y<=B) {k:Nat} (hk:k<f.Slots.length):Rn ⟨oN off k,f.Slots[k].Size⟩:=by
 have hsk:f.Slots[k]? =some f.Slots[k]:=aAA _;have:=h k hk;rw[(YU hsk).1]at this;refine⟨?_,?_,?_,?_,?_⟩<;>simp only<;>omega
theorem Axv (hi:ixO p.Funcs i=some f) (hc:f.Code.length<=10000) (hA:Agk p f) (hs:f.Slots.length<=1000) (hal:TE al) (hl:off.length=f.Slots.length) (hB:0<=B/\B<=100000) (h:∀ y:Nat,y<f.Slots.length->0<=oN off y/\0<=szN f.Slots y/\oN off y+szN f.Slots y<=B) :
  ZL p i al off=some (Amr p f al off,0):=by
 have har:=hal.rng;have hk:=Adm hA (aAJ f.Code.length);have h':∀ y:Nat,y<f.Slots.length->0<=oN off y+szN f.Slots y/\oN off y+szN f.Slots y<=B:=λy hy=>by grind
 have he:=AnZ hB.1 h' (aAJ f.Slots.length);have key:Hs (ZL p i al off) λq=>q=(Amr p f al off,0):=by
  unfold ZL;rw[hi,aA];refine .bne (λhne=>(hne (by omega)).elim) λ_=>?_
  refine Hs.loop (λj=>∃ k:Nat,j=(k:Int)/\k<=f.Slots.length) (λj=>f.Slots.length-j.toNat) ⟨0,rfl,aAC _⟩ ?_
  rintro _ ⟨k,rfl,hkl⟩;refine .dec (λhlt=>?_) λhge=>.lft ?_
  ·have hlt:k<f.Slots.length:=by omega
   have hR:=ArX hl hB.2 h hlt;rw[Pq,aAA hlt,aA,Pq,AjZ (by omega),aA]
   unfold AcS;rw[ApZ,aA,decide_eq_true hR,cond_true,aA];obtain⟨r1,r2,r3,r4,r5⟩:=hR;rw[wrap64 (by omega) (by omega),decide_eq_true r5,OX (by omega)]
   exact .cnt ⟨⟨k+1,rfl,hlt⟩,by grind⟩
  ·rw[ArS hi hc hA,aA];unfold AlY Zu;rw[PN (by omega),aA,Axu hs hl hB h',aA]
   generalize hE:Afv f.Slots off f.Slots.length=E at he;have em:PJ (PJ (16*Te p f f.Code.length) 0) E=max (16*Te p f f.Code.length) E:=by grind [AbB]
   rw[em];obtain⟨u1,u2,_⟩:=SR (n:=max (16*Te p f f.Code.length) E) (a:=al) (by omega)
   unfold AhE;rw[AxP (by omega) (by omega) hal,aA]
   rw[Axg (by omega) (by omega),aA]
   refine .pure ?_;unfold Amr;rw[hE];rfl
 obtain⟨r,h,rfl⟩:=key;exact h
theorem AxB (hi:ixO p.Funcs i=some f) (hc:f.Code.length<=10000) (hA:Agk p f) (hs:f.Slots.length<=1000) (hal:TE al) (hl:off.length=f.Slots.length) (hB:0<=B/\B<=100000) (h:∀ y:Nat,y<f.Slots.length->0<=oN off y/\0<=szN f.Slots y/\oN off y+szN f.Slots y<=B) :
  YS p i al off=some (Amr p f al off,0):=by
 have har:=hal.rng;have hk:=Adm hA (aAJ f.Code.length);have h':∀ y:Nat,y<f.Slots.length->0<=oN off y+szN f.Slots y/\oN off y+szN f.Slots y<=B:=λy hy=>by grind
 have he:=AnZ hB.1 h' (aAJ f.Slots.length);have key:Hs (YS p i al off) λq=>q=(Amr p f al off,0):=by
  unfold YS;rw[hi,aA];refine .bne (λhne=>(hne (by omega)).elim) λ_=>?_
  refine Hs.loop (λj=>∃ k:Nat,j=(k:Int)/\k<=f.Slots.length) (λj=>f.Slots.length-j.toNat) ⟨0,rfl,aAC _⟩ ?_
  rintro _ ⟨k,rfl,hkl⟩;refine .dec (λhlt=>?_) λhge=>.lft ?_
  ·have hlt:k<f.Slots.length:=by omega
   have hR:=ArX hl hB.2 h hlt;rw[Pq,AjZ (by omega),aA,Pq,aAA hlt,aA,AdO,aA,decide_eq_true hR,OX (by omega)]
   exact .cnt ⟨⟨k+1,rfl,hlt⟩,by grind⟩
  ·rw[ArU hi hc hA,aA,AxA hs hl hB h',aA,AbB];generalize hE:Afv f.Slots off f.Slots.length=E at he;obtain⟨u1,u2,_⟩:=SR (n:=max (16*Te p f f.Code.length) E) (a:=al) (by omega)
   rw[Asb (by omega) (by omega) hal,aA]
   rw[decide_eq_false (by omega),cond_false]
   refine .chk (by simp;omega) (.pure ?_)
   unfold Amr;rw[hE,List.nil_append];rfl
 obtain⟨r,h,rfl⟩:=key;exact h
end
open Go Go.Dw Go.Proofs
def Amy (s:List Pa):Int:=s.foldl (λa x=>PJ a x.Align) 16
theorem AoD (s:List Pa):∃ a,YA s=some a/\Vx s=some a:=by
 obtain⟨e,h1,h2,h3⟩:=Apl s;unfold YA Vx;rw[h1,h2,aA,aA]
 by_cases he:e=0
 ·subst he;have hl:=h3 rfl;simp only[beq_self_eq_true,cond_true,bne_self_eq_false,cond_false];have p1:Hs (Pc (λq=>Aar s q.1 q.2) (0,16)) λa=>a=Amy s:=by
   refine Hs.loop (λq=>∃ k:Nat,q.1=(k:Int)/\k<=s.length/\q.2=Amy (s.take k)) (λq=>s.length-q.1.toNat) ⟨0,rfl,aAC _,rfl⟩ ?_
   rintro⟨_,_⟩ ⟨k,rfl,hk,rfl⟩;refine .dec (λhlt=>?_) λhge=>.lft (.pure ?_)
   ·have hlt:k<s.length:=by omega
    rw[Pq,aAA hlt,aA,OX (by omega)]
    refine .cnt ⟨⟨k+1,rfl,hlt,?_⟩,by grind⟩
    grind [Amy,aAL]
   ·have hkk:k=s.length:=by omega
    subst hkk;show Amy _=_;simp_all
  have p2:Hs (Pc (λq=>YI s q.1 q.2) (16,0)) λa=>a=Amy s:=by
   refine Hs.loop (λq=>∃ k:Nat,q.2=(k:Int)/\k<=s.length/\q.1=Amy (s.take k)) (λq=>s.length-q.2.toNat) ⟨0,rfl,aAC _,rfl⟩ ?_
   rintro⟨_,_⟩ ⟨k,rfl,hk,rfl⟩;refine .dec (λhlt=>?_) λhge=>.lft (.pure ?_)
   ·have hlt:k<s.length:=by omega
    rw[Pq,aAA hlt,aA,OX (by omega)]
    refine .cnt ⟨⟨k+1,rfl,hlt,?_⟩,by grind⟩
    grind [Amy,aAL]
   ·have hkk:k=s.length:=by omega
    subst hkk;show Amy _=_;simp_all
  obtain⟨a,q1,rfl⟩:=p1;obtain⟨b,q2,rfl⟩:=p2;simp_all
 grind
theorem AsP (p:Pk) (hp:p.Funcs.length<=1000000):∃ a,AgP p=some a/\Vy p=some a:=by
 have step:∀ k≤p.Funcs.length,∃ a:Int,∀ b:Int,True:=λ_ _=>⟨0,λ_=>trivial⟩
 let al:Mk->Int:=λf=>aAs (AoD f.Slots)
 have hal:∀ f:Mk,YA f.Slots=some (al f)/\Vx f.Slots=some (al f):=λf=>aAp (AoD f.Slots)
 let A:List Mk->Int:=λl=>l.foldl (λa f=>PJ a (al f)) 16
 have hA:∀ k (hk:k<p.Funcs.length),A (p.Funcs.take (k+1))=PJ (A (p.Funcs.take k)) (al p.Funcs[k]):=λk hk=>by
  grind [aAL]
 have p1:Hs (AgP p) λa=>a=A p.Funcs:=by
  refine Hs.loop (λq=>∃ k:Nat,q.2=(k:Int)/\k<=p.Funcs.length/\q.1=A (p.Funcs.take k)) (λq=>p.Funcs.length-q.2.toNat) ⟨0,rfl,aAC _,rfl⟩ ?_
  rintro⟨_,_⟩ ⟨k,rfl,hk,rfl⟩;refine .dec (λhlt=>?_) λhge=>.lft (.pure ?_)
  ·have hlt:k<p.Funcs.length:=by omega
   rw[Pq,aAA hlt,aA,(hal _).1,aA,OX (by omega)]
   exact .cnt ⟨⟨k+1,rfl,hlt,(hA k hlt).symm⟩,by grind⟩
  ·have hkk:k=p.Funcs.length:=by omega
   subst hkk;show A _=_;simp_all
 have p2:Hs (Vy p) λa=>a=A p.Funcs:=by
  refine Hs.loop (λq=>∃ k:Nat,q.2=(k:Int)/\k<=p.Funcs.length/\q.1=A (p.Funcs.take k)) (λq=>p.Funcs.length-q.2.toNat) ⟨0,rfl,aAC _,rfl⟩ ?_
  rintro⟨_,_⟩ ⟨k,rfl,hk,rfl⟩;refine .dec (λhlt=>?_) λhge=>.lft (.pure ?_)
  ·have hlt:k<p.Funcs.length:=by omega
   rw[Pq,aAA hlt,aA,(hal _).2,aA,OX (by omega)]
   exact .cnt ⟨⟨k+1,rfl,hlt,(hA k hlt).symm⟩,by grind⟩
  ·have hkk:k=p.Funcs.length:=by omega
   subst hkk;show A _=_;simp_all
 obtain⟨a,q1,rfl⟩:=p1;obtain⟨b,q2,rfl⟩:=p2;simp_all
theorem Axt (p:Pk) (f:Mk) (hp:p.Funcs.length<=1000000) (h0:0<=i) (h1:i<p.Funcs.length):Zv p i f=some ⟨p.Funcs.set i.toNat f⟩:=by
 unfold Zv Arn Zu
 grind [PN]
theorem Awd (p:Pk) (f:Mk) (hp:p.Funcs.length<=1000000) (h0:0<=i) (h1:i<p.Funcs.length):Afb p i f=some ⟨p.Funcs.set i.toNat f⟩:=by
 grind [Afb,Adc,PN]
theorem LE.antisymm {a b:List (List Int)} (ha:QM f a) (hb:QM f b) (h1:LE a b) (h2:LE b a):a=b:=by
 apply aAg;intro k
 by_cases hk:k<f.Code.length
 ·obtain⟨p1,p2⟩:=ha.row hk;obtain⟨q1,q2⟩:=hb.row hk;rw[p1,q1,p2.1.ext q2.1 λv=>⟨h1 k _ _ p1 q1 v,h2 k _ _ q1 p1 v⟩]
 ·rw[aAq (by have:=ha.1;omega),aAq (by have:=hb.1;omega)]
theorem LE.refl (a:List (List Int)):LE a a:=λk s t hs ht v hv=>by simp_all
theorem Yn.unique {a b:List (List Int)} (ha:Yn f a) (hb:Yn f b):a=b :=
 ha.ok|>λh=>LE.antisymm h hb.ok (ha.least b hb.ok (by rw[hb.fix];exact LE.refl b)) (hb.least a ha.ok (by rw[ha.fix];exact LE.refl a))
theorem AtY (x:OP) (v:Int):Vg x v=some (Rm x v):=by
 grind [Vg,Rm]
theorem AsO (x:OP) (v:Int):Xl x v=some (Ri x v):=rfl
def Atu (n:Nat) (m:List (List Bool)) (a:Nat) (v:Int):Prop:=0<=v/\v<n/\AcM m a v.toNat=true
theorem ArQ {n:Nat} (hl:m.length=n) (hr:∀ row∈m,row.length=n) (hn:n<=500):Hs (Tj m) λout=>PX n out (Atu n m):=by
 refine .chk (by omega) ?_
 refine Hs.loop (λs=>∃ k:Nat,s.2=(k:Int)/\k<=n/\PX n s.1 λa v=>a<k/\Atu n m a v) (λs=>n-s.2.toNat) ⟨0,rfl,aAC _,?_⟩ ?_
 ·simp_all[PX.nil]
 rintro⟨out,_⟩ ⟨k,rfl,hk,hs⟩;refine .dec (λhlt=>?_) λhge=>.lft (.pure (hs.congr λa v ha=>⟨λh=>⟨by omega,h⟩,λh=>h.2⟩))
 have hlt:k<n:=by omega
 have hg:m[k]? =some (m[k]'(by omega)):=aAA _
 have hrl:=hr _ (aAD (show k<m.length by omega))
 generalize m[k]'(by omega)=row at hg hrl
 simp only[Pq,hg,aA];refine Hs.loop (λs=>∃ i:Nat,s.2=(i:Int)/\i<=n/\PX n s.1 λa v=>(a<k\/(a=k/\v<i))/\Atu n m a v) (λs=>n-s.2.toNat) ⟨0,rfl,aAC _,hs.congr λa v _=>?_⟩ ?_
 ·constructor
  ·rintro⟨h|⟨_,h⟩,hc⟩
   ·simp_all
   ·have:=hc.1;omega
  simp_all
 rintro⟨out2,_⟩ ⟨i,rfl,hi,hs2⟩;replace hs2:PX n out2 _:=hs2;refine .dec (λhlt2=>?_) λhge2=>?_
 ·have hlt2:i<n:=by omega
  have hb:row[i]? =some (row[i]'(by omega)):=aAA _
  generalize row[i]'(by omega)=bit at hb
  have hcell:AcM m k i=bit:=by grind [AcM]
  have w:=OX (show i<9223372036854775807 by omega)
  simp only[Pq,hb,aA];refine .cond (λht=>?_) λhf=>?_
  ·have hs0:out2[k]? =some (out2[k]'(by have:=hs2.1;omega)):=aAA _
   generalize out2[k]'(by grind)=s at hs0
   have q:=hs2.2 k s hs0;have hsl:=q.1.1.length_le;have hol:=hs2.1;refine .chk (by omega) ?_
   rw[aAB,hs0,aA];refine .chk (by grind) (.chk (by omega) ?_)
   rw[w];refine .cnt ⟨⟨i+1,rfl,hlt2,?_⟩,by grind⟩
   have hlt':∀ x∈s,x<(i:Int):=λx hx=>by
    simp_all
   refine hs2.set hlt ⟨q.1.1.snoc (by omega) hlt',λx hx=>?_⟩ (λv=>?_) λa v ha=>?_
   ·grind
   ·rw[aAQ,aAU,q.2 v];constructor
    ·rintro(⟨h|⟨_,h⟩,hc⟩|rfl)
     ·omega
     ·grind
     ·exact⟨.inr ⟨rfl,by omega⟩,by omega,by omega,by simp_all⟩
    grind
   simp_all
  ·rw[w];refine .cnt ⟨⟨i+1,rfl,hlt2,hs2.congr λa v _=>?_⟩,by grind⟩
   constructor
   ·rintro⟨h|⟨h,h2⟩,hc⟩
    ·simp_all
    ·refine⟨.inr ⟨h,?_⟩,hc⟩;have h3:v≠i:=λe=>by
      have:=hc.2.2;simp_all
     omega
   grind
 ·rw[OX (by omega)]
  refine .lft (.cnt ⟨⟨k+1,rfl,hlt,hs2.congr λa v _=>?_⟩,by grind⟩)
  constructor
  ·rintro⟨h,hc⟩;refine⟨?_,hc⟩
   by_cases e:a=k
   ·exact .inr ⟨e,by have:=hc.2.1;omega⟩
   omega
  grind
theorem AoO (hf:Pu f) (hd:RW f) (hl:QM f l) {a v:Int} (h:Ed mv f l a v):(0<=a/\a<f.Slots.length)/\(0<=v/\v<f.Slots.length):=by
 obtain⟨j,hj,rfl,h2,_,h4,_⟩:=h;have hx:=hf.at (j:=(j:Int)) (by omega) (by omega)
 have hrow:=hl.at (j:=(j:Int)) (by omega) (by omega)
 exact⟨hd _ hx.2 h2,(hrow.2.1.2 v h4).1,hrow.2.2 v h4⟩
theorem ArN {n:Nat} {P:Int->Int->Prop} (hl:m.length=n) (h:∀ (j:Nat) row,m[j]? =some row->row=aAS n false) (hp:∀ a v,¬ P a v):TF n m P:=by
 refine⟨hl,λrow hr=>?_,λa v ha hv=>?_⟩
 all_goals grind [aAG,AcM]
theorem AuC {n:Nat} {P:Int->Int->Prop} (hm:TF n m P) {d y:Nat} (hd:d<n) (hy:y<n) (hne:d≠y) (t:Bool) {i:Nat} (hi:i<1000000) :
  ∃ m',Qo m ((d:Int),t) (y:Int) (i:Int) true=some (.inl (m',((i+1:Nat):Int)))/\TF n m' λa b=>P a b\/(a=d/\b=y):=by
 have e1:m[d]? =some (m[d]'(by have:=hm.1;omega)):=aAA _
 have e2:m[y]? =some (m[y]'(by have:=hm.1;omega)):=aAA _
 generalize m[d]'(by grind)=r1 at e1
 generalize m[y]'(by grind)=r2 at e2
 have l1:=hm.2.1 _ (aAF e1);have l2:=hm.2.1 _ (aAF e2);have hl:=hm.1;have g1:r1[y]? =some (r1[y]'(by omega)):=aAA _
 have g2:r2[d]? =some (r2[d]'(by omega)):=aAA _
 have c1:0<=(d:Int)/\(d:Int)<m.length:=by omega
 have c2:0<=(y:Int)/\(y:Int)<m.length:=by omega
 have c3:0<=(y:Int)/\(y:Int)<r1.length:=by omega
 have c4:0<=(d:Int)/\(d:Int)<r2.length:=by omega
 have w:=OX (show i<9223372036854775807 by omega)
 exact⟨_,by simp_all[Qo,PN],hm.set hd hy hne e1 e2⟩
theorem AuB (hf:Pu f) (hd:RW f) {l:Pg} (hl:AhA l.Out):Hs (Xj f l) (SV Rm f l.Out):=by
 have hlen:=hf.len';have hsl:=hf.slots;refine Hs.bind (P:=SV Rm f l.Out) ?_ λr hr=>.pure hr
 refine(Arl hf hl).bind λe he=>.bne (λh=>.pure (.inr ⟨he.1.resolve_left h,λha=>h (he.2.2 ha),rfl⟩)) λh=>?_
 have hacc:Acc f l.Out:=he.2.1 h;refine .chk (by omega) ?_
 refine Hs.loop (λs=>∃ k:Nat,s.2=(k:Int)/\k<=f.Slots.length/\s.1.length=f.Slots.length/\∀ (j:Nat) row,j<k->s.1[j]? =some row->row=aAS f.Slots.length false) (λs=>f.Slots.length-s.2.toNat) ⟨0,rfl,aAC _,by simp,λj row h=>absurd h (aAK _)⟩ ?_
 rintro⟨m,_⟩ ⟨k,rfl,hk,hml,hrows⟩;unfold SZ;simp only[aAr,aAB]at hml hrows ⊢;refine .dec (λhlt=>?_) λhge=>.lft ?_
 ·have hlt:k<f.Slots.length:=by omega
  have hg:m[k]? =some (m[k]'(by omega)):=aAA _
  refine .chk (by omega) (.chk (by omega) ?_)
  rw[hg,aA,OX (by omega)]
  refine .cnt ⟨⟨k+1,rfl,hlt,by simp[hml],λj row hj hr=>?_⟩,by grind⟩
  grind
 have hkk:k=f.Slots.length:=by omega
 have hm0:TF f.Slots.length m (Wp Rm f l.Out 0):=ArN hml (λj row hr=>hrows j row (by grind) hr) λa v h=>by rcases h with⟨j,hj,_⟩;omega
 show Hs (Ta f l m) (SV Rm f l.Out);clear hrows hml hge hkk hk k;refine Hs.loop (λs=>∃ k:Nat,s.2=(k:Int)/\k<=f.Code.length/\TF f.Slots.length s.1 (Wp Rm f l.Out k)) (λs=>f.Code.length-s.2.toNat) ⟨0,rfl,aAC _,hm0⟩ ?_
 rintro⟨m,_⟩ ⟨k,rfl,hk,hm⟩;refine .dec (λhlt=>?_) λhge=>.lft ?_
 ·have hlt:k<f.Code.length:=by omega
  have hx:=hf.at (j:=(k:Int)) (by omega) (by omega)
  rw[aAB]at hx;have hrow:=hacc.1.at (j:=(k:Int)) (by omega) (by omega)
  rw[aAB]at hrow;have hlo:=hrow.2.1.length_le;simp only[Pq,hx.1,aA,AhK];have w:=OX (show k<9223372036854775807 by omega)
  by_cases hdef:(OR f k).Op=16\/(OR f k).Op=17
  ·rw[if_pos hdef];have hA:=hd _ hx.2 hdef;have inner:¬ ((OR f k).Op=17/\(OR f k).A=(OR f k).B)->∀ p q,Hs (Rb l (k:Int) ((OR f k).A,true) (OR f k) m p q) (Rnd (λs=>∃ k:Nat,s.2=(k:Int)/\k<=f.Code.length/\TF f.Slots.length s.1 (Wp Rm f l.Out k)) (λs=>f.Code.length-s.2.toNat) (m,(k:Int)) (SV Rm f l.Out)):=by
    intro hnm p q;unfold Rb;rw[Pq,hrow.1,aA];refine Hs.loop (λs=>∃ i:Nat,s.2=(i:Int)/\i<=(Pr l.Out k).length/\TF f.Slots.length s.1 (AbW Rm f l.Out k i)) (λs=>(Pr l.Out k).length-s.2.toNat) ⟨0,rfl,aAC _,hm.congr λa v=>Amm⟩ ?_
    rintro⟨m2,_⟩ ⟨i,rfl,hi,hm2⟩;refine .dec (λhlt2=>?_) λhge2=>?_
    ·have hlt2:i<(Pr l.Out k).length:=by omega
     have hgx:(Pr l.Out k)[i]? =some (Pr l.Out k)[i]:=aAA _;have hxm:=aAD hlt2;generalize(Pr l.Out k)[i]=x at hgx hxm;have hx0:=hrow.2.1.2 x hxm;have hxn:=hrow.2.2 x hxm;simp only[Pq,hgx,aA,AtY];have w2:=OX (show i<9223372036854775807 by omega)
     have skip:x=(OR f k).A\/Rm (OR f k) x=true->Hs (Qo m2 ((OR f k).A,true) x (i:Int) false) (Rnd (λs=>∃ i:Nat,s.2=(i:Int)/\i<=(Pr l.Out k).length/\TF f.Slots.length s.1 (AbW Rm f l.Out k i)) (λs=>(Pr l.Out k).length-s.2.toNat) (m2,(i:Int)) (Rnd (λs=>∃ k:Nat,s.2=(k:Int)/\k<=f.Code.length/\TF f.Slots.length s.1 (Wp Rm f l.Out k)) (λs=>f.Code.length-s.2.toNat) (m,(k:Int)) (SV Rm f l.Out))):=by
      intro hh;unfold Qo;rw[cond_false,w2];exact .cnt ⟨⟨i+1,rfl,hlt2,hm2.congr λa v=>Aml hgx hh⟩,by grind⟩
     refine .bne (λhne=>?_) λhe=>skip (.inl he)
     cases hmf:Rm (OR f k) x
     ·rw[Bool.not_false];obtain⟨d,hde⟩:∃ d:Nat,(OR f k).A=(d:Int):=⟨_,(aAM hA.1).symm⟩;obtain⟨y,rfl⟩:∃ y:Nat,x=(y:Int):=⟨_,(aAM hx0.1).symm⟩;obtain⟨m',h1,h2⟩:=AuC hm2 (d:=d) (y:=y) (by omega) (by omega) (by omega) true (i:=i) (by omega)
      rw[hde,h1];refine .pure ⟨⟨i+1,rfl,hlt2,h2.congr λa v=>?_⟩,by grind⟩
      grind [AiT]
     simp_all
    ·have hi:i=(Pr l.Out k).length:=by omega
     subst hi;rw[w];exact .lft (.cnt ⟨⟨k+1,rfl,hlt,hm2.congr λa v=>(AnY hdef hnm).symm⟩,by grind⟩)
   refine .beq (λh17=>.beq (λhab=>?_) λhab=>inner (λhh=>hab hh.2) _ _) λh17=>inner (λhh=>h17 hh.1) _ _
   rw[w];exact .cnt ⟨⟨k+1,rfl,hlt,hm.congr λa v=>AdY (.inr ⟨h17,hab⟩)⟩,by grind⟩
  ·rw[if_neg hdef];rw[w];exact .cnt ⟨⟨k+1,rfl,hlt,hm.congr λa v=>AdY (.inl (by omega))⟩,by grind⟩
 ·have hk:k=f.Code.length:=by omega
  subst hk;refine(ArQ hm.1 hm.2.1 hsl).bind λout ho=>.pure (.inl ⟨rfl,hacc,ho.congr λa v ha=>?_⟩)
  constructor
  ·intro h;have hr:0<=v/\v<f.Slots.length:=by
    rcases h with h|h
    ·exact(AoO hf hd hacc.1 h).2
    ·exact(AoO hf hd hacc.1 h).1
   refine⟨hr.1,hr.2,(hm.2.2 a v.toNat ha (by omega)).2 ?_⟩
   rw[aAM hr.1];exact h
  ·rintro⟨h0,h1,hc⟩;have:=(hm.2.2 a v.toNat ha (by omega)).1 hc
   rw[aAM h0]at this;exact this
theorem AtS {n:Nat} {P:Int->Int->Prop} (hm:TF n m P) {d y:Nat} (hd:d<n) (hy:y<n) (hne:d≠y) (t:Bool) {i:Nat} (hi:i<1000000) :
  ∃ m',Qk m ((d:Int),t) (y:Int) (i:Int) true=some (.inl (m',((i+1:Nat):Int)))/\TF n m' λa b=>P a b\/(a=d/\b=y):=by
 have e1:m[d]? =some (m[d]'(by have:=hm.1;omega)):=aAA _
 have e2:m[y]? =some (m[y]'(by have:=hm.1;omega)):=aAA _
 generalize m[d]'(by grind)=r1 at e1
 generalize m[y]'(by grind)=r2 at e2
 have l1:=hm.2.1 _ (aAF e1);have l2:=hm.2.1 _ (aAF e2);have hl:=hm.1;have g1:r1[y]? =some (r1[y]'(by omega)):=aAA _
 have g2:r2[d]? =some (r2[d]'(by omega)):=aAA _
 have c1:0<=(d:Int)/\(d:Int)<m.length:=by omega
 have c2:0<=(y:Int)/\(y:Int)<m.length:=by omega
 have c3:0<=(y:Int)/\(y:Int)<r1.length:=by omega
 have c4:0<=(d:Int)/\(d:Int)<r2.length:=by omega
 have w:=OX (show i<9223372036854775807 by omega)
 exact⟨_,by simp_all[Qk,PN],hm.set hd hy hne e1 e2⟩
theorem AtQ (hf:Pu f) (hd:RW f) {l:Pg} (hl:AhA l.Out):Hs (VO f l) (SV Ri f l.Out):=by
 have hlen:=hf.len';have hsl:=hf.slots;refine Hs.bind (P:=SV Ri f l.Out) ?_ λr hr=>.pure hr
 refine(Arl hf hl).bind λe he=>.bne (λh=>.pure (.inr ⟨he.1.resolve_left h,λha=>h (he.2.2 ha),rfl⟩)) λh=>?_
 have hacc:Acc f l.Out:=he.2.1 h;refine .chk (by omega) ?_
 refine Hs.loop (λs=>∃ k:Nat,s.2=(k:Int)/\k<=f.Slots.length/\s.1.length=f.Slots.length/\∀ (j:Nat) row,j<k->s.1[j]? =some row->row=aAS f.Slots.length false) (λs=>f.Slots.length-s.2.toNat) ⟨0,rfl,aAC _,by simp,λj row h=>absurd h (aAK _)⟩ ?_
 rintro⟨m,_⟩ ⟨k,rfl,hk,hml,hrows⟩;unfold SK;simp only[aAr,aAB]at hml hrows ⊢;refine .dec (λhlt=>?_) λhge=>.lft ?_
 ·have hlt:k<f.Slots.length:=by omega
  have hg:m[k]? =some (m[k]'(by omega)):=aAA _
  refine .chk (by omega) (.chk (by omega) ?_)
  rw[hg,aA,OX (by omega)]
  refine .cnt ⟨⟨k+1,rfl,hlt,by simp[hml],λj row hj hr=>?_⟩,by grind⟩
  grind
 have hkk:k=f.Slots.length:=by omega
 have hm0:TF f.Slots.length m (Wp Ri f l.Out 0):=ArN hml (λj row hr=>hrows j row (by grind) hr) λa v h=>by rcases h with⟨j,hj,_⟩;omega
 show Hs (SL f l m) (SV Ri f l.Out);clear hrows hml hge hkk hk k;refine Hs.loop (λs=>∃ k:Nat,s.2=(k:Int)/\k<=f.Code.length/\TF f.Slots.length s.1 (Wp Ri f l.Out k)) (λs=>f.Code.length-s.2.toNat) ⟨0,rfl,aAC _,hm0⟩ ?_
 rintro⟨m,_⟩ ⟨k,rfl,hk,hm⟩;refine .dec (λhlt=>?_) λhge=>.lft ?_
 ·have hlt:k<f.Code.length:=by omega
  have hx:=hf.at (j:=(k:Int)) (by omega) (by omega)
  rw[aAB]at hx;have hrow:=hacc.1.at (j:=(k:Int)) (by omega) (by omega)
  rw[aAB]at hrow;have hlo:=hrow.2.1.length_le;simp only[Pq,hx.1,aA,AhK];have w:=OX (show k<9223372036854775807 by omega)
  by_cases hdef:(OR f k).Op=16\/(OR f k).Op=17
  ·rw[if_pos hdef];have hA:=hd _ hx.2 hdef;have inner:¬ ((OR f k).Op=17/\(OR f k).A=(OR f k).B)->∀ p q,Hs (QT l (k:Int) ((OR f k).A,true) (OR f k) m p q) (Rnd (λs=>∃ k:Nat,s.2=(k:Int)/\k<=f.Code.length/\TF f.Slots.length s.1 (Wp Ri f l.Out k)) (λs=>f.Code.length-s.2.toNat) (m,(k:Int)) (SV Ri f l.Out)):=by
    intro hnm p q;unfold QT;rw[Pq,hrow.1,aA];refine Hs.loop (λs=>∃ i:Nat,s.2=(i:Int)/\i<=(Pr l.Out k).length/\TF f.Slots.length s.1 (AbW Ri f l.Out k i)) (λs=>(Pr l.Out k).length-s.2.toNat) ⟨0,rfl,aAC _,hm.congr λa v=>Amm⟩ ?_
    rintro⟨m2,_⟩ ⟨i,rfl,hi,hm2⟩;refine .dec (λhlt2=>?_) λhge2=>?_
    ·have hlt2:i<(Pr l.Out k).length:=by omega
     have hgx:(Pr l.Out k)[i]? =some (Pr l.Out k)[i]:=aAA _;have hxm:=aAD hlt2;generalize(Pr l.Out k)[i]=x at hgx hxm;have hx0:=hrow.2.1.2 x hxm;have hxn:=hrow.2.2 x hxm;simp only[Pq,hgx,aA,AsO];have w2:=OX (show i<9223372036854775807 by omega)
     have skip:x=(OR f k).A\/Ri (OR f k) x=true->Hs (Qk m2 ((OR f k).A,true) x (i:Int) false) (Rnd (λs=>∃ i:Nat,s.2=(i:Int)/\i<=(Pr l.Out k).length/\TF f.Slots.length s.1 (AbW Ri f l.Out k i)) (λs=>(Pr l.Out k).length-s.2.toNat) (m2,(i:Int)) (Rnd (λs=>∃ k:Nat,s.2=(k:Int)/\k<=f.Code.length/\TF f.Slots.length s.1 (Wp Ri f l.Out k)) (λs=>f.Code.length-s.2.toNat) (m,(k:Int)) (SV Ri f l.Out))):=by
      intro hh;unfold Qk;rw[cond_false,w2];exact .cnt ⟨⟨i+1,rfl,hlt2,hm2.congr λa v=>Aml hgx hh⟩,by grind⟩
     refine .bne (λhne=>?_) λhe=>skip (.inl he)
     cases hmf:Ri (OR f k) x
     ·rw[Bool.not_false];obtain⟨d,hde⟩:∃ d:Nat,(OR f k).A=(d:Int):=⟨_,(aAM hA.1).symm⟩;obtain⟨y,rfl⟩:∃ y:Nat,x=(y:Int):=⟨_,(aAM hx0.1).symm⟩;obtain⟨m',h1,h2⟩:=AtS hm2 (d:=d) (y:=y) (by omega) (by omega) (by omega) true (i:=i) (by omega)
      rw[hde,h1];refine .pure ⟨⟨i+1,rfl,hlt2,h2.congr λa v=>?_⟩,by grind⟩
      grind [AiT]
     simp_all
    ·have hi:i=(Pr l.Out k).length:=by omega
     subst hi;rw[w];exact .lft (.cnt ⟨⟨k+1,rfl,hlt,hm2.congr λa v=>(AnY hdef hnm).symm⟩,by grind⟩)
   refine .beq (λh17=>.beq (λhab=>?_) λhab=>inner (λhh=>hab hh.2) _ _) λh17=>inner (λhh=>h17 hh.1) _ _
   rw[w];exact .cnt ⟨⟨k+1,rfl,hlt,hm.congr λa v=>AdY (.inr ⟨h17,hab⟩)⟩,by grind⟩
  ·rw[if_neg hdef];rw[w];exact .cnt ⟨⟨k+1,rfl,hlt,hm.congr λa v=>AdY (.inl (by omega))⟩,by grind⟩
 ·have hk:k=f.Code.length:=by omega
  subst hk;refine(ArQ hm.1 hm.2.1 hsl).bind λout ho=>.pure (.inl ⟨rfl,hacc,ho.congr λa v ha=>?_⟩)
  constructor
  ·intro h;have hr:0<=v/\v<f.Slots.length:=by
    rcases h with h|h
    ·exact(AoO hf hd hacc.1 h).2
    ·exact(AoO hf hd hacc.1 h).1
   refine⟨hr.1,hr.2,(hm.2.2 a v.toNat ha (by omega)).2 ?_⟩
   rw[aAM hr.1];exact h
  ·rintro⟨h0,h1,hc⟩;have:=(hm.2.2 a v.toNat ha (by omega)).1 hc
   rw[aAM h0]at this;exact this
theorem Ayj {a v:Int} (e:Ed mv f l a v):v≠a:=by
 obtain⟨j,hj,h1,h2,h3,h4,h5,_⟩:=e;exact h5
theorem PX.graph (h:PX f.Slots.length g λa v=>Ed mv f l a v\/Ed mv f l v a):Sr g f.Slots.length:=by
 obtain⟨h0,h⟩:=h;refine⟨by rw[h0],λx s hx=>⟨(h x s hx).1.1,(h x s hx).1.2,λhm=>?_⟩,λx s hx y hy=>?_⟩
 ·grind [Ayj]
 ·have hr:=(h x s hx).1;have y0:=(hr.1.2 y hy).1;have y1:=hr.2 y hy
  grind [rowAt]
structure Ayg (p:Pk) (i:Int) (f:Mk) (al:Int):Prop where
 hi:ixO p.Funcs i=some f
 arg:Agk p f
 slots:WD f.Slots
 alok:TE al
 al16:16<=al
 al64:al<=64
 len':f.Code.length<=10000
section
variable {p:Pk} {i:Int} {f:Mk} {al:Int} (h:Ayg p i f al)
 include h
end
open Go Go.Dw Go.Proofs
theorem TE.max {a b:Int} (ha:TE a) (hb:TE b):TE (PJ a b):=by grind [PJ]
theorem Avi (h:WD s):Hs (Vx s) λa=>TE a/\16<=a/\a<=64:=by
 have a16:TE 16:=XG 4 (by omega)
 have hl:=h.1;unfold Vx;refine(Avg s).bind λe he=>.bne (λ_=>.pure ⟨a16,by omega,by omega⟩) λ_=>?_
 refine Hs.loop (λq=>∃ k:Nat,q.2=(k:Int)/\k<=s.length/\TE q.1/\16<=q.1/\q.1<=64) (λq=>s.length-q.2.toNat) ⟨0,rfl,aAC _,a16,by omega,by omega⟩ ?_
 rintro⟨a,_⟩ ⟨k,rfl,hk,h1,h2,h3⟩;replace h2:16<=a:=h2;replace h3:a<=64:=h3;unfold YI;dsimp only;refine .dec (λhlt=>?_) λ_=>.lft (.pure ⟨h1,h2,h3⟩)
 have hlt:k<s.length:=by omega
 rw[OX (by omega)]
 refine(Hs.ix (by omega) (by omega) λx hx=>h.2 x (aAF hx)).bind λx hx=>.cnt ⟨⟨k+1,rfl,hlt,h1.max hx.1,?_,?_⟩,by grind⟩
 all_goals grind [PJ]
theorem AuR (hp:p.Funcs.length<=1000) (h:∀ f∈p.Funcs,WD f.Slots):Hs (Vy p) λa=>TE a/\16<=a/\a<=64:=by
 have a16:TE 16:=XG 4 (by omega)
 unfold Vy;refine Hs.loop (λq=>∃ k:Nat,q.2=(k:Int)/\k<=p.Funcs.length/\TE q.1/\16<=q.1/\q.1<=64) (λq=>p.Funcs.length-q.2.toNat) ⟨0,rfl,aAC _,a16,by omega,by omega⟩ ?_
 rintro⟨a,_⟩ ⟨k,rfl,hk,h1,h2,h3⟩;replace h2:16<=a:=h2;replace h3:a<=64:=h3;unfold AbE;dsimp only;refine .dec (λhlt=>?_) λ_=>.lft (.pure ⟨h1,h2,h3⟩)
 have hlt:k<p.Funcs.length:=by omega
 rw[OX (by omega)]
 refine(Hs.ix (by omega) (by omega) λx hx=>h x (aAF hx)).bind λx hx=>(Avi hx).bind λb hb=>.cnt ⟨⟨k+1,rfl,hlt,h1.max hb.1,?_,?_⟩,by grind⟩
 all_goals grind [PJ]
theorem SC.args {ps:List Int} {most:Int} (h:SC ps i most f) (hi:0<=i) (hl:p.Funcs.length=ps.length) (hps:AoC ps) (hall:∀ (j:Nat) g,p.Funcs[j]? =some g->SC ps j most g):Agk p f:=by
 intro x hx;obtain⟨k,hk⟩:=aAG hx;have hkl:=(aAE.1 hk).1
 by_cases hk1:k+1<f.Code.length
 ·have hins:=h.body k x hk hk1;cases hins with
  | call j h0 h1 =>
   refine⟨λe=>by simp at e,λ_=>⟨by grind,?_⟩⟩
   have hg:p.Funcs[j.toNat]? =some (p.Funcs[j.toNat]'(by omega)):=aAA _
   have:=(hall _ _ hg).par;exact⟨_,hg,hps.1 _ (aAF this)⟩
  | arg a b h0 h1 h2=>simp_all
  | bin op a b c h1 h2 h3 h4 h5 h6=>grind
  | un op a h1 h2=>grind
  | _=>exact⟨λe=>by simp at e,λe=>by simp at e⟩
 ·have he:=h.last x (by grind)
  rcases he with rfl|⟨w,_,rfl⟩<;>exact⟨λe=>by simp at e,λe=>by simp at e⟩
structure Opt (p:Pk) (i:Int) (f:Mk):Prop where
 hi:ixO p.Funcs i=some f
 arg:Agk p f
 so:∀ x∈f.Slots,Uc x
 sl:f.Slots.length<=7
 Apt:Pu f
 defs:RW f
 ml:Acv f
 last:Agw f
 calls:Afq p.Funcs.length f
 pl:p.Funcs.length<=1000
 all:∀ g∈p.Funcs,WD g.Slots
section
variable {p:Pk} {i:Int} {f:Mk}
theorem Zt.slot (hs:∀ x∈f.Slots,Uc x) {r:Pl} (htl:r.To.length=f.Slots.length) {used:List Int} {out:List Pa} (h:Zt f r used out):∀ y∈out,Uc y:=by
 intro y hy;obtain⟨j,hj⟩:=aAG hy;have hjl:=(aAE.1 hj).1;have hu:used[j]? =some (used[j]'(by rw[<- h.len];exact hjl)):=aAA _
 obtain⟨x,l,h1,h2,h3,h4⟩:=h.at_ j _ y hu hj;have hx:=hs x (aAF h1);unfold Uc;rw[h2];refine⟨hx.1,?_⟩;rcases h4.2.2 with e|⟨t,ht,e⟩
 ·rw[e];exact hx.2
 ·obtain⟨k,hk,rfl,_⟩:=(h3 t).1 ht;have hs':f.Slots[k]? =some (f.Slots[k]'(by omega)):=aAA _
  have:alS f (k:Int)=(f.Slots[k]'(by omega)).Align:=by grind [alS]
  rw[e,this];exact(hs _ (aAD _)).2
theorem AuN (pl:List Int) (x:OP):(mvI pl x).Op=x.Op:=by
 grind [mvI]
theorem ApC {to pl:List Int} {x:OP} (h:x.Op=18\/x.Op=22):mvI pl (rnI to x)=x:=by
 have e:rnI to x=x:=by
  unfold rnI
  grind
 rw[e];unfold mvI
 grind
theorem Apk {q:Mk} (hi:ixO p.Funcs i=some f) (hq:q.Params=f.Params) (a:Nat):((p.Funcs.set i.toNat q)[a]?).map Mk.Params=(p.Funcs[a]?).map Mk.Params:=by
 obtain⟨i0,i1,h⟩:=AkS hi
 grind
theorem Arb {q:Mk} {r:Pl} {to pl:List Int} (hi:ixO p.Funcs i=some f) (hq:q.Params=f.Params) (hr:XF f r):∀ k:Nat,k<=f.Code.length->(UL f r.Keep to pl k).foldl (Uf ⟨p.Funcs.set i.toNat q⟩) 0=(f.Code.take k).foldl (Uf p) 0
 | 0,_=>by simp[UL]
 | k+1,hk=>by
  have ih:=Arb (to:=to) (pl:=pl) hi hq hr k (by omega)
  have hx:OR f (k:Nat)=f.Code[k]'(by omega):=by grind [OR]
  rw[AmA,List.foldl_append,ih,aAL (by omega),List.foldl_append,<- hx]
  generalize(f.Code.take k).foldl (Uf p) 0=n
  by_cases hk':Pt r.Keep k=true
  ·rw[if_pos hk']
   grind [Uf,ApC,Apk,AuN,AiH]
  ·rw[if_neg hk'];have:=hr.2.2 k (by omega) (by simp_all)
   show n=Uf p n (OR f (k:Nat));unfold Uf;omega
structure Awp (p:Pk) (i:Int) (f:Mk) (x:Px) (a0:Int) (q:Mk) (off:List Int):Prop where
 live:Yn f x.Live.Out
 rw_:XF f x.Rename
 cls:∃ g:List (List Int),PX f.Slots.length g (λa v=>Ed Rm f x.Live.Out a v\/Ed Rm f x.Live.Out v a)/\Abq f g x.Rename.To/\Sp f g=some x.Rename.To
 keep:∀ k:Nat,k<f.Code.length->(Pt x.Rename.Keep k=true↔¬ Uq f x.Live.Out k/\¬ ((OR f k).Op=17/\Pd x.Rename.To (OR f k).A=Pd x.Rename.To (OR f k).B))
 app:AhQ f x.Rename (q,0)
 ref:TB f x.Rename=some (q,0)
 Apt:Pu q
 defs:RW q
 after:Yn q x.LiveAfter.Out
 hal:Vy p=some a0
 al:TE a0/\16<=a0/\a0<=64
 arg:Agk ⟨p.Funcs.set i.toNat q⟩ q
 args:Te ⟨p.Funcs.set i.toNat q⟩ q q.Code.length=Te p f f.Code.length
 slot:∀ x∈q.Slots,Uc x
 slots:q.Slots.length<=f.Slots.length
 strict:∃ s:List (List Int),PX q.Slots.length s (λa v=>Ed Ri q x.LiveAfter.Out a v\/Ed Ri q x.LiveAfter.Out v a)/\UP q.Slots s (16*Te p f f.Code.length)=some (off,0)
 lay:x.Layout=Amr ⟨p.Funcs.set i.toNat q⟩ q a0 off
theorem Atg {a b:Pg} (h:a.Out=b.Out):a=b:=by cases a;simp_all
theorem AtU (hf:Pu f) (hd:RW f) {l:Pg} (hl:Acc f l.Out):∃ g,Xj f l=some (g,0)/\ZN f l=some (g,0)/\PX f.Slots.length g λa v=>Ed Rm f l.Out a v\/Ed Rm f l.Out v a:=by
 have hlen:=hl.1.len hf;obtain⟨a,h1,h2⟩:=AuB hf hd hlen;have key:Hs (ZN f l) (SV Rm f l.Out):=by
  exact(AmO hf hd hlen false).bind λr hr=>.pure hr
 obtain⟨b,k1,k2⟩:=key;obtain rfl:=h2.unique k2;obtain⟨g,e⟩:=a;rcases h2 with⟨q1,_,q3⟩|⟨_,q2,_⟩
 all_goals simp_all
theorem AsT (hf:Pu f) (hd:RW f) {l:Pg} (hl:Acc f l.Out):∃ g,VO f l=some (g,0)/\Abi f l=some (g,0)/\PX f.Slots.length g λa v=>Ed Ri f l.Out a v\/Ed Ri f l.Out v a:=by
 have hlen:=hl.1.len hf;obtain⟨a,h1,h2⟩:=AtQ hf hd hlen;have key:Hs (Abi f l) (SV Ri f l.Out):=by
  exact(AmO hf hd hlen true).bind λr hr=>.pure hr
 obtain⟨b,k1,k2⟩:=key;obtain rfl:=h2.unique k2;obtain⟨g,e⟩:=a;rcases h2 with⟨q1,_,q3⟩|⟨_,q2,_⟩
 all_goals simp_all
theorem AmD (h:Opt p i f):∃ x al q off,QP p i=some x/\WT p i=some x/\Awp p i f x al q off:=by
 obtain⟨i0,i1,hif⟩:=AkS h.hi;have hf:=h.Apt;have hlen:=hf.len';obtain⟨l,el,hl⟩:=Aqf hf;obtain⟨l',el',hl'⟩:=Asf hf;obtain rfl:=Atg (hl'.unique hl);have hacc:=hl.acc hf;obtain⟨g,eg,eg',hg⟩:=AtU hf h.defs hacc;obtain⟨to,ec,ec'⟩:=Arm hf h.ml hg;have hcls:Abq f g to:=by
  obtain⟨to',e,hto⟩:=AoH hlen hf.slots h.ml hg (λx y r s hr hs hy=>((hg.2 y s hs).2 _).2 (((hg.2 x r hr).2 _).1 hy).symm) λx r hr hx=>by
   rcases((hg.2 x r hr).2 _).1 hx with⟨_,_,_,_,_,_,h',_⟩|⟨_,_,_,_,_,_,h',_⟩<;>exact h' rfl
  simp_all
 obtain⟨keep,ek,ek'⟩:=AuI hf hacc.1 h.ml hcls.ok.1;have hkeep:keep.length=f.Code.length/\∀ k:Nat,k<f.Code.length->(Pt keep k=true↔¬ Uq f l'.Out k/\¬ ((OR f k).Op=17/\Pd to (OR f k).A=Pd to (OR f k).B)):=by
  obtain⟨kp,e,hk⟩:=Apx hf hacc.1 h.ml hcls.ok.1;simp_all
 have hr:XF f ⟨to,keep⟩:=by
  obtain⟨g2,e1,t2,e2,k2,e3,hr⟩:=Atv hf h.defs h.ml hacc;simp_all
 obtain⟨⟨q,qe⟩,ea,ea',hx⟩:=Ats hf h.defs hr;have qe0:qe=0:=hx.1;subst qe0;obtain⟨qf,qd,qc⟩:Pu q/\RW q/\Afq p.Funcs.length q:=by
  obtain⟨q',e,_,h1,h2,h3⟩:=Asy hf h.defs h.last h.calls hr;simp_all
 obtain⟨l2,e2,hl2⟩:=Aqf qf;obtain⟨l2',e2',hl2'⟩:=Asf qf;obtain rfl:=Atg (hl2'.unique hl2);have hacc2:=hl2.acc qf;obtain⟨s,es,es',hs⟩:=AsT qf qd hacc2;have hqp:q.Params=f.Params:=hx.2.1;obtain⟨_,_,used,to',pl,hu,hsx,hn,hpl,hcode⟩:=id hx;have hslot:=Zt.slot h.so hr.1.1 hsx;have hul:q.Slots.length<=f.Slots.length:=by
  rw[hsx.len];have:=AmZ (l:=used) (a:=0) (n:=(f.Slots.length:Int)) hu.1.1 λv hv=>by
   obtain⟨_,j,hj,hk,hv'⟩:=(hu.2 v).1 hv;exact AgL hf h.defs hr.1 (hf.at (j:=(j:Int)) (by omega) (by omega)).2 v hv'
  omega
 have hargs:Te ⟨p.Funcs.set i.toNat q⟩ q q.Code.length=Te p f f.Code.length:=by
  unfold Te;rw[aAI,aAI,hcode,Arb h.hi hqp hr _ (aAJ _),aAI]
 have harg:Agk ⟨p.Funcs.set i.toNat q⟩ q:=by
  intro y hy;rw[hcode]at hy;obtain⟨pn,hp⟩:=aAG hy;obtain⟨j,h1,_,_,rfl⟩:=(AdB (f:=f) (keep:=keep) (to:=to') (pl:=pl) _ (by omega)).2 pn y hp
  have hm:=(hf.at (j:=(j:Int)) (by omega) (by omega)).2
  rw[AuN,AiH];refine⟨λe=>?_,λe=>?_⟩
  ·rw[ApC (.inl e)];exact(h.arg _ hm).1 e
  ·rw[ApC (.inr e)];obtain⟨a0,gg,hgg,hpp⟩:=(h.arg _ hm).2 e;refine⟨a0,?_⟩;have hsp:=Apk (p:=p) h.hi hqp (OR f (j:Nat)).A.toNat
   grind
 have hset:ixO (⟨p.Funcs.set i.toNat q⟩:Pk).Funcs i=some q:=by
  grind [QU]
 have hk4:=Adm h.arg (aAJ f.Code.length);have eo:=Axt p q (by have:=h.pl;omega) i0 (by omega)
 have eo':=Awd p q (by have:=h.pl;omega) i0 (by omega)
 have epa:Za ⟨p.Funcs.set i.toNat q⟩ i=some (16*Te p f f.Code.length):=by
  rw[ArS hset qf.len' harg,hargs]
 have era:=ArU h.hi hlen h.arg;have hsl:WD q.Slots:=⟨by have:=h.sl;omega,λx hx=>(hslot x hx).al⟩
 have hG:Sr s q.Slots.length:=hs.graph;have hgl:∀ row∈s,row.length<=512:=λrow hrow=>by
  obtain⟨k,hk⟩:=aAG hrow;exact(hs.2 k row hk).1.1.length_le
 obtain⟨off,eas,eas'⟩:=AsA hsl hslot hG hgl (frm:=16*Te p f f.Code.length) (by omega)
 obtain⟨al,eal,eal'⟩:=AsP p (by have:=h.pl;omega)
 have hal:TE al/\16<=al/\al<=64:=by
  obtain⟨a,e,ha⟩:=AuR h.pl h.all;simp_all
 obtain⟨hol,hop⟩:off.length=q.Slots.length/\∀ y:Nat,y<q.Slots.length->Plc q.Slots (16*Te p f f.Code.length) (16*Te p f f.Code.length+80*q.Slots.length) off y:=by
  obtain⟨r,e,_,h1,h2,_⟩:=ApV hsl hslot hG hgl (frm:=16*Te p f f.Code.length) (by omega)
  simp_all
 have hbnd:∀ y:Nat,y<q.Slots.length->0<=oN off y/\0<=szN q.Slots y/\oN off y+szN q.Slots y<=1000:=λy hy=>by
  obtain⟨p1,p2,_⟩:=hop y hy;have hsy:q.Slots[y]? =some q.Slots[y]:=aAA _;obtain⟨_,_,b3,b4⟩:=hsl.2 _ (aAD hy);rw[<- (YU hsy).1]at b3 b4;have:=hsl.1;omega
 have efn:=Axv (p:=⟨p.Funcs.set i.toNat q⟩) (B:=1000) hset qf.len' harg (by have:=hsl.1;omega) hal.1 hol (by omega) hbnd
 have efn':=AxB (p:=⟨p.Funcs.set i.toNat q⟩) (B:=1000) hset qf.len' harg (by have:=hsl.1;omega) hal.1 hol (by omega) hbnd
 refine⟨⟨l',⟨to,keep⟩,l2',Amr ⟨p.Funcs.set i.toNat q⟩ q al off⟩,al,q,off,?_,?_,⟨hl,hr,⟨g,hg,hcls,ec'⟩,hkeep.2,hx,ea',qf,qd,hl2,eal',hal,harg,hargs,hslot,hul,⟨s,hs,eas'⟩,rfl⟩⟩
 ·unfold QP Xr Xq Wn Wo;simp only[h.hi,aA,el,eg,ec,ek,ea,e2,eo,es,epa,eas,bne_self_eq_false,cond_false,eal,efn,beq_self_eq_true,cond_true]
 ·unfold WT;simp only[h.hi,aA,el',eg',ec',ek',ea',e2',es',era,eas',bne_self_eq_false,cond_false,eo',eal',efn']
end
end Go.Proofs.YtilmapojncgflaaGreatDoor
namespace Go.Dw
theorem AkL {R:Type} {body:Int->Option (Int⊕R)} (n:Nat) {r:R} (h:∀ k:Nat,k<n->body (k:Int)=cnt (((k+1:Nat)):Int)) (he:body (n:Int)=lft (some r)):Pc body 0=some r:=by
 have key:Hs (Pc body 0) λq=>q=r:=by
  refine Hs.loop (λi=>∃ k:Nat,i=(k:Int)/\k<=n) (λi=>n-i.toNat) ⟨0,rfl,aAC _⟩ ?_
  rintro _ ⟨k,rfl,hk⟩
  by_cases e:k<n
  ·rw[h k e];exact .cnt ⟨⟨k+1,rfl,e⟩,by grind⟩
  ·obtain rfl:k=n:=by omega
   rw[he];exact .lft (.pure rfl)
 obtain⟨q,h,rfl⟩:=key;exact h
end Go.Dw
namespace Go.Proofs.YtilmapojncgflaaGreatDoor
open Go Go.Dw Go.Proofs
variable {p:Pk}
theorem Asc (y:PG) (h:y.Off.length<=1000000):Afa y y=some true:=by
 unfold Afa;simp only[bne_self_eq_false,cond_false];unfold Adf;refine AkL y.Off.length (λk hk=>?_) ?_
 ·unfold ZD;rw[decide_eq_true (by omega),cond_true,Pq,aAA hk,aA,aA,OX (by omega)]
  simp
 simp_all[ZD]
theorem AlK (a:Pg) (h:a.Out.length<=9223372036854775807) (hr:∀ s∈a.Out,s.length<=9223372036854775807):Vv a a=some true:=by
 grind [Vv,Apj]
theorem AqG (x:Px) (h1:x.Live.Out.length<=1000000/\∀ s∈x.Live.Out,s.length<=1000000) (h2:x.LiveAfter.Out.length<=1000000/\∀ s∈x.LiveAfter.Out,s.length<=1000000) (h3:x.Layout.Off.length<=1000000) (h4:x.Rename.To.length<=1000000) (h5:x.Rename.Keep.length<=1000000):Xx x x=some true:=by
 unfold Xx;rw[AlK _ (by omega) (λs hs=>by grind),AlK _ (by omega) (λs hs=>by grind),Asc _ h3]
 simp only[aA,aAR,cond_false,bne_self_eq_false];refine AkL x.Rename.To.length (λk hk=>?_) ?_
 ·unfold ZE;rw[decide_eq_true (by omega),cond_true,Pq,aAA hk,aA,aA,OX (by omega)]
  simp
 ·unfold ZE;rw[decide_eq_false (by omega),cond_false]
  congr 1;refine AkL x.Rename.Keep.length (λk hk=>?_) ?_
  ·unfold ZF;rw[decide_eq_true (by omega),cond_true,Pq,aAA hk,aA,aA,OX (by omega)]
   simp
  simp_all[ZF]
abbrev Att:Mk:=Mk.mk 0 ([]) ([(OP.mk 23 0 0 0 0)]:List OP)
theorem AvB:Opt ⟨[Att]⟩ 0 Att:=by
 have one:∀ x∈Att.Code,x=OP.mk 23 0 0 0 0:=λx hx=>by simp_all
 refine⟨rfl,λx hx=>?_,λx hx=>(by cases hx),by simp,⟨by simp,by simp,by simp,λk x hx j hj=>?_,λx hx v hv=>?_⟩,λx hx hop=>?_,λx hx hop=>?_,.inl rfl,λx hx hop=>?_,by simp,λg hg=>?_⟩
 ·simp_all
 ·grind [Qa]
 ·grind [QE]
 ·simp_all
 ·simp_all
 ·simp_all
 ·have:g=Att:=by simp_all
  subst this;exact⟨by simp,λx hx=>by cases hx⟩
theorem Awx:Acz=some true:=by
 obtain⟨x,al,q,off,h1,_,h3⟩:=AmD AvB;have e1:x.Live.Out.length=1:=h3.live.ok.1;have e2:x.Rename.Keep.length=1:=h3.rw_.2.1;unfold Acz;simp_all
theorem AhS.opt {funcs most:Int} (h:AhS funcs most p) (hm:most<=1000) {i:Int} {f:Mk} (hi:ixO p.Funcs i=some f):Opt p i f:=by
 obtain⟨ps,hps,hz,hp1,hp2,hfl,hall⟩:=h;obtain⟨i0,i1,hif⟩:=AkS hi;have hfo:SC ps (i.toNat:Nat) most f:=hall i.toNat f (by omega)
 have hpl:=hps.2
 exact⟨hi,hfo.args (by omega) hfl hps hall,hfo.slot,(by have:=hfo.slots;omega),hfo.Apt hm,hfo.defs,hfo.AxW,hfo.AxU,by rw[hfl];exact hfo.calls (by omega),by omega,λg hg=>by
  obtain⟨j,hj⟩:=aAG hg
  exact(hall j g hj).AxG⟩
theorem AhS.Ayn {funcs most:Int} (h:AhS funcs most p) (hm:most<=1000):p.Funcs.length<=1000/\∀ f∈p.Funcs,f.Code.length<=1000000/\f.Slots.length<=1000000:=by
 obtain⟨ps,hps,hz,hp1,hp2,hfl,hall⟩:=h;have hpl:=hps.2;refine⟨by omega,λg hg=>?_⟩
 obtain⟨j,hj⟩:=aAG hg;have:=hall j g hj;exact⟨by have:=this.len';omega,by have:=this.slots;omega⟩
theorem AhS.one {funcs most:Int} (h:AhS funcs most p):1<=p.Funcs.length:=by
 obtain⟨ps,hps,hz,hp1,hp2,hfl,hall⟩:=h;omega
theorem Auf {i:Int} {f:Mk} {x:Px} {al:Int} {q:Mk} {off:List Int} (h:Opt p i f) (k:Awp p i f x al q off):Xx x x=some true:=by
 have hf:=h.Apt;have hlen:=hf.len';have qlen:=k.Apt.len';have rows:∀ {f:Mk} {l:List (List Int)},QM f l->∀ s∈l,s.length<=1000000:=λh s hs=>by have:=(h.2 s hs).1.length_le;omega
 refine AqG x ⟨by have:=k.live.ok.1;omega,rows k.live.ok⟩ ⟨by have:=k.after.ok.1;omega,rows k.after.ok⟩ ?_ ?_ ?_
 ·rw[k.lay];obtain⟨s,hs,ha⟩:=k.strict;have hsl:WD q.Slots:=⟨by have:=h.sl;have:=k.slots;omega,λx hx=>(k.slot x hx).al⟩
  have hk4:=Adm h.arg (aAJ f.Code.length)
  obtain⟨r,e,_,h1,_⟩:=ApV hsl k.slot hs.graph (λrow hrow=>by
   obtain⟨j,hj⟩:=aAG hrow
   exact(hs.2 j row hj).1.1.length_le) (frm:=16*Te p f f.Code.length) (by omega)
  rw[ha]at e;cases e;show off.length<=_;have h1:off.length=q.Slots.length:=h1;have:=h.sl;have:=k.slots;omega
 ·have:=k.rw_.1.1;have:=h.sl;omega
 ·have:=k.rw_.2.1;omega
theorem Aio (codes:List Int) (hc:qL (Sw .u8) codes):Hs (Tk codes) λb=>b=true:=by
 unfold Tk;rw[Awx];obtain⟨c,e1,hcok⟩:=AxX codes 300 hc (by omega) (by omega)
 rw[e1,aA];refine(Aue hcok (by omega) (by omega) (by omega) (by omega)).bind λp hp=>?_
 obtain⟨pl,_⟩:=hp.2.Ayn (by omega)
 have opt:∀ k:Nat,(hk:k<p.1.Funcs.length)->Opt p.1 (k:Int) p.1.Funcs[k]:=λk hk=>hp.2.opt (by omega) (by simp_all)
 have key:∀ k:Nat,k<p.1.Funcs.length->∃ x,QP p.1 (k:Int)=some x/\WT p.1 (k:Int)=some x/\Xx x x=some true:=λk hk=>by
  grind [AmD,Auf]
 refine Hs.bind (P:=λl:List Px=>l.length=p.1.Funcs.length/\∀ (k:Nat) x,l[k]? =some x->QP p.1 (k:Int)=some x) ?_ λl ⟨hl,hlk⟩=>?_
 ·unfold AeJ;refine Hs.loop (λs=>∃ k:Nat,s.2=(k:Int)/\k<=p.1.Funcs.length/\s.1.length=k/\∀ (j:Nat) x,s.1[j]? =some x->QP p.1 (j:Int)=some x) (λs=>p.1.Funcs.length-s.2.toNat) ⟨0,rfl,aAC _,rfl,λj x h=>by simp at h⟩ ?_
  rintro⟨l,_⟩ ⟨k,rfl,hk,hl,hlk⟩;replace hl:l.length=k:=hl;replace hlk:∀ (j:Nat) x,l[j]? =some x->QP p.1 (j:Int)=some x:=hlk;unfold Aax;dsimp only;refine .dec (λhlt=>?_) λhge=>.lft (.pure ⟨by omega,hlk⟩)
  have hlt:k<p.1.Funcs.length:=by omega
  obtain⟨x,h1,_⟩:=key k hlt;rw[h1,aA,OX (by omega)]
  refine .chk (by simp;omega) (.cnt ⟨⟨k+1,rfl,hlt,by simp[hl],λj y hy=>?_⟩,by grind⟩)
  grind
 ·refine .bne (λh=>by omega) λ_=>?_
  refine Hs.loop (λi=>∃ k:Nat,i=(k:Int)/\k<=p.1.Funcs.length) (λi=>p.1.Funcs.length-i.toNat) ⟨0,rfl,aAC _⟩ ?_
  rintro _ ⟨k,rfl,hk⟩;refine .dec (λhlt=>?_) λ_=>.lft (.pure rfl)
  have hlt:k<p.1.Funcs.length:=by omega
  obtain⟨x,h1,h2,h3⟩:=key k hlt;have hg:l[k]? =some (l[k]'(by omega)):=aAA _
  have hx:=hlk k _ hg;rw[h1]at hx;rw[<- Option.some.inj hx]at hg;rw[h2,aA,h1,aA,h3,aA];refine .chk (by omega) ?_
  rw[aAB,hg,aA,h3,aA,OX (by omega)]
  exact .cnt ⟨⟨k+1,rfl,hlt⟩,by grind⟩
theorem Ahb (codes:List Int) (hc:qL (Sw .u8) codes):Tk codes=some true:=by
 obtain⟨r,h,rfl⟩:=Aio codes hc;exact h
end Go.Proofs.YtilmapojncgflaaGreatDoor
