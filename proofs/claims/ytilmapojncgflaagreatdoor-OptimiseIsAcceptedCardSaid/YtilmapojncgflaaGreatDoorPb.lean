/-
  Plain laws about the typed programs.
-/
import Derived.Test.YtilmapojncgflaaGreatDoorPa
import Derived.Test.YtilmapojncgflaaGreatDoorDxP
open BitVec renaming ofInt->aAP,toNat_and->aAm
open Bool renaming not_true->aAT,cond_eq_ite->aAl
open Classical renaming byContradiction->aAk,choose_spec->aAt,choose->aAw
open Int renaming toNat_natCast->aAB,toNat_of_nonneg->aAM,mul_le_mul_of_nonneg_left->aAN,dvd_of_emod_eq_zero->aAS,emod_add_mul_ediv->aAW,lt_or_le->aAa,emod_lt_of_pos->aAg,tmod_eq_emod_of_nonneg->aAh,lt_of_mul_lt_mul_left->aAj,emod_nonneg->aAo
open List renaming getElem?_eq_getElem->aAA,getElem_mem->aAC,getElem?_eq_some_iff->aAE,getElem?_of_mem->aAF,mem_of_getElem?->aAG,take_length->aAK,take_succ_eq_append_getElem->aAL,pairwise_iff_getElem->aAO,mem_append->aAQ,replicate->aAR,mem_singleton->aAU,take_append_drop->aAV,range->aAX,drop_eq_getElem_cons->aAZ,find?_eq_none->aAb,take_add_one->aAc,mem_cons->aAd,getElem?_set_ne->aAf,ext_getElem?->aAi,getElem?_replicate->aAn,getElem?_set_self->aAp,getElem_cons_drop->aAq,take_of_length_le->aAr,mem_iff_getElem?->aAs,getElem?_eq_none->aAu,length_replicate->aAv
open Nat renaming zero_le->aAD,not_lt_zero->aAH,le_refl->aAI,pow_le_pow_right->aAJ,and_sub_one_eq_zero_iff_isPowerOfTwo->aAY,two_pow_pos->aAe
open Option renaming bind_some->aA
namespace Go.Proofs.YtilmapojncgflaaGreatDoor
open Go Go.Dw Go.Proofs
open Classical in
noncomputable def SN (g:List (List Int)) (to:List Int) (p:Pt):List Int :=
 if Pf to p.a0=Pf to p.a1 then to else if SY g to (Pf to p.a0) (Pf to p.a1)then XT to (Pf to p.a0) (Pf to p.a1)else to
variable {g:List (List Int)} {to u:List Int} {p:Pt} {s:List Pb} {k x6:Nat} {l:List OX} {a frm size:Int} {f:Le}
noncomputable def AtD (n:Nat) (g:List (List Int)) (mv:List Pt):List Int:=mv.foldl (SN g) ((aAX n).map λi:Nat=>(i:Int))
theorem ApU (to:List Int) (a b:Int):(XT to a b).length=to.length:=by grind [XT]
theorem Avr (g:List (List Int)) (to:List Int) (p:Pt):(SN g to p).length=to.length:=by
 grind [SN,ApU]
theorem Ase (h:Pf to p.a0=Pf to p.a1):SN g to p=to:=by simp_all[SN]
theorem Asd (h:Pf to p.a0≠Pf to p.a1) (hA:SY g to (Pf to p.a0) (Pf to p.a1)):SN g to p=XT to (Pf to p.a0) (Pf to p.a1):=by simp_all[SN]
theorem Asf (hA:¬ SY g to (Pf to p.a0) (Pf to p.a1)):SN g to p=to:=by simp_all[SN]
section
variable {n:Nat} {g:List (List Int)} {Q:Nat->Int->Prop} {to:List Int}
theorem Awr (to:List Int) (s:Nat):Pf to (s:Int)=(to[s]?).getD 0:=by simp[Pf]
def XN (to:List Int) (s:Int) (k:Nat) (l:List Int):Prop:=∀ t,t∈l↔∃ j:Nat,j<k/\t=(j:Int)/\Pf to j=s
theorem XN.zero (to:List Int) (s:Int):XN to s 0 []:=λt=>⟨λh=>(by cases h),λ⟨j,h,_⟩=>absurd h (aAH _)⟩
theorem XN.yes {s:Int} {l:List Int} (h:XN to s k l) (e:Pf to k=s):XN to s (k+1) (l++[(k:Int)]):=λt=>by
 rw[aAQ,h t,aAU]
 grind
theorem XN.no {s:Int} {l:List Int} (h:XN to s k l) (e:Pf to k≠s):XN to s (k+1) l:=λt=>by
 rw[h t]
 grind
theorem AnB (hg:PW n g Q) (htn:to.length=n) {b:Int} {xs ys:List Int} (hx:XN to a to.length xs) (hy:XN to b to.length ys):SY g to a b↔∀ x∈xs,∀ row,g[x.toNat]? =some row->∀ y∈ys,y∉row:=by
 constructor
 ·intro h x hxm row hr y hym;obtain⟨i,i1,rfl,i3⟩:=(hx x).1 hxm;obtain⟨j,j1,rfl,j3⟩:=(hy y).1 hym;exact h i j row i1 j1 i3 j3 hr
 ·intro h x y row h1 h2 h3 h4 h5;exact h x ((hx x).2 ⟨x,h1,rfl,h3⟩) row (by simp_all) y ((hy y).2 ⟨y,h2,rfl,h4⟩)
structure Whole (n:Nat) (to:List Int):Prop where
 len:to.length=n
 at_:∀ s:Nat,s<n->0<=Pf to s/\Pf to s<=s/\Pf to (Pf to s)=Pf to s
theorem Aso (h:RS u to):Whole u.length to:=by
 refine⟨h.len.symm,λs hs=>?_⟩
 obtain⟨x,y,e1,e2,g1,g2,g3,g4,g5,g6,g7⟩:=h.get hs
 grind [Awr]
theorem Afv (hR:RS u to) {s:Int} (h0:0<=s) (h1:s<to.length):∃ u',Wa u s=some (u',Pf to s)/\RS u' to:=AuB hR h0 (Qn h0 h1)
theorem Atn {u5:List Int} (hR:RS u to) (hn:to.length<=500) (h5:u5.length=to.length) {b:Int} (ha0:0<=a) (ha1:a<to.length) (haa:Pf to a=a) (hb0:0<=b) (hb1:b<to.length) (hbb:Pf to b=b) (hne:a≠b) (hx6:x6<1000000) {r8 r9:List Int×Int} (e8:r8.2=a) (e9:r9.2=b) (q:Bool) :
  Hs (SP u5 r8 r9 (x6:Int) u q) λz=>∃ u',z= .inl (u',((x6+1:Nat):Int))/\RS u' (if q=true then XT to a b else to):=by
 have hul:=hR.len;refine .chk (by omega) ?_
 rw[OZ (by omega),e8,e9]
 cases q with
 | false=>exact .pure ⟨u,rfl,by simp_all⟩
 | true =>
  simp only[cond_true,if_true];obtain⟨u1,f1,R1⟩:=Afv hR ha0 ha1;obtain⟨u2,f2,R2⟩:=Afv R1 hb0 hb1;have l1:=R1.len;have l2:=R2.len;refine .chk (by omega) ?_
  rw[f1,aA];refine .chk (by grind) ?_
  rw[f2,aA,haa,hbb];obtain⟨an,rfl⟩:∃ k:Nat,a=(k:Int):=⟨a.toNat,by omega⟩
  obtain⟨bn,rfl⟩:∃ k:Nat,b=(k:Int):=⟨b.toNat,by omega⟩
  have em:PH (an:Int) (bn:Int)=((max an bn:Nat):Int):=by grind [PH]
  have ei:RU (an:Int) (bn:Int)=((min an bn:Nat):Int):=by grind [RU]
  rw[em,ei];refine .chk (by grind) ?_
  simp only[aAB];rw[aAA (by omega),aA]
  refine .pure ⟨_,rfl,R2.join ?_ ?_ (by omega)⟩
  all_goals grind [Qn,aAB]
theorem AxJ (hg:PW n g Q) (htn:to.length=n) {u5:List Int} (hR:RS u to) (hn:to.length<=500) (h5:u5.length=to.length) {b:Int} (ha0:0<=a) (ha1:a<to.length) (haa:Pf to a=a) (hb0:0<=b) (hb1:b<to.length) (hbb:Pf to b=b) (hne:a≠b) (hx6:x6<1000000) {r8 r9:List Int×Int} (e8:r8.2=a) (e9:r9.2=b) {xs ys:List Int} (hx:XN to a to.length xs) (hxl:xs.length<=to.length) (hy:XN to b to.length ys) {m:List (Int×Bool)} (hm:∀ y,QM false y m=decide (y∈ys)) :
  Hs (Pg (λs=>VW xs g m u5 r8 r9 (x6:Int) u s) 0) λz=>∃ u',z= .inl (u',((x6+1:Nat):Int))/\((SY g to a b->RS u' (XT to a b))/\(¬ SY g to a b->RS u' to)):=by
 have hgl:=hg.1;have hap:=AnB hg htn hx hy;have no:¬ SY g to a b->Hs (SP u5 r8 r9 (x6:Int) u false) λz=>∃ u',z= .inl (u',((x6+1:Nat):Int))/\((SY g to a b->RS u' (XT to a b))/\(¬ SY g to a b->RS u' to)):=λhna=>(Atn hR hn h5 ha0 ha1 haa hb0 hb1 hbb hne hx6 e8 e9 false).mono λz ⟨u',h1,h2⟩=>⟨u',h1,λh=>(hna h).elim,λ_=>by simp_all⟩
 refine Hs.loop (λi=>∃ k:Nat,i=(k:Int)/\k<=xs.length/\∀ x∈xs.take k,∀ row,g[x.toNat]? =some row->∀ y∈ys,y∉row) (λi=>xs.length-i.toNat) ⟨0,rfl,aAD _,λx h=>by simp at h⟩ ?_
 rintro _ ⟨k,rfl,hk,hall⟩;refine .dec (λhlt=>?_) λhge=>.lft ?_
 ·have hlt:k<xs.length:=by omega
  have hgx:xs[k]? =some xs[k]:=aAA _;have hxm:=aAC hlt;have htk:xs.take (k+1)=xs.take k++[xs[k]]:=by simp_all
  generalize xs[k]=x at hgx hxm htk;obtain⟨jx,hjx,rfl,hja⟩:=(hx x).1 hxm;have hrow:g[jx]? =some (g[jx]'(by omega)):=aAA _
  generalize g[jx]'(by omega)=row at hrow
  have hrl:=(hg.2 jx row hrow).1.1.length_le;refine .chk (by omega) ?_
  rw[aAB,hgx,aA,Pr,hrow,aA];refine Hs.loop (λi=>∃ m:Nat,i=(m:Int)/\m<=row.length/\∀ y∈row.take m,y∉ys) (λi=>row.length-i.toNat) ⟨0,rfl,aAD _,λx h=>by simp at h⟩ ?_
  rintro _ ⟨p,rfl,hp,hno⟩;refine .dec (λhlt2=>?_) λhge2=>.lft ?_
  ·have hlt2:p<row.length:=by omega
   have hgy:row[p]? =some row[p]:=aAA _;have htm:row.take (p+1)=row.take p++[row[p]]:=by grind [aAc]
   have hym:=aAC hlt2;generalize row[p]=y at hgy htm hym;rw[Pr,hgy,aA,hm,OZ (by omega)]
   refine .dec (λh=>.lft ?_) λh=>.cnt ⟨⟨p+1,rfl,hlt2,λz hz=>?_⟩,by grind⟩
   ·unfold SQ;rw[decide_eq_true (by omega),cond_true]
    refine .lft (no λhA=>?_)
    grind
   grind
  ·have hpp:p=row.length:=by omega
   subst hpp;rw[aAK]at hno;unfold SQ;rw[decide_eq_false (by omega),cond_false,OZ (by omega)]
   refine .cnt ⟨⟨k+1,rfl,hlt,λz hz row' hr y hy' hyr=>?_⟩,by simp only;omega⟩
   rw[htk]at hz;rcases aAQ.1 hz with hz|hz
   ·exact hall z hz row' hr y hy' hyr
   ·rw[aAU.1 hz,aAB,hrow]at hr;cases hr;exact hno y hyr hy'
 ·have hkk:k=xs.length:=by omega
  subst hkk;rw[aAK]at hall;have hA:SY g to a b:=hap.2 hall;exact(Atn hR hn h5 ha0 ha1 haa hb0 hb1 hbb hne hx6 e8 e9 true).mono λz ⟨u',h1,h2⟩=>⟨u',h1,λ_=>by simp_all,λh=>(h hA).elim⟩
theorem AvK (hg:PW n g Q) (htn:to.length=n) {u5:List Int} (hR:RS u to) (hn:to.length<=500) (h5:u5.length=to.length) {b:Int} (ha0:0<=a) (ha1:a<to.length) (haa:Pf to a=a) (hb0:0<=b) (hb1:b<to.length) (hbb:Pf to b=b) (hne:a≠b) (hx6:x6<1000000) {r8 r9:List Int×Int} (e8:r8.2=a) (e9:r9.2=b) :
  Hs (Pg (λs=>Vj u5 r9 r8 g (x6:Int) s.1 s.2.1 s.2.2) (u,([]:List Int),0)) λz=>∃ u',z= .inl (u',((x6+1:Nat):Int))/\((SY g to a b->RS u' (XT to a b))/\(¬ SY g to a b->RS u' to)):=by
 refine Hs.loop (λs=>∃ k:Nat,s.2.2=(k:Int)/\k<=to.length/\RS s.1 to/\s.2.1.length<=k/\XN to b k s.2.1) (λs=>to.length-s.2.2.toNat) ⟨0,rfl,aAD _,hR,aAI _,XN.zero to b⟩ ?_
 rintro⟨u1,ys,_⟩ ⟨k,rfl,hk,R1,hyl,hy⟩;replace R1:RS u1 to:=R1;replace hyl:ys.length<=k:=hyl;have l1:=R1.len;refine .dec (λhlt=>?_) λhge=>.lft ?_
 ·have hlt:k<to.length:=by simp_all
  obtain⟨u2,f2,R2⟩:=Afv R1 (s:=(k:Int)) (by omega) (by omega)
  refine .chk (by grind) ?_
  simp only[f2,aA,e9,OZ (show k<9223372036854775807 by omega)]
  refine .beq (λh=>.chk (by simp;omega) (.cnt ⟨⟨k+1,rfl,hlt,R2,by simp;omega,hy.yes h⟩,by grind⟩)) λh=>.cnt ⟨⟨k+1,rfl,hlt,R2,by grind,hy.no h⟩,by grind⟩
 have hkk:k=to.length:=by grind
 subst hkk;refine .chk (by simp_all) ?_
 refine Hs.loop (λs=>∃ i:Nat,s.2=(i:Int)/\i<=ys.length/\∀ y,QM false y s.1=decide (y∈ys.take i)) (λs=>ys.length-s.2.toNat) ⟨0,rfl,aAD _,λy=>by simp[QM]⟩ ?_
 rintro⟨m,_⟩ ⟨i,rfl,hi,hm⟩;refine .dec (λhlt=>?_) λhge=>.lft ?_
 ·have hlt:i<ys.length:=by simp_all
  have hgy:ys[i]? =some ys[i]:=aAA _;have htm:ys.take (i+1)=ys.take i++[ys[i]]:=by simp_all
  generalize ys[i]=x at hgy htm;refine .chk (by omega) ?_
  simp only[aAB,hgy,aA];rw[OZ (by omega)]
  refine .cnt ⟨⟨i+1,rfl,hlt,λy=>?_⟩,by grind⟩
  show QM false y (RX x true m)=_;rw[AkO,hm,htm]
  grind
 have hii:i=ys.length:=by grind
 subst hii;rw[aAK]at hm;refine Hs.loop (λs=>∃ k:Nat,s.2.2=(k:Int)/\k<=to.length/\RS s.1 to/\s.2.1.length<=k/\XN to a k s.2.1) (λs=>to.length-s.2.2.toNat) ⟨0,rfl,aAD _,R1,aAI _,XN.zero to a⟩ ?_
 rintro⟨u3,xs,_⟩ ⟨k,rfl,hk,R3,hxl,hx⟩;replace R3:RS u3 to:=R3;replace hxl:xs.length<=k:=hxl;have l3:=R3.len;refine .dec (λhlt=>?_) λhge=>.lft ?_
 ·have hlt:k<to.length:=by simp_all
  obtain⟨u2,f2,R2⟩:=Afv R3 (s:=(k:Int)) (by omega) (by omega)
  refine .chk (by grind) ?_
  simp only[f2,aA,e8,OZ (show k<9223372036854775807 by omega)]
  refine .beq (λh=>.chk (by simp;omega) (.cnt ⟨⟨k+1,rfl,hlt,R2,by simp;omega,hx.yes h⟩,by grind⟩)) λh=>.cnt ⟨⟨k+1,rfl,hlt,R2,by grind,hx.no h⟩,by grind⟩
 have hkk:k=to.length:=by grind
 subst hkk;exact AxJ hg htn R3 hn h5 ha0 ha1 haa hb0 hb1 hbb hne hx6 e8 e9 hx hxl hy hm
theorem AsN (hf:Pz f) (hml:Ya f) (hg:PW f.Slots.length g Q):Hs (VF f g) λto=>to=AtD f.Slots.length g (Tl f.Code []):=by
 have hlen:=hf.len';have hsl:=hf.slots;obtain⟨mv,hmv0,hmvl,hmv⟩:=ApL hlen;rw[AmG f (by omega)]at hmv0
 cases hmv0;refine Hs.bind (P:=λu=>u=(aAX f.Slots.length).map λi:Nat=>(i:Int)) ?_ λu hu=>?_
 ·refine .chk (by omega) ?_
  refine Hs.loop (λs=>∃ k:Nat,s.2=(k:Int)/\k<=f.Slots.length/\s.1.length=f.Slots.length/\∀ j:Nat,j<k->s.1[j]? =some (j:Int)) (λs=>f.Slots.length-s.2.toNat) ⟨0,rfl,aAD _,by simp,λj hj=>absurd hj (aAH _)⟩ ?_
  rintro⟨u,_⟩ ⟨k,rfl,hk,hul,hu⟩;replace hul:u.length=f.Slots.length:=hul;refine .dec (λhlt=>?_) λhge=>.lft (.pure ?_)
  ·have hlt:k<f.Slots.length:=by simp_all
   refine .chk (by simp_all) ?_
   simp only[aAB];rw[aAA (by omega),aA,OZ (by omega)]
   refine .cnt ⟨⟨k+1,rfl,hlt,by simp[hul],λj hj=>?_⟩,by grind⟩
   grind
  ·have hkk:k=f.Slots.length:=by grind
   subst hkk;show u=_;refine aAi λj=>?_
   grind
 subst hu;rw[Awc f (by omega),aA]
 have hmvs:∀ p∈Tl f.Code [],0<=p.a0/\p.a0<f.Slots.length/\0<=p.a1/\p.a1<f.Slots.length:=λp hp=>by
  obtain⟨x,hx,hop,rfl⟩:=hmv p hp;obtain⟨a0,a1,b0,b1,_⟩:=hml x hx hop;simp_all
 unfold AtD;generalize Tl f.Code []=mv at hmvs hmvl;have hR0:=RS.Atl f.Slots.length;have hi0:((aAX f.Slots.length).map λi:Nat=>(i:Int)).length=f.Slots.length:=by simp
 generalize((aAX f.Slots.length).map λi:Nat=>(i:Int))=id0 at hR0 hi0
 have fl:∀ k,((mv.take k).foldl (SN g) id0).length=f.Slots.length:=by
  intro k;generalize mv.take k=l;clear hR0
  induction l generalizing id0<;>grind [Avr]
 refine Hs.loop (λs=>∃ k:Nat,s.2=(k:Int)/\k<=mv.length/\RS s.1 ((mv.take k).foldl (SN g) id0)) (λs=>mv.length-s.2.toNat) ⟨0,rfl,aAD _,hR0⟩ ?_
 rintro⟨u,_⟩ ⟨k,rfl,hk,hR⟩;replace hR:RS u ((mv.take k).foldl (SN g) id0):=hR;refine .dec (λhlt=>?_) λhge=>.lft ?_
 ·have hlt:k<mv.length:=by omega
  have hgp:mv[k]? =some mv[k]:=aAA _;have htk:mv.take (k+1)=mv.take k++[mv[k]]:=by simp_all
  have hpm:=hmvs _ (aAC hlt);generalize mv[k]=p at hgp htk hpm;have hfs:(mv.take (k+1)).foldl (SN g) id0=SN g ((mv.take k).foldl (SN g) id0) p:=by simp_all
  have hto:=fl k;generalize(mv.take k).foldl (SN g) id0=to at hR hfs hto;have hW:=Aso hR;have hul:=hR.len;obtain⟨a0,a1,b0,b1⟩:=hpm;refine .chk (by omega) ?_
  simp only[aAB,hgp,aA];obtain⟨u1,f1,R1⟩:=Afv hR a0 (by omega)
  obtain⟨u2,f2,R2⟩:=Afv R1 b0 (by omega)
  have l1:=R1.len;refine .chk (by omega) ?_
  rw[f1,aA];refine .chk (by grind) ?_
  rw[f2,aA];have nat:∀ {s:Int},0<=s->s<f.Slots.length->0<=Pf to s/\Pf to s<to.length/\Pf to (Pf to s)=Pf to s:=fun{s} h0 h1=>by
   obtain⟨j,rfl⟩:∃ j:Nat,s=(j:Int):=⟨s.toNat,by omega⟩
   obtain⟨w1,w2,w3⟩:=hW.at_ j (by omega)
   omega
  obtain⟨qa1,qa2,qa3⟩:=nat a0 a1;obtain⟨qb1,qb2,qb3⟩:=nat b0 b1;refine .bne (λhne=>?_) λhe=>?_
  ·refine(AvK (x6:=k) hg (by omega) R2 (by omega) (by omega) qa1 qa2 qa3 qb1 qb2 qb3 hne (by omega) rfl rfl).mono λz ⟨u',h1,h2,h3⟩=>?_
   subst h1;refine⟨⟨k+1,rfl,hlt,?_⟩,by grind⟩
   grind [SY,Asd,Asf]
  ·rw[Ase he]at hfs;rw[OZ (by omega)]
   refine .cnt ⟨⟨k+1,rfl,hlt,?_⟩,by grind⟩
   simp_all
 ·have hkk:k=mv.length:=by omega
  subst hkk;have hto:=fl mv.length;rw[aAK]at hR hto;generalize mv.foldl (SN g) id0=to at hR hto;refine Hs.loop (λs=>∃ k:Nat,s.2.2=(k:Int)/\k<=to.length/\RS s.2.1 to/\s.1=to.take k) (λs=>to.length-s.2.2.toNat) ⟨0,rfl,aAD _,hR,rfl⟩ ?_
  rintro⟨_,u1,_⟩ ⟨k,rfl,hk,R1,rfl⟩;replace R1:RS u1 to:=R1;have l1:=R1.len;have hul:=hR.len;refine .dec (λhlt=>?_) λhge=>.lft (.pure ?_)
  ·have hlt:k<to.length:=by simp_all
   obtain⟨u2,f2,R2⟩:=Afv R1 (s:=(k:Int)) (by omega) (by omega)
   refine .chk (by grind) ?_
   simp only[f2,aA,OZ (show k<9223372036854775807 by omega)]
   refine .chk (by simp;omega) (.cnt ⟨⟨k+1,rfl,hlt,R2,?_⟩,by grind⟩)
   grind [Qn,aAB,aAc]
  ·have hkk:k=to.length:=by grind
   subst hkk;show to.take to.length=to
   grind
end
open Go Go.Dw Go.Proofs
section
variable {n:Nat} {g:List (List Int)} {Q:Nat->Int->Prop} {to:List Int}
theorem Avb (hg:PW n g Q) (htn:to.length=n) (hl:n<=500) (a b:Int):Hs (Ajw g to a b) λr=>(r=true↔SY g to a b):=by
 refine(AhF (by omega) a).bind λxs hx=>(AhF (by omega) b).bind λys hy=>?_
 have hap:=AnB hg htn (xs:=xs) (ys:=ys) hx.2 hy.2;refine Hs.loop (λi=>∃ k:Nat,i=(k:Int)/\k<=xs.length/\∀ x∈xs.take k,∀ row,g[x.toNat]? =some row->∀ y∈ys,y∉row) (λi=>xs.length-i.toNat) ⟨0,rfl,aAD _,λx h=>by simp at h⟩ ?_
 rintro _ ⟨k,rfl,hk,hall⟩;refine .dec (λhlt=>?_) λhge=>.lft (.pure ⟨λ_=>hap.2 ?_,λ_=>rfl⟩)
 rotate_left
 ·grind
 have hlt:k<xs.length:=by omega
 have hgx:xs[k]? =some xs[k]:=aAA _;have hxm:=aAC hlt;have htk:xs.take (k+1)=xs.take k++[xs[k]]:=by simp_all
 generalize xs[k]=x at hgx hxm htk;obtain⟨jx,hjx,rfl,_⟩:=(hx.2 x).1 hxm;have hgl:=hg.1;have hrow:g[jx]? =some (g[jx]'(by omega)):=aAA _
 generalize g[jx]'(by omega)=row at hrow
 have hset:=(hg.2 jx row hrow).1;have hrl:=hset.1.length_le;refine Hs.loop (λi=>∃ m:Nat,i=(m:Int)/\m<=ys.length/\∀ y∈ys.take m,y∉row) (λi=>ys.length-i.toNat) ⟨0,rfl,aAD _,λx h=>by simp at h⟩ ?_
 rintro _ ⟨m,rfl,hm,hno⟩;refine .dec (λhlt2=>?_) λhge2=>.lft ?_
 ·have hlt2:m<ys.length:=by omega
  have hgy:ys[m]? =some ys[m]:=aAA _;have hym:=aAC hlt2;have htm:ys.take (m+1)=ys.take m++[ys[m]]:=by simp_all
  generalize ys[m]=y at hgy htm hym;refine .chk (by omega) ?_
  simp only[aAB,hgx,aA,Pr,hrow];refine .chk (by omega) ?_
  rw[hgy,aA,Zk _ _ (by omega),aA,OZ (by omega)]
  refine .dec (λh=>.lft (.lft (.pure ⟨λh=>(by cases h),λhA=>(hap.1 hA _ hxm row (by simp_all) y hym h).elim⟩))) λh=>.cnt ⟨⟨m+1,rfl,hlt2,λz hz=>?_⟩,by grind⟩
  grind
 ·have hmm:m=ys.length:=by omega
  subst hmm;rw[aAK]at hno;unfold AfO;rw[OZ (by omega)]
  refine .cnt ⟨⟨k+1,rfl,hlt,λz hz row' hr y hy'=>?_⟩,by grind⟩
  grind [aAB]
theorem Aof (a b:Int):RU a b=min a b:=by grind [RU]
theorem AsP (hf:Pz f) (hml:Ya f) (hg:PW f.Slots.length g Q):Hs (TQ f g) λto=>to=AtD f.Slots.length g (Tl f.Code []):=by
 have hlen:=hf.len';have hsl:=hf.slots;obtain⟨mv,hmv0,hmvl,hmv⟩:=ApL hlen;rw[AmG f (by omega)]at hmv0
 cases hmv0;unfold TQ;refine Hs.loop (λs=>∃ k:Nat,s.2=(k:Int)/\k<=f.Slots.length/\s.1=(aAX k).map λi:Nat=>(i:Int)) (λs=>f.Slots.length-s.2.toNat) ⟨0,rfl,aAD _,rfl⟩ ?_
 rintro⟨_,_⟩ ⟨k,rfl,hk,rfl⟩;unfold Ais;refine .dec (λhlt=>?_) λhge=>.lft ?_
 ·have hlt:k<f.Slots.length:=by omega
  refine .chk (by simp;omega) ?_
  rw[OZ (by omega)]
  refine .cnt ⟨⟨k+1,rfl,hlt,?_⟩,by grind⟩
  grind [List.range_succ]
 have hkk:k=f.Slots.length:=by omega
 subst hkk;have hmvs:∀ p∈Tl f.Code [],0<=p.a0/\p.a0<f.Slots.length/\0<=p.a1/\p.a1<f.Slots.length:=λp hp=>by
  obtain⟨x,hx,hop,rfl⟩:=hmv p hp;obtain⟨a0,a1,b0,b1,_⟩:=hml x hx hop;simp_all
 rw[AmG f (by omega),aA]
 unfold AtD;generalize Tl f.Code []=mv at hmvs hmvl;have hW0:Whole f.Slots.length ((aAX f.Slots.length).map λi:Nat=>(i:Int)):=by
  have:=Aso (RS.Atl f.Slots.length);simp_all
 generalize((aAX f.Slots.length).map λi:Nat=>(i:Int))=id0 at hW0
 refine Hs.loop (λs=>∃ k:Nat,s.2=(k:Int)/\k<=mv.length/\s.1=(mv.take k).foldl (SN g) id0/\Whole f.Slots.length s.1) (λs=>mv.length-s.2.toNat) ⟨0,rfl,aAD _,rfl,hW0⟩ ?_
 rintro⟨to,_⟩ ⟨k,rfl,hk,hto,hW⟩;replace hto:to=(mv.take k).foldl (SN g) id0:=hto;replace hW:Whole f.Slots.length to:=hW;have htl:=hW.len;unfold Adm;refine .dec (λhlt=>?_) λhge=>.lft (.pure ?_)
 rotate_left
 ·have hkk:k=mv.length:=by omega
  subst hkk;rw[aAK]at hto;exact hto
 have hlt:k<mv.length:=by omega
 have hgp:mv[k]? =some mv[k]:=aAA _;have htk:mv.take (k+1)=mv.take k++[mv[k]]:=by simp_all
 have hpm:=hmvs _ (aAC hlt);generalize mv[k]=p at hgp htk hpm;have hfs:(mv.take (k+1)).foldl (SN g) id0=SN g to p:=by simp_all
 obtain⟨a0,a1,b0,b1⟩:=hpm;have hA:=Qn (to:=to) (s:=p.a0) a0 (by omega)
 have hB:=Qn (to:=to) (s:=p.a1) b0 (by omega)
 simp only[aAB,hgp,aA,hA,hB];have skip:SN g to p=to->Hs (RH (k:Int) to) (Rnd (λs:List Int×Int=>∃ k:Nat,s.2=(k:Int)/\k<=mv.length/\s.1=(mv.take k).foldl (SN g) id0/\Whole f.Slots.length s.1) (λs=>mv.length-s.2.toNat) (to,(k:Int)) λt=>t=mv.foldl (SN g) id0):=λh=>by
  unfold RH;rw[OZ (by omega)]
  exact .cnt ⟨⟨k+1,rfl,hlt,by rw[hfs,h],hW⟩,by grind⟩
 refine .chk (by omega) (.chk (by omega) (.chk (by omega) (.chk (by omega) (.beq (λh=>skip (Ase h)) λhne=>?_))))
 refine(Avb hg htl hsl (Pf to p.a0) (Pf to p.a1)).bind λr hr=>.cond (λh=>skip (Asf λhA=>by simp_all)) λhrt=>?_
 have hap:=hr.1 (by simp_all)
 have hst:=Asd hne hap;have nat:∀ {s:Int},0<=s->s<f.Slots.length->0<=Pf to s/\Pf to s<to.length/\Pf to (Pf to s)=Pf to s:=fun{s} h0 h1=>by
  obtain⟨j,rfl⟩:∃ j:Nat,s=(j:Int):=⟨s.toNat,by omega⟩
  obtain⟨w1,w2,w3⟩:=hW.at_ j (by omega)
  omega
 obtain⟨qa1,qa2,qa3⟩:=nat a0 a1;obtain⟨qb1,qb2,qb3⟩:=nat b0 b1;rw[hst]at hfs;generalize Pf to p.a0=a at *;generalize Pf to p.a1=b at *;unfold Ado;refine Hs.loop (λs=>∃ k:Nat,s.2=(k:Int)/\k<=to.length/\s.1.length=to.length/\∀ j:Nat,j<to.length->Pf s.1 j=if j<k then QB a b (Pf to j)else Pf to j) (λs=>to.length-s.2.toNat) ⟨0,rfl,aAD _,rfl,λj _=>(by simp)⟩ ?_
 rintro⟨t2,_⟩ ⟨m,rfl,hm,h2l,h2⟩;replace h2l:t2.length=to.length:=h2l;replace h2:∀ j:Nat,j<to.length->Pf t2 j=if j<m then QB a b (Pf to j)else Pf to j:=h2
 unfold Adn;refine .dec (λhlt2=>?_) λhge2=>.lft ?_
 ·have hlt2:m<to.length:=by simp_all
  have hgk:=Qn (to:=t2) (s:=(m:Int)) (by omega) (by omega)
  rw[h2 m hlt2,if_neg (Nat.lt_irrefl _)]at hgk;refine .chk (by omega) ?_
  rw[hgk,aA];have fin:∀ q:Bool,(q=true↔Pf to m=a\/Pf to m=b)->Hs (Un (m:Int) t2 a b q) (Rnd (λs:List Int×Int=>∃ k:Nat,s.2=(k:Int)/\k<=to.length/\s.1.length=to.length/\∀ j:Nat,j<to.length->Pf s.1 j=if j<k then QB a b (Pf to j)else Pf to j) (λs=>to.length-s.2.toNat) (t2,(m:Int)) (Rnd (λs:List Int×Int=>∃ k:Nat,s.2=(k:Int)/\k<=mv.length/\s.1=(mv.take k).foldl (SN g) id0/\Whole f.Slots.length s.1) (λs=>mv.length-s.2.toNat) (to,(k:Int)) λt=>t=mv.foldl (SN g) id0)):=by
   intro q hq;unfold Un;rw[OZ (by omega)]
   refine .cond (λh=>.chk (by omega) ?_) λh=>.cnt ⟨⟨m+1,rfl,hlt2,h2l,λj hj=>?_⟩,by grind⟩
   ·rw[hgk,aA];refine .cnt ⟨⟨m+1,rfl,hlt2,by simp[h2l],λj hj=>?_⟩,by grind⟩
    show Pf (t2.set ((m:Nat):Int).toNat (RU a b)) j=_
    by_cases e:j=m
    ·simp_all[Pf,QB]
    ·have:=h2 j hj;simp only[Pf,aAB]at this ⊢
     grind
   ·show Pf t2 j=_;rw[h2 j hj]
    by_cases e:j=m
    ·simp_all[QB]
    omega
  refine .beq (λh=>fin true ⟨λ_=>.inl h,λ_=>rfl⟩) λh=>.chk (by omega) ?_
  rw[aA];exact fin _ ⟨λh'=>.inr (by simp_all),λh'=>by simp_all⟩
 ·have hkk:m=to.length:=by grind
  subst hkk;have e:t2=XT to a b:=by
   refine aAi λj=>?_
   by_cases hj:j<to.length
   ·have:=h2 j hj;rw[if_pos hj]at this;have g1:=Qn (to:=t2) (s:=(j:Int)) (by omega) (by omega)
    have g2:=Qn (to:=to) (s:=(j:Int)) (by omega) (by omega)
    simp_all[AiK,QB,Aof]
   grind [ApU]
  unfold RH;rw[OZ (by omega)]
  refine .cnt ⟨⟨k+1,rfl,hlt,by simp_all,?_⟩,by simp only;omega⟩
  show Whole _ t2;refine⟨by omega,λs hs=>?_⟩
  obtain⟨w1,w2,w3⟩:=hW.at_ s hs;have key:∀ j:Int,0<=j->j<to.length->Pf t2 j=QB a b (Pf to j):=λj h0 h1=>by
   have:=h2 j.toNat (by omega)
   rw[if_pos (by omega)]at this
   rw[show((j.toNat:Nat):Int)=j by omega]at this
   exact this
  rw[key s (by omega) (by omega)]
  have jm:QB a b (min a b)=min a b:=by
   unfold QB;rw[if_pos (by omega),Aof]
  by_cases ec:Pf to s=a\/Pf to s=b
  ·have ej:QB a b (Pf to s)=min a b:=by unfold QB;rw[if_pos ec,Aof]
   rw[ej,key _ (by omega) (by omega)]
   have:Pf to (min a b)=min a b:=by
    rcases Int.le_total a b with h|h
    ·rw[Int.min_eq_left h];exact qa3
    ·rw[Int.min_eq_right h];exact qb3
   rw[this,jm];exact⟨by omega,by omega,rfl⟩
  ·have ej:QB a b (Pf to s)=Pf to s:=by unfold QB;rw[if_neg ec]
   rw[ej,key _ w1 (by omega),w3,ej]
   exact⟨w1,w2,rfl⟩
theorem AqZ (hf:Pz f) (hml:Ya f) (hg:PW f.Slots.length g Q):∃ to,VF f g=some to/\TQ f g=some to:=by
 obtain⟨a,h1,rfl⟩:=AsN hf hml hg;obtain⟨b,k1,rfl⟩:=AsP hf hml hg;simp_all
end
open Go Go.Dw Go.Proofs
def QP (a:OX):Prop:=0<=a.Off/\a.Off<=2147483647/\0<=a.Size/\a.Size<=2147483647/\a.Off+a.Size<=2147483647
def WI (a b:OX):Prop:=QP a/\QP b/\0<a.Size/\0<b.Size/\a.Off<b.Off+b.Size/\b.Off<a.Off+a.Size
def InI (a:OX) (n:Int):Prop:=QP a/\a.Off+a.Size<=n
instance (a:OX):Decidable (QP a):=by unfold QP;infer_instance
instance (a b:OX):Decidable (WI a b):=by unfold WI;infer_instance
instance (a:OX) (n:Int):Decidable (InI a n):=by unfold InI;infer_instance
theorem Zf (a:OX):SW a=some (decide (QP a)):=by
 unfold SW;simp only[Aam,aA]
 by_cases h1:0<=a.Off/\a.Off<=2147483647
 ·rw[decide_eq_true h1,cond_true]
  by_cases h2:0<=a.Size/\a.Size<=2147483647
  ·rw[decide_eq_true h2,cond_true,wrap64 (by omega) (by omega)]
   simp_all[QP]
  ·rw[decide_eq_false h2,cond_false,decide_eq_false (λh=>h2 ⟨h.2.2.1,h.2.2.2.1⟩)]
 ·rw[decide_eq_false h1,cond_false,decide_eq_false (λh=>h1 ⟨h.1,h.2.1⟩)]
theorem AhA {m:Nat} (hm:m<=24):Rj ((2 ^ m:Nat):Int)=some true:=by
 have:Hs (Rj ((2 ^ m:Nat):Int)) λb=>b=true:=by
  unfold Rj;have hp:2 ^ m<=2 ^ 24:=aAJ (by omega) hm
  refine Hs.loop (λk=>∃ j:Nat,k=((2 ^ j:Nat):Int)/\j<=m) (λk=>2 ^ m-k.toNat) ⟨0,rfl,aAD _⟩ ?_
  rintro _ ⟨j,rfl,hj⟩;have hjp:2 ^ j<=2 ^ m:=aAJ (by omega) hj
  have hj0:0<2 ^ j:=aAe j;unfold RO;refine .dec (λ_=>.beq (λ_=>.lft (.pure rfl)) λhne=>?_) λh=>(h (by omega)).elim
  have hlt:j<m:=by
   grind
  have h2:2 ^ (j+1)<=2 ^ m:=aAJ (by omega) hlt
  have h3:2 ^ (j+1)=2 ^ j*2:=Nat.pow_succ 2 j;refine .cnt ⟨⟨j+1,?_,hlt⟩,?_⟩
  all_goals grind [wrap64]
 obtain⟨r,h,rfl⟩:=this;exact h
def upN (n a:Int):Int:=n+(-n) % a
theorem Rp {n:Int} (ha:0<a):n<=upN n a/\upN n a<n+a/\upN n a % a=0:=by
 have h1:=aAo (-n) (show a≠0 by omega)
 have h2:=aAg (-n) ha;refine⟨by grind [upN],by grind [upN],?_⟩
 unfold upN;rw[Int.emod_def (-n) a]
 grind [Int.mul_neg,Int.mul_emod_right]
def Tb (a:Int):Prop:=∃ m:Nat,m<=24/\a=((2 ^ m:Nat):Int)
theorem Tb.rng (h:Tb a):1<=a/\a<=16777216:=by
 obtain⟨m,hm,rfl⟩:=h;have hp:2 ^ m<=2 ^ 24:=aAJ (by omega) hm
 grind
theorem Aki {n:Int} (h0:0<=n) (h1:n<=1000000000) (ha:Tb a):AaS n a=some (upN n a,0):=by
 obtain⟨a1,a2⟩:=ha.rng;obtain⟨m,hm,rfl⟩:=ha;unfold AaS;rw[Aam,aA,decide_eq_true (show 0<=n/\n<=2147483647 by omega)]
 simp only[aAT,cond_false,AhA hm,aA];generalize((2 ^ m:Nat):Int)=a at *;unfold Agc Acn;have ht:n.tmod a=n % a:=aAh h0;have e1:=aAo n (show a≠0 by omega)
 have e2:=aAg n (show 0<a by omega)
 have e3:=aAo (-n) (show a≠0 by omega)
 have e4:=aAg (-n) (show 0<a by omega)
 rw[PN (by omega),ht]
 have key:(n % a=0->upN n a=n)/\(n % a≠0->upN n a=n-n % a+a):=by
  unfold upN;constructor
  ·simp_all[Int.emod_eq_zero_of_dvd,aAS]
  ·intro h;have hs:(n % a+(-n) % a) % a=0:=by
    rw[Int.emod_def n a,Int.emod_def (-n) a];have:n-a*(n / a)+(-n-a*(-n / a))=a*(-(n / a)+ -(-n / a)):=by grind
    simp_all
   have hq:n % a+(-n) % a=a:=by
    obtain⟨q,hq⟩:=aAS hs;have q1:0<q:=by
     rcases aAa 0 q with h|h
     ·exact h
     ·have:=aAN h (show 0<=a by omega)
      omega
    have q2:q<2:=by
     rcases aAa q 2 with h|h
     ·exact h
     ·have:=aAN h (show 0<=a by omega)
      omega
    grind
   omega
 by_cases h:n % a=0
 ·grind
 ·have:=key.2 h;rw[show(n % a != 0)=true by simp_all,cond_true,PN (by omega),wrap64 (n:=n-n % a) (by omega) (by omega),wrap64 (by omega) (by omega),<- this,decide_eq_false (by omega),cond_false]
theorem AoQ (a b:OX):WC a b=some (decide (WI a b)):=by
 unfold WC;simp only[Zf,aA]
 by_cases h1:QP a
 ·by_cases h2:QP b
  ·have e1:IntKind.i64.wrap (b.Off+b.Size)=b.Off+b.Size:=by grind [QP,wrap64]
   have e2:IntKind.i64.wrap (a.Off+a.Size)=a.Off+a.Size:=by grind [QP,wrap64]
   simp only[h1,h2,decide_true,cond_true,e1,e2,WI,true_and]
   grind
  grind [WI]
 grind [WI]
def rowAt (g:List (List Int)) (y:Int):List Int:=(g[y.toNat]?).getD []
def Ahu (n:Int) (x:Nat) (s:List Int):Prop:=PV s/\(∀ y∈s,y<n)/\(x:Int)∉s
def Sn (g:List (List Int)) (n:Int):Prop:=(g.length:Int)=n/\(∀ (x:Nat) s,g[x]? =some s->Ahu n x s)/\∀ (x:Nat) s,g[x]? =some s->∀ y∈s,(x:Int)∈rowAt g y
attribute [local simp] PN aAl
section
variable {g:List (List Int)} {n:Int}
theorem Ayr (hn:(g.length:Int)=n) (hg:g.length<=1000) (hq:∀ s∈g,s.length<=9223372036854775807) {x:Nat} {row:List Int} (hx:g[x]? =some row) (hset:PV row) (a b:List Int) (d:Bool) :
  ∃ r,AfJ g (x:Int) n a b d=some r/\((∀ y∈row,y<n/\(x:Int)∈rowAt g y)/\r= .inl ((x+1:Nat):Int)\/(¬ ∀ y∈row,y<n/\(x:Int)∈rowAt g y)/\r= .inr false):=by
 have hxl:=(aAE.1 hx).1;have hlen:=hset.length_le;have wx:=OZ (show x<9223372036854775807 by omega)
 unfold AfJ
 open Classical in
 have:=Rf (body:=λs=>Yz g (x:Int) n a b d s) row (λ(_:Unit) i=>i) (λ_ _=>True) (λ_ l=>some (if ∀ y∈l,y<n/\(x:Int)∈rowAt g y then(.inl ((x+1:Nat):Int):Int⊕Bool)else .inr false))
  (λ_ _=>⟨.inl ((x+1:Nat):Int),by simp_all[Yz,Akc],by simp⟩) (λ_ i y r _ hd hi hy=>by
   have hym:y∈row:=aAG hy;have h0:=hset.2 y hym;have w:=OZ (show i<9223372036854775807 by omega)
   by_cases hyn:y<n
   ·have hyl:y.toNat<g.length:=by omega
    have hgy:g[y.toNat]? =some g[y.toNat]:=aAA hyl;have hs:=hq _ (aAC hyl);have hra:rowAt g y=g[y.toNat]:=by grind [rowAt]
    by_cases hin:(x:Int)∈g[y.toNat]
    all_goals simp_all[Yz,Qt,Zk]
   ·refine .inr ⟨.inr false,?_,?_⟩
    ·simp_all[Yz]
    ·simp[hyn]) () trivial
 grind
theorem Aqb (hg:g.length<=1000) (hq:∀ s∈g,s.length<=9223372036854775807):∃ b,Aju g n=some b/\(b=true↔Sn g n):=by
 unfold Aju
 by_cases hn:(g.length:Int)=n
 ·simp only[hn,bne_self_eq_false,cond_false];refine Agp (body:=λs=>Su n g s) (s:=0) (λs=>∃ x:Nat,s=(x:Int)/\x<=g.length/\∀ (k:Nat) s,k<x->g[k]? =some s->Ahu n k s/\∀ y∈s,(k:Int)∈rowAt g y)
   (λb=>b=true↔Sn g n) (λs=>g.length-s.toNat) ⟨0,rfl,aAD _,λk s hk=>absurd hk (aAH _)⟩ (λs hI=>?_)
  obtain⟨x,rfl,hx,hall⟩:=hI
  by_cases hlt:x<g.length
  ·have hgx:g[x]? =some g[x]:=aAA hlt;have hxn:(x:Int)<n:=by omega
   have hl:=hq _ (aAC hlt);have bad:¬ (Ahu n x g[x]/\∀ y∈g[x],(x:Int)∈rowAt g y)->Su n g x=some (.inr false)->(∃ r,Su n g x=some (.inr r)/\(r=true↔Sn g n)):=λh1 h2=>⟨false,h2,λh=>(by cases h),λh=>(h1 ⟨h.2.1 x _ hgx,h.2.2 x _ hgx⟩).elim⟩
   by_cases hset:PV g[x]
   ·have hb:TS none g[x]=true:=(AdC _).2 hset
    by_cases hc:(x:Int)∈g[x]
    ·exact .inr (bad (λh=>h.1.2.2 hc) (by simp_all[Su,AhS,Zk]))
    ·obtain⟨r,h1,⟨h2,rfl⟩|⟨h2,rfl⟩⟩:=Ayr hn hg hq hgx hset g[x] g[x] false
     ·refine .inl ⟨((x+1:Nat):Int),by simp_all[Su,AhS,Zk],⟨x+1,rfl,hlt,λk s hk hks=>?_⟩,by omega⟩
      by_cases hkx:k=x
      ·subst hkx;rw[hgx]at hks;cases hks;exact⟨⟨hset,λy hy=>(h2 y hy).1,hc⟩,λy hy=>(h2 y hy).2⟩
      grind
     ·exact .inr (bad (λh=>h2 λy hy=>⟨h.1.2.1 y hy,h.2 y hy⟩) (by simp_all[Su,AhS,Zk]))
   ·have hb:TS none g[x]=false:=by
     grind [AdC]
    exact .inr (bad (λh=>hset h.1.1) (by simp_all[Su,AhS]))
  ·right;have hxn:¬ (x:Int)<n:=by omega
   refine⟨true,by simp[Su,hxn],λ_=>?_,λ_=>rfl⟩
   exact⟨hn,λk s hks=>(hall k s (by grind) hks).1,λk s hks=>(hall k s (by grind) hks).2⟩
 ·refine⟨false,by simp[hn],λh=>(by cases h),λh=>(hn h.1).elim⟩
end
open Go Go.Dw Go.Proofs
theorem WI.symm {a b:OX} (h:WI a b):WI b a:=⟨h.2.1,h.1,h.2.2.2.1,h.2.2.1,h.2.2.2.2.2,h.2.2.2.2.1⟩
theorem Ata (l:List OX) (hl:l.length<=1000000) (x:OX):Hs (AkS l x) λb=>b=true↔∀ u∈l,¬ WI u x:=by
 unfold AkS;refine Hs.loop (λi=>∃ k:Nat,i=(k:Int)/\k<=l.length/\∀ u∈l.take k,¬ WI u x) (λi=>l.length-i.toNat) ⟨0,rfl,aAD _,λu hu=>by simp at hu⟩ ?_
 rintro _ ⟨k,rfl,hk,hno⟩;unfold Alm;refine .dec (λhlt=>?_) λhge=>.lft (.pure ⟨λ_ u hu=>hno u (by grind),λ_=>rfl⟩)
 have hlt:k<l.length:=by omega
 rw[Pr,aAA hlt,aA,AoQ,aA];refine .dec (λh=>.lft (.pure ⟨λh=>(by cases h),λh'=>(h' _ (aAC hlt) h).elim⟩)) λh=>?_
 rw[OZ (by omega)]
 refine .cnt ⟨⟨k+1,rfl,hlt,λu hu=>?_⟩,by grind⟩
 grind [aAc]
theorem Auo:∀ l:List OX,l=[]\/∃ (k:Nat) (x:OX),l[k]? =some x/\∀ u∈l,u.Off+u.Size<=x.Off+x.Size
 | []=>.inl rfl
 | a::l=>by
  refine .inr ?_;rcases Auo l with rfl|⟨k,x,hk,hx⟩
  ·exact⟨0,a,rfl,λu hu=>by simp_all⟩
  ·by_cases h:a.Off+a.Size<=x.Off+x.Size
   ·exact⟨k+1,x,hk,λu hu=>(aAd.1 hu).elim (λe=>e▸h) (hx u)⟩
   ·refine⟨0,a,rfl,λu hu=>?_⟩
    grind
def Fits (l:List OX) (frm size align M b:Int):Prop:=frm<=b/\b<=M+63/\b.tmod align=0/\∀ u∈l,¬ WI u ⟨b,size⟩
theorem AxZ {align M:Int} (hl:l.length<=1000) (hM:M<=100000) (hf:0<=frm/\frm<=M) (hs:1<=size/\size<=16) (ha:Tb align) (ha':align<=64) (hu:∀ u∈l,QP u/\u.Off+u.Size<=M) :
  Hs (AaQ l frm size align) λr=>r.2=0/\Fits l frm size align M r.1:=by
 have ep:Rj align=some true:=by obtain⟨m,hm,rfl⟩:=ha;exact AhA hm
 have har:=ha.rng;obtain⟨m,hm0,hm1,hmx⟩:∃ m:Int,-1<=m/\m<l.length/\∀ c:Int,((0<=m/\∃ x,l[m.toNat]? =some x/\c=PH frm (x.Off+x.Size))\/(m<0/\c=frm))->∀ u∈l,u.Off+u.Size<=c:=by
  rcases Auo l with rfl|⟨k,x,hk,hx⟩
  ·exact⟨-1,by omega,by simp,λc _ u hu=>by cases hu⟩
  ·have hkl:=(aAE.1 hk).1;refine⟨(k:Int),by omega,by omega,λc hc u hu=>?_⟩
   grind [PH]
 unfold AaQ;simp only[Aam,aA,ep];rw[decide_eq_true (p:=0<=frm/\frm<=2147483647) (by omega),decide_eq_true (p:=0<=size/\size<=2147483647) (by omega)]
 refine Hs.loop (λi=>∃ k:Nat,i=(k:Int)/\k<=l.length) (λi=>l.length-i.toNat) ⟨0,rfl,aAD _⟩ ?_
 rintro _ ⟨k,rfl,hk⟩;refine .dec (λhlt=>?_) λ_=>.lft ?_
 ·have hlt:k<l.length:=by omega
  rw[Pr,aAA hlt,aA,Zf,aA,decide_eq_true (hu _ (aAC hlt)).1];rw[OZ (by omega)]
  exact .cnt ⟨⟨k+1,rfl,by omega⟩,by grind⟩
 refine Hs.loop (λs=>-1<=s.2.2/\s.2.2<=l.length/\(s.2.1=true->Fits l frm size align M s.1)/\(s.2.1=true\/s.2.2<=m)) (λs=>((l.length:Int)-s.2.2).toNat) ⟨by simp,by simp_all,λh=>(by cases h),.inr hm0⟩ ?_
 rintro⟨best,found,i⟩ ⟨h0,h1,h2,h3⟩;replace h0: -1<=i:=h0;replace h3:found=true\/i<=m:=h3;have j4:∀ c:Int,i<l.length->frm<=c->c<=M->(i=m->∀ u∈l,u.Off+u.Size<=c)->Hs (Yw align size l found i best c) (Rnd (λs:Int×Bool×Int=>-1<=s.2.2/\s.2.2<=l.length/\(s.2.1=true->Fits l frm size align M s.1)/\(s.2.1=true\/s.2.2<=m)) (λs=>((l.length:Int)-s.2.2).toNat) (best,found,i) λr=>r.2=0/\Fits l frm size align M r.1):=by
  intro c hi c0 c1 hc;unfold Yw;have w:IntKind.i64.wrap (i+1)=i+1:=wrap64 (by omega) (by omega)
  obtain⟨u1,u2,u3⟩:=Rp (n:=c) (a:=align) (by omega)
  rw[w,Aki (by omega) (by omega) ha,aA]
  have hR:QP ⟨upN c align,size⟩:=by refine⟨?_,?_,?_,?_,?_⟩<;>simp only<;>omega
  rw[Zf,aA,decide_eq_true hR,cond_true];have ht:(upN c align).tmod align=0:=by grind
  have fin:∀ (a:Int) (b:Bool),(b=true->Fits l frm size align M a)->(b=true\/i+1<=m)->Hs (cnt (a,b,i+1):Option ((Int×Bool×Int)⊕(Int×Int))) (Rnd (λs:Int×Bool×Int=>-1<=s.2.2/\s.2.2<=l.length/\(s.2.1=true->Fits l frm size align M s.1)/\(s.2.1=true\/s.2.2<=m)) (λs=>((l.length:Int)-s.2.2).toNat) (best,found,i) λr=>r.2=0/\Fits l frm size align M r.1):=λa b g1 g2=>.cnt ⟨⟨by grind,by grind,g1,g2⟩,by grind⟩
  refine(Ata l (by omega) _).bind λb hb=>.cond (λhb'=>?_) λhb'=>?_
  ·have hG:Fits l frm size align M (upN c align):=⟨by omega,by omega,ht,hb.1 hb'⟩
   grind
  ·refine fin _ _ h2 ?_;rcases h3 with h3|h3
   ·simp_all
   ·by_cases e:i=m
    ·have:b=true:=hb.2 λu hu' ho=>by
      have h5:=hc e u hu';have h6:=ho.2.2.2.2.2
      grind
     simp_all
    ·omega
 refine .dec (λhlt=>.dec (λhge=>?_) λhge=>?_) λhge=>.lft ?_
 ·have hge:0<=i:=hge;have hlt:i<l.length:=hlt;have hin:i.toNat<l.length:=by omega
  have hx:l[i.toNat]? =some (l[i.toNat]'hin):=aAA _;have hxu:=hu _ (aAC hin);generalize(l[i.toNat]'hin)=x at hx hxu;obtain⟨x1,x2,x3,x4,x5⟩:=hxu.1;rw[Qt _ hge,hx,aA,aA,wrap64 (by omega) (by omega)]
  refine j4 _ hlt (by grind [PH]) (by grind [PH]) λe u hu'=>hmx _ (.inl ⟨by omega,x,by simp_all,rfl⟩) u hu'
 ·have hge:¬ 0<=i:=hge;exact j4 _ hlt (by omega) (by omega) λe u hu'=>hmx _ (.inr ⟨by omega,rfl⟩) u hu'
 ·have hft:found=true:=by
   grind
  subst hft;exact .pure ⟨rfl,h2 rfl⟩
theorem AuU (s:List Pb) (hs:s.length<=1000):Hs (Agh s) λout=>out.length=s.length/\(∀ v∈out,0<=v/\v<s.length)/\∀ j:Nat,j<s.length->(j:Int)∈out:=by
 refine Hs.loop (λq=>∃ k:Nat,q.2=(k:Int)/\k<=s.length/\q.1.length=k/\(∀ v∈q.1,0<=v/\v<s.length)/\∀ j:Nat,j<k->(j:Int)∈q.1) (λq=>s.length-q.2.toNat) ⟨0,rfl,aAD _,rfl,λv hv=>(by cases hv),λj hj=>absurd hj (aAH _)⟩ ?_
 rintro⟨out,_⟩ ⟨k,rfl,hk,hol,hov,hoa⟩;replace hol:out.length=k:=hol;replace hov:∀ v∈out,0<=v/\v<s.length:=hov;dsimp only;refine .dec (λhlt=>?_) λhge=>.lft (.pure ⟨by omega,hov,λj hj=>hoa j (by omega)⟩)
 have hlt:k<s.length:=by omega
 have j3:∀ m:Int,0<=m->m<=out.length->Hs (VB out (k:Int) m) (Rnd (λq:List Int×Int=>∃ k:Nat,q.2=(k:Int)/\k<=s.length/\q.1.length=k/\(∀ v∈q.1,0<=v/\v<s.length)/\∀ j:Nat,j<k->(j:Int)∈q.1) (λq=>s.length-q.2.toNat) (out,(k:Int)) (λout=>out.length=s.length/\(∀ v∈out,0<=v/\v<s.length)/\∀ j:Nat,j<s.length->(j:Int)∈out)):=by
  intro m h0 h1;unfold VB;refine .chk ⟨h0,h1⟩ (.chk (by simp;omega) (.chk (by simp;omega) (.chk ⟨h0,h1⟩ (.chk (by simp;omega) ?_))))
  unfold AfR;rw[OZ (by omega)]
  refine .cnt ⟨⟨k+1,rfl,hlt,by simp;omega,λv hv=>?_,λj hj=>?_⟩,by grind⟩
  all_goals grind [aAV]
 refine Hs.loop (λm=>0<=m/\m<=out.length) (λm=>m.toNat) ⟨by omega,by omega⟩ ?_
 rintro m ⟨h0,h1⟩;refine .dec (λhp=>?_) λ_=>.lft (j3 m h0 h1)
 rw[wrap64 (n:=m-1) (by omega) (by omega)]
 exact(Hs.ix (P:=λ_=>True) (by omega) (by omega) λ_ _=>trivial).bind λx _=>.chk (by omega) ((Hs.get (by omega) (by omega) λv hv=>hov v (aAG hv)).bind λv hv=>(Hs.ix (P:=λ_=>True) hv.1 hv.2 λ_ _=>trivial).bind λy _=>(Auq x y).bind λb _=>.cond (λ_=>.cnt ⟨⟨by omega,by omega⟩,by grind⟩) λ_=>.lft (j3 m h0 h1))
theorem QP.wrap {a:OX} (h:QP a):IntKind.i64.wrap (a.Off+a.Size)=a.Off+a.Size:=by
 grind [QP,wrap64]
theorem AuN (a:OX) (n:Int):AaR a n=some (decide (InI a n)):=by
 unfold AaR;rw[Zf,aA]
 by_cases h:QP a
 ·rw[decide_eq_true h,cond_true,h.wrap];simp[InI,h]
 simp_all[InI]
theorem Xs (m:Nat) (hm:m<=24):Tb ((2 ^ m:Nat):Int):=⟨m,hm,rfl⟩
theorem TZ.al {s:Pb} (h:TZ s):Tb s.Align/\s.Align<=64/\1<=s.Size/\s.Size<=16:=by
 obtain⟨h1,h2⟩:=h;have ha:Tb s.Align/\s.Align<=64:=by
  simp only[aAd,List.not_mem_nil,or_false]at h2;rcases h2 with h|h|h|h|h|h|h|h<;>rw[h]
  ·exact⟨Xs 3 (by omega),by omega⟩
  ·exact⟨Xs 2 (by omega),by omega⟩
  ·exact⟨Xs 0 (by omega),by omega⟩
  ·exact⟨Xs 3 (by omega),by omega⟩
  ·exact⟨Xs 4 (by omega),by omega⟩
  ·exact⟨Xs 1 (by omega),by omega⟩
  ·exact⟨Xs 5 (by omega),by omega⟩
  ·exact⟨Xs 6 (by omega),by omega⟩
 grind
theorem AmI (h:∀ x∈s,TZ x) (hl:s.length<=512):Hs (Uv s) λe=>e=0:=by
 unfold Uv;rw[decide_eq_false (by omega),cond_false]
 refine Hs.loop (λi=>∃ k:Nat,i=(k:Int)/\k<=s.length) (λi=>s.length-i.toNat) ⟨0,rfl,aAD _⟩ ?_
 rintro _ ⟨k,rfl,hk⟩;refine .dec (λhlt=>?_) λ_=>.lft (.pure rfl)
 have hlt:k<s.length:=by omega
 have hx:=h _ (aAC hlt);rw[Pr,aAA hlt];generalize s[k]=x at hx;have e1:TC x.Size=some true:=by
  have:=hx.1;simp only[aAd,List.not_mem_nil,or_false]at this
  grind [TC]
 have e2:Rj x.Align=some true:=by
  obtain⟨m,hm,e⟩:=hx.al.1
  grind [AhA]
 simp only[aA,e1,e2,aAT,cond_false];rw[OZ (by omega)]
 exact .cnt ⟨⟨k+1,rfl,by omega⟩,by grind⟩
def Ud (p:Ph) (n:Int) (x:OT):Int:=if x.Op=18 then PH n (x.A+1)else if x.Op=22 then PH n (((p.Funcs[x.A.toNat]?).map Le.Params).getD 0)else n
def QN (p:Ph) (f:Le) (k:Nat):Int:=(f.Code.take k).foldl (Ud p) 0
def Acw (p:Ph) (f:Le):Prop:=∀ x∈f.Code,(x.Op=18->0<=x.A/\x.A<4)/\(x.Op=22->0<=x.A/\∃ g,p.Funcs[x.A.toNat]? =some g/\0<=g.Params/\g.Params<4)
theorem Aaj {p:Ph} (hk:k<f.Code.length):QN p f (k+1)=Ud p (QN p f k) f.Code[k]:=by
 grind [QN,aAL]
theorem ArD {b c:Int} (h0:0<=a/\a<=c) (h1:b<=c):0<=PH a b/\PH a b<=c:=by grind [PH]
theorem YO {p:Ph} {f:Le} (h:Acw p f):∀ {k:Nat},k<=f.Code.length->0<=QN p f k/\QN p f k<=4
 | 0,_=>by simp[QN]
 | k+1,hk=>by
  rw[Aaj hk];have ih:=YO h (k:=k) (by omega)
  obtain⟨h1,h2⟩:=h _ (aAC hk);unfold Ud;split
  ·exact ArD ih (by omega)
  ·split
   ·obtain⟨_,g,hg,hp⟩:=h2 ‹_›;rw[hg];exact ArD ih (by grind)
   ·exact ih
theorem Ain {p:Ph} {i:Int} (hi:ixO p.Funcs i=some f) (hl:f.Code.length<=10000) (h:Acw p f):Vr p i=some (16*QN p f f.Code.length):=by
 have:Hs (Vr p i) λr=>r=16*QN p f f.Code.length:=by
  unfold Vr;rw[hi,aA];refine Hs.loop (λq=>∃ k:Nat,q=(QN p f k,(k:Int))/\k<=f.Code.length) (λq=>f.Code.length-q.2.toNat) ⟨0,rfl,aAD _⟩ ?_
  rintro _ ⟨k,rfl,hk⟩;have hr:=YO h hk;refine .dec (λhlt=>?_) λhge=>.lft (.pure ?_)
  ·have hlt:k<f.Code.length:=by omega
   have e:ixO f.Code (k:Int)=some f.Code[k]:=by simp_all
   obtain⟨h1,h2⟩:=h _ (aAC hlt);simp only[e,aA];rw[OZ (by omega)]
   refine .beq (λh18=>?_) λh18=>.beq (λh22=>?_) λh22=>?_
   ·rw[wrap64 (by omega) (by omega)]
    exact .cnt ⟨⟨k+1,by grind [Aaj,Ud],hlt⟩,by grind⟩
   ·obtain⟨a0,g,hg,hp⟩:=h2 h22;rw[Qt _ a0,hg,aA];exact .cnt ⟨⟨k+1,by grind [Aaj,Ud],hlt⟩,by grind⟩
   ·exact .cnt ⟨⟨k+1,by grind [Aaj,Ud],hlt⟩,by grind⟩
  ·have:k=f.Code.length:=by omega
   subst this;rw[wrap64 (by omega) (by omega)]
   show QN p f f.Code.length*16=_;omega
 obtain⟨r,h,rfl⟩:=this;exact h
def Uc (s:List Pb):Prop:=s.length<=7/\∀ x∈s,Tb x.Align/\x.Align<=64/\1<=x.Size/\x.Size<=16
theorem SA.AxN {ps:List Int} {i most:Int} (h:SA ps i most f):Uc f.Slots:=⟨by have:=h.slots;omega,λx hx=>(h.slot x hx).al⟩
def AoR (q:List Int×Int) (s:Pb):List Int×Int:=(q.1++[upN q.2 s.Align],upN q.2 s.Align+s.Size)
def plK (s:List Pb) (a:Int) (k:Nat):List Int×Int:=(s.take k).foldl AoR ([],a)
theorem ArK (hk:k<s.length):plK s a (k+1)=AoR (plK s a k) s[k]:=by
 grind [plK,aAL]
theorem Atj {s:List Pb} (h:Uc s) {a:Int} (ha:0<=a/\a<=1000):∀ {k:Nat},k<=s.length->(plK s a k).1.length=k/\a<=(plK s a k).2/\(plK s a k).2<=a+80*k
 | 0,_=>by simp[plK]
 | k+1,hk=>by
  have ih:=Atj h ha (k:=k) (by omega)
  obtain⟨h1,h2,h3,h4⟩:=h.2 _ (aAC hk);obtain⟨u1,u2,_⟩:=Rp (n:=(plK s a k).2) (a:=s[k].Align) (by have:=h1.rng;omega)
  grind [ArK,AoR]
def AmS (p:Ph) (f:Le) (al:Int):Po:=⟨16*QN p f f.Code.length,upN (plK f.Slots (16*QN p f f.Code.length) f.Slots.length).2 al,(plK f.Slots (16*QN p f f.Code.length) f.Slots.length).1⟩
theorem ArN {p:Ph} {i:Int} (hi:ixO p.Funcs i=some f) (hl:f.Code.length<=10000) (h:Acw p f) (hs:Uc f.Slots) {al:Int} (ha:Tb al) (ha':al<=64):Uq p i al=some (AmS p f al,0):=by
 have hr:=YO h (k:=f.Code.length) (aAI _);have hsl:=hs.1;have:Hs (Uq p i al) λr=>r=(AmS p f al,0):=by
  unfold Uq;rw[Ain hi hl h,aA,hi,aA];unfold AmS;have hr2:0<=16*QN p f f.Code.length/\16*QN p f f.Code.length<=64:=by omega
  generalize 16*QN p f f.Code.length=a0 at *;refine Hs.loop (λq=>∃ k:Nat,q=((plK f.Slots a0 k).1,(k:Int),(plK f.Slots a0 k).2)/\k<=f.Slots.length) (λq=>f.Slots.length-q.2.1.toNat) ⟨0,rfl,aAD _⟩ ?_
  rintro _ ⟨k,rfl,hk⟩;obtain⟨q1,q2,q3⟩:=Atj hs (a:=a0) (by omega) hk
  dsimp only;refine .dec (λhlt=>?_) λhge=>.lft ?_
  ·have hlt:k<f.Slots.length:=by omega
   have e:ixO f.Slots (k:Int)=some f.Slots[k]:=by simp_all
   obtain⟨h1,h2,h3,h4⟩:=hs.2 _ (aAC hlt);obtain⟨u1,u2,_⟩:=Rp (n:=(plK f.Slots a0 k).2) (a:=f.Slots[k].Align) (by have:=h1.rng;omega)
   simp only[e,aA];rw[Aki (by omega) (by omega) h1,aA]
   rw[wrap64 (n:=2147483519-f.Slots[k].Size) (by omega) (by omega),decide_eq_false (by omega),cond_false]
   refine .chk (by simp;omega) (.chk (by simp;omega) ?_)
   rw[e,aA,OZ (by omega),wrap64 (by omega) (by omega)]
   exact .cnt ⟨⟨k+1,by grind [ArK,AoR],hlt⟩,by grind⟩
  ·have:k=f.Slots.length:=by omega
   subst this;obtain⟨u1,u2,_⟩:=Rp (n:=(plK f.Slots a0 f.Slots.length).2) (a:=al) (by have:=ha.rng;omega)
   rw[Aki (by omega) (by omega) ha,aA]
   rw[decide_eq_false (by omega),cond_false]
   exact .pure rfl
 obtain⟨r,h,rfl⟩:=this;exact h
def oN (off:List Int) (k:Nat):Int:=(off[k]?).getD 0
def szN (s:List Pb) (k:Nat):Int:=((s[k]?).map Pb.Size).getD 0
def alN (s:List Pb) (k:Nat):Int:=((s[k]?).map Pb.Align).getD 0
def ivN (s:List Pb) (off:List Int) (k:Nat):OX:=⟨oN off k,szN s k⟩
def Plc (s:List Pb) (frm B:Int) (off:List Int) (k:Nat):Prop:=frm<=oN off k/\oN off k+szN s k<=B/\(oN off k).tmod (alN s k)=0
structure Asg (s:List Pb) (g:List (List Int)) (frm:Int) (ord:List Int) (k:Nat) (done:List Bool) (off:List Int):Prop where
 dl:done.length=s.length
 fl:off.length=s.length
 pl:∀ y:Nat,done[y]? =some true->Plc s frm (frm+80*k) off y
 ap:∀ y z:Nat,y≠z->done[y]? =some true->done[z]? =some true->(z:Int)∈rowAt g y->¬ WI (ivN s off y) (ivN s off z)
 cov:∀ j<k,∀ v,ord[j]? =some v->done[v.toNat]? =some true
theorem SR {x:Pb} (h:s[k]? =some x):szN s k=x.Size/\alN s k=x.Align:=by simp[szN,alN,h]
theorem Sn.sym {n:Int} (h:Sn g n) {y z:Nat} (hz:(z:Int)∈rowAt g y):(y:Int)∈rowAt g z:=by
 unfold rowAt at hz;rw[aAB]at hz;cases e:g[y]? with
 | none=>rw[e]at hz;cases hz
 | some t=>rw[e]at hz;exact h.2.2 y t e _ hz
theorem Asg.step {ord:List Int} {done:List Bool} {off:List Int} (h:Asg s g frm ord k done off) {n:Int} (hg:Sn g n) {w:Nat} (hk:ord[k]? =some (w:Int)) {x:Pb} (hx:s[w]? =some x) {r:Int} (h1:frm<=r) (h2:r+x.Size<=frm+80*(k+1)) (h3:r.tmod x.Align=0) (h4:∀ y:Nat,done[y]? =some true->(y:Int)∈rowAt g w->¬ WI (ivN s off y) ⟨r,x.Size⟩) :
  Asg s g frm ord (k+1) (done.set w true) (off.set w r):=by
 obtain⟨dl,fl,pl,ap,cov⟩:=h;have hw:=(aAE.1 hx).1;have d1:∀ y:Nat,(done.set w true)[y]? =some true->y=w\/done[y]? =some true:=λy hy=>by
  by_cases e:y=w
  ·exact .inl e
  ·rw[aAf (λh=>e h.symm)]at hy;exact .inr hy
 have o1:oN (off.set w r) w=r:=by unfold oN;rw[aAp (by omega)];rfl
 have o2:∀ y:Nat,y≠w->oN (off.set w r) y=oN off y:=λy hy=>by unfold oN;rw[aAf (λh=>hy h.symm)]
 obtain⟨z1,z2⟩:=SR hx;refine⟨by simp[dl],by simp[fl],λy hy=>?_,λy z hne hy hz hm=>?_,λj hj v hv=>?_⟩
 ·by_cases e:y=w
  ·subst e;refine⟨?_,?_,?_⟩
   ·rw[o1];exact h1
   ·rw[o1,z1];omega
   ·rw[o1,z2];exact h3
  ·rcases d1 y hy with h|h
   ·exact(e h).elim
   obtain⟨p1,p2,p3⟩:=pl y h;refine⟨?_,?_,?_⟩
   ·rw[o2 y e];exact p1
   ·rw[o2 y e];omega
   ·rw[o2 y e];exact p3
 ·unfold ivN at *
  by_cases e:y=w
  ·subst e;have ez:z≠y:=λh=>hne h.symm
   rcases d1 z hz with h|h
   ·exact(ez h).elim
   rw[o1,z1,o2 z ez];exact λho=>h4 z h hm ho.symm
  ·rcases d1 y hy with h|h
   ·exact(e h).elim
   rw[o2 y e]
   by_cases e':z=w
   ·subst e';rw[o1,z1];exact h4 y h (hg.sym hm)
   ·rcases d1 z hz with h'|h'
    ·exact(e' h').elim
    rw[o2 z e'];exact ap y z hne h h' hm
 ·by_cases e:v.toNat=w
  ·rw[e,aAp (by omega)]
  ·rw[aAf (λh=>e h.symm)]
   by_cases ej:j=k
   ·subst ej;rw[hk]at hv;cases hv;simp at e
   ·exact cov j (by omega) v hv
theorem ApN (hs:Uc s) (hso:∀ x∈s,TZ x) (hg:Sn g s.length) (hgl:∀ row∈g,row.length<=512) (hf:0<=frm/\frm<=1000) :
  Hs (YF s g frm) λq=>q.2=0/\q.1.length=s.length/\(∀ y:Nat,y<s.length->Plc s frm (frm+80*s.length) q.1 y)/\∀ y z:Nat,y<s.length->z<s.length->y≠z->(z:Int)∈rowAt g y->¬ WI (ivN s q.1 y) (ivN s q.1 z):=by
 have hsl:=hs.1;have hgg:g.length=s.length:=by have:=hg.1;omega
 obtain⟨b,hb1,hb2⟩:=Aqb (g:=g) (n:=(s.length:Int)) (by omega) λr hr=>by have:=hgl r hr;omega
 unfold YF;refine(AmI hso (by omega)).bind λe he=>?_
 subst he;rw[hb1,hb2.2 hg,aA,Aam,aA,decide_eq_true (by omega)]
 simp only[bne_self_eq_false,cond_false,aAT];unfold AiU;refine .chk (by omega) (.chk (by omega) ((AuU s (by omega)).bind λord ⟨ol,ov,oa⟩=>?_))
 refine Hs.loop (λq=>∃ k:Nat,q.2.2=(k:Int)/\k<=ord.length/\Asg s g frm ord k q.1 q.2.1) (λq=>ord.length-q.2.2.toNat) ⟨0,rfl,aAD _,by simp,by simp,λy hy=>?_,λy z _ hy=>?_,λj hj=>absurd hj (aAH _)⟩ ?_
 ·simp[aAn]at hy
 ·simp[aAn]at hy
 rintro⟨done,off,_⟩ ⟨k,rfl,hk,hI⟩;replace hI:Asg s g frm ord k done off:=hI;obtain⟨dl,fl,pl,ap,cov⟩:=id hI;unfold AiS;dsimp only;refine .dec (λhlt=>?_) λhge=>.lft (.pure ?_)
 rotate_left
 ·have hkk:k=s.length:=by omega
  subst hkk;have all:∀ y:Nat,y<s.length->done[y]? =some true:=λy hy=>by
   obtain⟨j,hj⟩:=aAF (oa y hy);have:=(aAE.1 hj).1;simpa using cov j (by omega) _ hj
  exact⟨rfl,fl,λy hy=>pl y (all y hy),λy z hy hz hne hm=>ap y z hne (all y hy) (all z hz) hm⟩
 have hlt:k<ord.length:=by omega
 have hov:ord[k]? =some ord[k]:=aAA hlt;have hvr:=ov _ (aAC hlt);generalize ord[k]=v at hov hvr;refine .chk (by omega) ?_
 rw[aAB,hov,aA];obtain⟨w,rfl⟩:∃ w:Nat,v=(w:Int):=⟨v.toNat,by omega⟩
 have hw:w<s.length:=by omega
 have hgr:ixO g (w:Int)=some (rowAt g w):=by
  rw[Pr];unfold rowAt;rw[aAB,aAA (by omega)];rfl
 have hrl:(rowAt g w).length<=512:=by
  unfold rowAt;rw[aAB,aAA (by omega)]
  exact hgl _ (aAC _)
 refine Hs.loop (λq=>∃ j:Nat,q.2=(j:Int)/\j<=s.length/\q.1.length<=j/\(∀ u∈q.1,∃ y:Nat,done[y]? =some true/\u=ivN s off y)/\∀ y:Nat,y<j->done[y]? =some true->(y:Int)∈rowAt g w->ivN s off y∈q.1) (λq=>s.length-q.2.toNat) ⟨0,rfl,aAD _,by simp,λu hu=>(by cases hu),λy hy=>absurd hy (aAH _)⟩ ?_
 rintro⟨used,_⟩ ⟨j,rfl,hj,hul,hu1,hu2⟩;replace hul:used.length<=j:=hul;replace hu1:∀ u∈used,∃ y:Nat,done[y]? =some true/\u=ivN s off y:=hu1;replace hu2:∀ y:Nat,y<j->done[y]? =some true->(y:Int)∈rowAt g w->ivN s off y∈used:=hu2;unfold AiT;dsimp only;refine .dec (λhlt'=>?_) λhge=>.lft ?_
 ·have hjl:j<s.length:=by omega
  have hdj:done[j]? =some (done[j]'(by omega)):=aAA _
  generalize(done[j]'(by omega))=d at hdj
  refine .chk (by omega) ?_
  rw[aAB,hdj,aA];have no:¬ (d=true/\(j:Int)∈rowAt g w)->∀ y:Nat,y<j+1->done[y]? =some true->(y:Int)∈rowAt g w->ivN s off y∈used:=λhn y hy h1 h2=>by
   by_cases e:y=j
   ·subst e;rw[hdj]at h1;exact(hn ⟨Option.some.inj h1,h2⟩).elim
   ·exact hu2 y (by omega) h1 h2
  have key:∀ d:Bool,(bif d then(ixO g (w:Int)).bind λx=>(TO x (j:Int)).bind λr=>Rx (j:Int) off s used r else Rx (j:Int) off s used false)=Rx (j:Int) off s used (d&&decide ((j:Int)∈rowAt g w)):=λd=>by
   cases d
   ·rfl
   ·rw[cond_true,hgr,aA,Zk _ _ (by omega),aA,Bool.true_and]
  rw[key];unfold Rx;rw[OZ (by omega)]
  refine .cond (λhd=>?_) λhd=>.cnt ⟨⟨j+1,rfl,hjl,by simp only;omega,hu1,no λh=>by simp[h.1,h.2]at hd⟩,by simp only;omega⟩
  ·have hd:d=true:=by simp at hd;exact hd.1
   refine .chk (by omega) ?_
   have hoj:off[j]? =some (oN off j):=by unfold oN;rw[aAA (by omega)];rfl
   have hsj:s[j]? =some s[j]:=aAA _;rw[aAB,hoj,aA,Pr,hsj,aA];have hiv:(OX.mk (oN off j) s[j].Size)=ivN s off j:=by unfold ivN;rw[(SR hsj).1]
   rw[hiv];refine .chk (by simp;omega) (.cnt ⟨⟨j+1,rfl,hjl,by simp;omega,λu hu=>?_,λy hy h1 h2=>?_⟩,by simp only;omega⟩)
   ·rcases aAQ.1 hu with hu|hu
    ·exact hu1 u hu
    ·simp at hu;subst hu;exact⟨j,by rw[hdj,hd],rfl⟩
   ·by_cases e:y=j
    ·subst e;simp
    ·exact List.mem_append_left _ (hu2 y (by omega) h1 h2)
 ·have hjj:j=s.length:=by omega
  subst hjj;have hsw:s[w]? =some s[w]:=aAA _;obtain⟨a1,a2,a3,a4⟩:=hs.2 _ (aAC hw);generalize s[w]=x at hsw a1 a2 a3 a4;simp only[Pr,hsw,aA];have hR:∀ u∈used,QP u/\u.Off+u.Size<=frm+80*(k:Int):=λu hu=>by
   obtain⟨y,hy,rfl⟩:=hu1 u hu;obtain⟨p1,p2,_⟩:=pl y hy;have hyl:y<s.length:=by rw[<- dl];exact(aAE.1 hy).1
   have hsy:s[y]? =some s[y]:=aAA _;obtain⟨_,_,b3,b4⟩:=hs.2 _ (aAC hyl);rw[<- (SR hsy).1]at b3 b4;refine⟨⟨?_,?_,?_,?_,?_⟩,p2⟩<;>simp only[ivN]<;>omega
  refine(AxZ (M:=frm+80*(k:Int)) (by omega) (by omega) (by omega) ⟨a3,a4⟩ a1 a2 hR).bind λr ⟨r0,r1,r2,r3,r4⟩=>?_
  rw[r0];simp only[bne_self_eq_false,cond_false];refine .chk (by omega) ?_
  rw[aAB,aAA (by omega),aA]
  refine .chk (by omega) ?_
  rw[aAA (by omega),aA]
  unfold AeI;rw[OZ (by omega)]
  exact .cnt ⟨⟨k+1,rfl,hlt,hI.step hg hov hsw r1 (by omega) r3 λy h1 h2=>r4 _ (hu2 y (by rw[<- dl];exact(aAE.1 h1).1) h1 h2)⟩,by simp only;omega⟩
def Acx (a:OX) (size y:Int):Prop:=a.Off<y+size/\y<a.Off+a.Size
instance (a:OX) (size y:Int):Decidable (Acx a size y):=inferInstanceAs (Decidable (_/\_))
structure RP (l:List OX) (frm size al y:Int):Prop where
 ge:frm<=y
 al0:y % al=0
 free:∀ a∈l,¬ Acx a size y
 least:∀ z,frm<=z->z % al=0->(∀ a∈l,¬ Acx a size z)->y<=z
theorem RP.unique {al y z:Int} (h:RP l frm size al y) (k:RP l frm size al z):y=z:=by
 have:=h.least z k.ge k.al0 k.free;have:=k.least y h.ge h.al0 h.free;omega
theorem RP.ArI {l':List OX} {al y:Int} (h:RP l frm size al y) (hm:∀ a,a∈l↔a∈l'):RP l' frm size al y :=
 ⟨h.ge,h.al0,λa ha=>h.free a ((hm a).2 ha),λz h1 h2 h3=>h.least z h1 h2 λa ha=>h3 a ((hm a).1 ha)⟩
theorem AmM {n al z:Int} (ha:0<al) (h1:n<=z) (h2:z % al=0):upN n al<=z:=by
 obtain⟨u1,u2,u3⟩:=Rp (n:=n) ha;have e1:=aAW z al;have e2:=aAW (upN n al) al;rcases aAa z (upN n al)with h|h
 ·exfalso;have h3:al*(z / al)<al*(upN n al / al):=by omega
  have h4:z / al<upN n al / al:=aAj h3 (by omega)
  have h5:al*(z / al+1)<=al*(upN n al / al):=aAN h4 (by omega)
  grind
 ·exact h
theorem AvA {n al y:Int} (ha:0<al) (h1:n<=y) (h2:y<n+al) (h3:y % al=0):upN n al=y:=by
 have h:=AmM ha h1 h3;obtain⟨u1,u2,u3⟩:=Rp (n:=n) ha;have e1:=aAW y al;have e2:=aAW (upN n al) al;rcases aAa (upN n al) y with h'|h'
 ·exfalso;have h3:al*(upN n al / al)<al*(y / al):=by omega
  have h4:upN n al / al<y / al:=aAj h3 (by omega)
  have h5:al*(upN n al / al+1)<=al*(y / al):=aAN h4 (by omega)
  grind
 ·omega
def swp (size al y:Int) (a:OX):Int:=if Acx a size y then upN (a.Off+a.Size) al else y
def Aqy (l:List OX):Prop:=l.Pairwise λa b=>a.Off<=b.Off
structure SwI (done:List OX) (frm size al y:Int):Prop where
 ge:frm<=y
 al0:y % al=0
 off:∀ a∈done,a.Off+a.Size<=y\/y+size<=a.Off
 least:∀ z,frm<=z->z<y->z % al=0->∃ a∈done,Acx a size z
theorem SwI.step {done:List OX} {al y:Int} {a:OX} (ha:0<al) (h:SwI done frm size al y) (hs:∀ d∈done,d.Off<=a.Off):SwI (done++[a]) frm size al (swp size al y a):=by
 unfold swp;split
 ·rename_i hm;obtain⟨m1,m2⟩:=hm;obtain⟨u1,u2,u3⟩:=Rp (n:=a.Off+a.Size) ha;refine⟨by have:=h.ge;omega,u3,λd hd=>?_,λz z1 z2 z3=>?_⟩
  ·rcases aAQ.1 hd with hd|hd
   ·rcases h.off d hd with h1|h1
    all_goals grind
   simp_all
  ·by_cases hz:z<y
   ·obtain⟨d,hd,k⟩:=h.least z z1 hz z3
    grind
   ·refine⟨a,List.mem_append_right _ (aAU.2 rfl),by omega,?_⟩
    grind [aAa,AmM]
 ·rename_i hm;refine⟨h.ge,h.al0,λd hd=>?_,λz z1 z2 z3=>?_⟩
  ·rcases aAQ.1 hd with hd|hd
   ·exact h.off d hd
   grind [Acx]
  ·obtain⟨d,hd,k⟩:=h.least z z1 z2 z3
   grind
theorem AwD {frm size al:Int} (ha:0<al):∀ (rest done:List OX) (y:Int),SwI done frm size al y->Aqy (done++rest)->SwI (done++rest) frm size al (rest.foldl (swp size al) y)
 | [],done,y,h,_=>by simp_all
 | a::rest,done,y,h,hs=>by
  have hda:∀ d∈done,d.Off<=a.Off:=λd hd=>(List.pairwise_append.1 hs).2.2 d hd a (List.mem_cons_self ..)
  have:=AwD ha rest (done++[a]) _ (h.step ha hda) (by simp_all)
  simp_all
theorem SwI.AuP {al y:Int} (h:SwI l frm size al y):RP l frm size al y:=by
 refine⟨h.ge,h.al0,λa ha hm=>?_,λz z1 z2 z3=>?_⟩
 ·unfold Acx at hm;rcases h.off a ha with h1|h1<;>omega
 ·rcases aAa z y with h1|h1
  ·obtain⟨a,ha,k⟩:=h.least z z1 h1 z2;simp_all
  ·exact h1
theorem AnL {al:Int} (ha:0<al) (hs:Aqy l):RP l frm size al (l.foldl (swp size al) (upN frm al)):=by
 obtain⟨u1,u2,u3⟩:=Rp (n:=frm) ha;have:=AwD (frm:=frm) (size:=size) ha l [] (upN frm al) ⟨u1,u3,(λa h=>by cases h),λz z1 z2 z3=>(by have:=AmM ha z1 z3;omega)⟩ hs
 grind [SwI.AuP]
theorem RP.AxV {al y:Int} (ha:0<al) (h:RP l frm size al y):y=upN frm al\/∃ a∈l,y=upN (max frm (a.Off+a.Size)) al:=by
 by_cases h1:y-al<frm
 ·exact .inl (AvA ha h.ge (by omega) h.al0).symm
 ·have hz:(y-al) % al=0:=by rw[Int.sub_emod,h.al0];simp
  have:¬ ∀ a∈l,¬ Acx a size (y-al):=λhf=>by have:=h.least (y-al) (by omega) hz hf;omega
  obtain⟨a,ha'⟩:=Classical.not_forall.1 this;obtain⟨hal,hm⟩:=Classical.not_imp.1 ha';have hn:=h.free a hal;unfold Acx at hm hn;exact .inr ⟨a,hal,(AvA ha (by omega) (by omega) h.al0).symm⟩
theorem AoP {u:OX} {b:Int} (hu:QP u) (hp:0<u.Size) (hs:0<size) (hb:QP ⟨b,size⟩):WI u ⟨b,size⟩↔Acx u size b :=
 ⟨λh=>⟨h.2.2.2.2.1,h.2.2.2.2.2⟩,λh=>⟨hu,hb,hp,hs,h.1,h.2⟩⟩
theorem Abm (a b:Int):PH a b=max a b:=by grind [PH]
theorem AuD {align M y:Int} (hl:l.length<=1000) (hM:M<=100000) (hf:0<=frm/\frm<=M) (hs:1<=size/\size<=16) (ha:Tb align) (ha':align<=64) (hu:∀ u∈l,QP u/\u.Off+u.Size<=M) (hp:∀ u∈l,0<u.Size) (hy:RP l frm size align y) :
  AaQ l frm size align=some (y,0):=by
 have ep:Rj align=some true:=by obtain⟨m,hm,rfl⟩:=ha;exact AhA hm
 have har:=ha.rng;obtain⟨m,hm0,hm1,hmx⟩:∃ m:Int,-1<=m/\m<l.length/\∀ c:Int,((0<=m/\∃ x,l[m.toNat]? =some x/\c=PH frm (x.Off+x.Size))\/(m<0/\c=frm))->y=upN c align:=by
  rcases hy.AxV (by omega)with h|⟨a,ha1,h⟩
  ·refine⟨-1,by omega,by omega,λc hc=>?_⟩
   simp_all
  ·obtain⟨k,hk⟩:=aAF ha1;have hkl:=(aAE.1 hk).1;refine⟨(k:Int),by omega,by omega,λc hc=>?_⟩
   grind [Abm]
 have lst:∀ b:Int,Fits l frm size align M b->y<=b:=by
  rintro b ⟨b1,b2,b3,b4⟩;refine hy.least b b1 (by grind) λu hu' hm=>b4 u hu' ((AoP (hu u hu').1 (hp u hu') (by omega) ?_).2 hm)
  refine⟨?_,?_,?_,?_,?_⟩<;>simp only<;>omega
 have key:Hs (AaQ l frm size align) λr=>r=(y,0):=by
  unfold AaQ;simp only[Aam,aA,ep];rw[decide_eq_true (p:=0<=frm/\frm<=2147483647) (by omega),decide_eq_true (p:=0<=size/\size<=2147483647) (by omega)]
  refine Hs.loop (λi=>∃ k:Nat,i=(k:Int)/\k<=l.length) (λi=>l.length-i.toNat) ⟨0,rfl,aAD _⟩ ?_
  rintro _ ⟨k,rfl,hk⟩;refine .dec (λhlt=>?_) λ_=>.lft ?_
  ·have hlt:k<l.length:=by omega
   rw[Pr,aAA hlt,aA,Zf,aA,decide_eq_true (hu _ (aAC hlt)).1];rw[OZ (by omega)]
   exact .cnt ⟨⟨k+1,rfl,by omega⟩,by grind⟩
  refine Hs.loop (λs=>-1<=s.2.2/\s.2.2<=l.length/\(s.2.1=true->Fits l frm size align M s.1)/\((s.2.1=true/\s.1=y)\/s.2.2<=m)) (λs=>((l.length:Int)-s.2.2).toNat) ⟨by simp,by simp_all,λh=>(by cases h),.inr hm0⟩ ?_
  rintro⟨best,found,i⟩ ⟨h0,h1,h2,h3⟩;replace h0: -1<=i:=h0;replace h3:(found=true/\best=y)\/i<=m:=h3;have j4:∀ c:Int,i<l.length->frm<=c->c<=M->(i=m->y=upN c align)->Hs (Yw align size l found i best c) (Rnd (λs:Int×Bool×Int=>-1<=s.2.2/\s.2.2<=l.length/\(s.2.1=true->Fits l frm size align M s.1)/\((s.2.1=true/\s.1=y)\/s.2.2<=m)) (λs=>((l.length:Int)-s.2.2).toNat) (best,found,i) λr=>r=(y,0)):=by
   intro c hi c0 c1 hc;unfold Yw;have w:IntKind.i64.wrap (i+1)=i+1:=wrap64 (by omega) (by omega)
   obtain⟨u1,u2,u3⟩:=Rp (n:=c) (a:=align) (by omega)
   rw[w,Aki (by omega) (by omega) ha,aA]
   have hR:QP ⟨upN c align,size⟩:=by refine⟨?_,?_,?_,?_,?_⟩<;>simp only<;>omega
   rw[Zf,aA,decide_eq_true hR,cond_true];have ht:(upN c align).tmod align=0:=by grind
   have fin:∀ (a:Int) (b:Bool),(b=true->Fits l frm size align M a)->((b=true/\a=y)\/i+1<=m)->Hs (cnt (a,b,i+1):Option ((Int×Bool×Int)⊕(Int×Int))) (Rnd (λs:Int×Bool×Int=>-1<=s.2.2/\s.2.2<=l.length/\(s.2.1=true->Fits l frm size align M s.1)/\((s.2.1=true/\s.1=y)\/s.2.2<=m)) (λs=>((l.length:Int)-s.2.2).toNat) (best,found,i) λr=>r=(y,0)):=λa b g1 g2=>.cnt ⟨⟨by grind,by grind,g1,g2⟩,by grind⟩
   have bst:found=true->y<=best:=λh=>lst _ (h2 h)
   refine(Ata l (by omega) _).bind λb hb=>.cond (λhb'=>?_) λhb'=>?_
   ·have hG:Fits l frm size align M (upN c align):=⟨by omega,by omega,ht,hb.1 hb'⟩
    grind
   ·refine fin _ _ h2 ?_;rcases h3 with h3|h3
    ·simp_all
    ·by_cases e:i=m
     ·have:b=true:=hb.2 λu hu' ho=>by
       have h5:=hy.free u hu'
       grind [AoP]
      simp_all
     ·omega
  refine .dec (λhlt=>.dec (λhge=>?_) λhge=>?_) λhge=>.lft ?_
  ·have hge:0<=i:=hge;have hlt:i<l.length:=hlt;have hin:i.toNat<l.length:=by omega
   have hx:l[i.toNat]? =some (l[i.toNat]'hin):=aAA _;have hxu:=hu _ (aAC hin);generalize(l[i.toNat]'hin)=x at hx hxu;obtain⟨x1,x2,x3,x4,x5⟩:=hxu.1;rw[Qt _ hge,hx,aA,aA,wrap64 (by omega) (by omega)]
   refine j4 _ hlt (by grind [PH]) (by grind [PH]) λe=>hmx _ (.inl ⟨by omega,x,by simp_all,rfl⟩)
  ·have hge:¬ 0<=i:=hge;exact j4 _ hlt (by omega) (by omega) λe=>hmx _ (.inr ⟨by omega,rfl⟩)
  ·have hge:¬ i<(l.length:Int):=hge;rcases h3 with⟨rfl,rfl⟩|h
   ·exact .pure rfl
   ·omega
 obtain⟨r,h,rfl⟩:=key;exact h
end Go.Proofs.YtilmapojncgflaaGreatDoor
namespace Go.Dw
section
variable {α:Type}
def gap (out:List α) (j:Nat) (e:α) (rest:List α):List α:=out.take j++e::(out.drop j++rest)
theorem Apk (out:List α) (j:Nat) (e:α) (rest:List α):(gap out j e rest).length=out.length+1+rest.length:=by
 unfold gap
 grind
theorem Arp (out:List α) (e:α) (rest:List α):gap out out.length e rest=out++e::rest:=by simp[gap]
theorem Arr (out:List α) (j:Nat) (e:α) (rest:List α):gap out j e rest=gap out j e []++rest:=by simp[gap]
theorem AuH {out:List α} {j:Nat} (h:j<=out.length) (e:α) (rest:List α):(gap out j e rest)[j]? =some e:=by
 grind [gap]
theorem Arq {out:List α} {m:Nat} {c:α} (h:out[m]? =some c) (e:α) (rest:List α):(gap out (m+1) e rest)[m]? =some c:=by
 have hl:=(aAE.1 h).1;unfold gap
 grind
theorem Ars {out:List α} {m:Nat} {c:α} (h:out[m]? =some c) (e:α) (rest:List α):((gap out (m+1) e rest).set (m+1) c).set m e=gap out m e rest:=by
 obtain⟨hl,rfl⟩:=aAE.1 h;have hlen1:(out.take m).length=m:=by simp;omega
 have e1:out.take (m+1)=out.take m++[out[m]]:=by simp_all
 have e2:out.drop m=out[m]::out.drop (m+1):=aAZ hl;unfold gap
 grind
def TH (bf:α->α->Bool) (out:List α) (e:α):Nat->Nat
 | 0=>0
 | k+1=>match out[k]? with|some c=>if bf e c=true then TH bf out e k else k+1|none=>k+1
theorem AiZ {bf:α->α->Bool} {out:List α} {e c:α} {k:Nat} (h:out[k]? =some c) (hb:bf e c=true):TH bf out e (k+1)=TH bf out e k:=by grind [TH]
theorem AkZ {bf:α->α->Bool} {out:List α} {e c:α} {k:Nat} (h:out[k]? =some c) (hb:¬ bf e c=true):TH bf out e (k+1)=k+1:=by grind [TH]
theorem Asi (bf:α->α->Bool) (out:List α) (e:α):∀ k,TH bf out e k<=k
 | 0=>aAI _
 | k+1=>by
  have:=Asi bf out e k;unfold TH
  grind
def Yt (bf:α->α->Bool) (out:List α) (e:α):List α:=gap out (TH bf out e out.length) e []
theorem AvV (bf:α->α->Bool) (out:List α) (e:α):(Yt bf out e).length=out.length+1:=by grind [Yt,Apk]
theorem AvW (bf:α->α->Bool) (out:List α) (e x:α):x∈Yt bf out e↔x=e\/x∈out:=by
 grind [Yt,gap,aAV]
def QJ (bf:α->α->Bool) (l:List α):List α:=l.foldl (Yt bf) []
theorem AkX (bf:α->α->Bool) (l:List α) (e:α):QJ bf (l++[e])=Yt bf (QJ bf l) e:=by grind [QJ]
theorem AjN (bf:α->α->Bool):∀ (l out:List α),(l.foldl (Yt bf) out).length=out.length+l.length
 | [],_=>rfl
 | a::l,out=>by
  show(l.foldl (Yt bf) (Yt bf out a)).length=_;rw[AjN bf l,AvV,List.length_cons];omega
theorem Abb (bf:α->α->Bool) (l:List α):(QJ bf l).length=l.length:=by grind [QJ,AjN]
theorem AjO (bf:α->α->Bool) (x:α):∀ (l out:List α),x∈l.foldl (Yt bf) out↔x∈l\/x∈out
 | [],_=>by simp
 | a::l,out=>by
  show x∈l.foldl (Yt bf) (Yt bf out a)↔_;rw[AjO bf x l,AvW,aAd]
  grind
theorem AmJ (bf:α->α->Bool) (l:List α) (x:α):x∈QJ bf l↔x∈l:=by grind [QJ,AjO]
theorem AsC {bf:α->α->Bool} {key:α->Int} (hbf:∀ a b,bf a b=true↔key a<key b) {out:List α} (h:out.Pairwise λa b=>key a<=key b) (e:α):(Yt bf out e).Pairwise λa b=>key a<=key b:=by
 have hk:∀ k,k<=out.length->(∀ (j:Nat) c,k<=j->out[j]? =some c->key e<=key c)->(gap out (TH bf out e k) e []).Pairwise λa b=>key a<=key b:=by
  intro k
  induction k with
  | zero =>
   intro _ hall;show(List.take 0 out++e::(List.drop 0 out++[])).Pairwise _;simp only[List.take_zero,List.nil_append,List.drop_zero,List.append_nil];refine List.pairwise_cons.2 ⟨λc hc=>?_,h⟩
   obtain⟨j,hj⟩:=aAF hc
   grind
  | succ k ih =>
   intro hk hall;have hg:out[k]? =some (out[k]'(by omega)):=aAA _
   generalize out[k]'(by omega)=c at hg
   by_cases hb:bf e c=true
   ·grind [AiZ]
   ·rw[AkZ hg hb];have hc:key c<=key e:=by
     simp_all
    unfold gap;rw[List.append_nil];refine List.pairwise_append.2 ⟨h.sublist (List.take_sublist _ _),List.pairwise_cons.2 ⟨λd hd=>?_,h.sublist (List.drop_sublist _ _)⟩,λa ha b hb'=>?_⟩
    ·grind [aAF]
    ·obtain⟨i,hi⟩:=aAF ha;rw[List.getElem?_take]at hi;split at hi
     ·have hac:key a<=key c:=by
       by_cases ei:i=k
       ·simp_all
       grind [aAO]
      rcases aAd.1 hb' with rfl|hb'
      ·omega
      ·obtain⟨j,hj⟩:=aAF hb'
       grind
     ·cases hi
 exact hk out.length (aAI _) λj c hj hc=>by simp_all
theorem Ahn {bf:α->α->Bool} {key:α->Int} (hbf:∀ a b,bf a b=true↔key a<key b):∀ (l:List α) {out:List α},out.Pairwise (λa b=>key a<=key b)->(l.foldl (Yt bf) out).Pairwise λa b=>key a<=key b
 | [],_,h=>h
 | a::l,_,h=>Ahn hbf l (AsC hbf h a)
theorem AmK {bf:α->α->Bool} {key:α->Int} (hbf:∀ a b,bf a b=true↔key a<key b) (l:List α):(QJ bf l).Pairwise λa b=>key a<=key b:=Ahn hbf l List.Pairwise.nil
end
end Go.Dw
namespace Go.Proofs.YtilmapojncgflaaGreatDoor
open Go Go.Dw Go.Proofs
def alI (s:List Pb) (i:Int):Int:=((s[i.toNat]?).map Pb.Align).getD 0
def szI (s:List Pb) (i:Int):Int:=((s[i.toNat]?).map Pb.Size).getD 0
theorem AmQ {s:List Pb} {i:Int} {x:Pb} (h:s[i.toNat]? =some x):alI s i=x.Align/\szI s i=x.Size:=by simp[alI,szI,h]
def bfS (s:List Pb) (i c:Int):Bool:=decide (alI s c<alI s i\/alI s c=alI s i/\szI s c<szI s i)
def idI (n:Nat):List Int:=(aAX n).map λi:Nat=>(i:Int)
theorem Aoa (n:Nat):idI (n+1)=idI n++[(n:Int)]:=by simp[idI,List.range_succ]
theorem AhE (n:Nat):(idI n).length=n:=by simp[idI]
theorem Axt {n k:Nat} (h:k<n):(idI n)[k]? =some (k:Int):=by simp[idI,h]
theorem AoC (x y:Int):TB x y=some (if x<y then -1 else if y<x then 1 else 0):=by
 unfold TB TN
 grind
theorem Ayf (a b:Int):Aeg [a,b]=some (if a≠0 then a else b):=by
 have key:Hs (Aeg [a,b]) λr=>r=if a≠0 then a else b:=by
  refine Hs.loop (λi=>i=0\/(i=1/\a=0)\/(i=2/\a=0/\b=0)) (λi=>3-i.toNat) (.inl rfl) ?_
  rintro i (rfl|⟨rfl,ha⟩|⟨rfl,ha,hb⟩)
  ·refine .dec (λ_=>?_) λh=>(h (by simp)).elim
   refine .bne (λh=>.lft (.pure (show a=if a≠0 then a else b from by omega))) λh=>.cnt ⟨.inr (.inl ⟨rfl,h⟩),by decide⟩
  ·refine .dec (λ_=>?_) λh=>(h (by simp)).elim
   refine .bne (λh=>.lft (.pure (show b=if a≠0 then a else b from by omega))) λh=>.cnt ⟨.inr (.inr ⟨rfl,ha,h⟩),by decide⟩
  ·refine .dec (λh=>absurd h (by simp)) λ_=>.lft (.pure (show 0=if a≠0 then a else b from by omega))
 obtain⟨r,h,rfl⟩:=key;exact h
section
variable {s:List Pb}
theorem AxA {a b:Int} (ha0:0<=a) (ha1:a<s.length) (hb0:0<=b) (hb1:b<s.length):Hs (TJ a b s) λr=>(r<0↔bfS s a b=true):=by
 unfold TJ;have ga:s[a.toNat]? =some (s[a.toNat]'(by omega)):=aAA _
 have gb:s[b.toNat]? =some (s[b.toNat]'(by omega)):=aAA _
 generalize s[a.toNat]'(by omega)=x at ga
 generalize s[b.toNat]'(by omega)=y at gb
 obtain⟨a1,a2⟩:=AmQ ga;obtain⟨b1,b2⟩:=AmQ gb;simp only[Qt _ ha0,Qt _ hb0,ga,gb,aA,AoC,Ayf];refine .pure ?_;unfold bfS
 grind
theorem Auj {a b:Int} {x y:Pb} (hx:s[a.toNat]? =some x) (hy:s[b.toNat]? =some y):AeJ x y=some (bfS s a b):=by
 obtain⟨a1,a2⟩:=AmQ hx;obtain⟨b1,b2⟩:=AmQ hy;unfold AeJ bfS
 grind
theorem AkY (bf:Int->Int->Bool) {n:Nat} {v:Int} (h:v∈QJ bf (idI n)):0<=v/\v<n:=by
 grind [AmJ,idI]
theorem Avi (hs:s.length<=1000):Agh s=some (QJ (bfS s) (idI s.length)):=by
 have key:Hs (Agh s) λout=>out=QJ (bfS s) (idI s.length):=by
  refine Hs.loop (λq=>∃ k:Nat,q.2=(k:Int)/\k<=s.length/\q.1=QJ (bfS s) (idI k)) (λq=>s.length-q.2.toNat) ⟨0,rfl,aAD _,rfl⟩ ?_
  rintro⟨out,_⟩ ⟨k,rfl,hk,ho⟩;replace ho:out=QJ (bfS s) (idI k):=ho;have hol:out.length=k:=by rw[ho,Abb,AhE]
  have hor:∀ v∈out,0<=v/\v<s.length:=λv hv=>by rw[ho]at hv;have:=AkY _ hv;omega
  dsimp only;refine .dec (λhlt=>?_) λhge=>.lft (.pure ?_)
  rotate_left
  ·have hkk:k=s.length:=by omega
   subst hkk;exact ho
  have hlt:k<s.length:=by omega
  have hsn:QJ (bfS s) (idI (k+1))=Yt (bfS s) out (k:Int):=by rw[Aoa,AkX,ho]
  have gk:s[((k:Nat):Int).toNat]? =some (s[k]'hlt):=by simp_all
  have j3:∀ m:Nat,m=TH (bfS s) out (k:Int) out.length->Hs (VB out (k:Int) (m:Int)) (Rnd (λq:List Int×Int=>∃ k:Nat,q.2=(k:Int)/\k<=s.length/\q.1=QJ (bfS s) (idI k)) (λq=>s.length-q.2.toNat) (out,(k:Int)) (λout=>out=QJ (bfS s) (idI s.length))):=by
   intro m hm;have hml:m<=out.length:=by grind [Asi]
   unfold VB;refine .chk (by omega) (.chk (by simp;omega) (.chk (by simp;omega) (.chk (by omega) (.chk (by simp;omega) ?_))))
   unfold AfR;rw[OZ (by omega)]
   refine .cnt ⟨⟨k+1,rfl,hlt,?_⟩,by grind⟩
   grind [Yt,gap]
  refine Hs.loop (λm=>∃ j:Nat,m=(j:Int)/\j<=out.length/\TH (bfS s) out (k:Int) out.length=TH (bfS s) out (k:Int) j) (λm=>m.toNat) ⟨out.length,rfl,aAI _,rfl⟩ ?_
  rintro _ ⟨j,rfl,hj,hst⟩;refine .dec (λhp=>?_) λhp=>.lft (j3 j ?_)
  ·obtain⟨m,rfl⟩:∃ m:Nat,j=m+1:=⟨j-1,by omega⟩
   have hg:out[m]? =some (out[m]'(by omega)):=aAA _
   have hcr:=hor _ (aAC (show m<out.length by omega))
   generalize out[m]'(by omega)=c at hg hcr
   have gc:s[c.toNat]? =some (s[c.toNat]'(by omega)):=aAA _
   have ew:IntKind.i64.wrap ((((m+1:Nat):Int))-1)=(m:Int):=by grind [wrap64]
   rw[ew,Qt _ (show(0:Int)<=(k:Int)by omega),gk,aA]
   refine .chk (by omega) ?_
   rw[aAB,hg,aA,Qt _ hcr.1,gc,aA,Auj gk gc,aA];refine .cond (λhb=>.cnt ⟨⟨m,rfl,by omega,?_⟩,by simp_all⟩) λhb=>.lft (j3 (m+1) ?_)
   all_goals grind [AiZ,AkZ]
  ·have hj0:j=0:=by omega
   subst hj0;rw[hst];rfl
 obtain⟨r,h,rfl⟩:=key;exact h
theorem AuX (hs:s.length<=19):Aao s=some (QJ (bfS s) (idI s.length)):=by
 have key:Hs (Aao s) λout=>out=QJ (bfS s) (idI s.length):=by
  refine Hs.loop (λq=>∃ k:Nat,q.2=(k:Int)/\k<=s.length/\q.1=idI k) (λq=>s.length-q.2.toNat) ⟨0,rfl,aAD _,rfl⟩ ?_
  rintro⟨_,_⟩ ⟨k,rfl,hk,rfl⟩;refine .dec (λhlt=>?_) λhge=>.lft ?_
  ·have hlt:k<s.length:=by omega
   refine .chk (by grind [AhE]) ?_
   rw[OZ (by omega)]
   exact .cnt ⟨⟨k+1,rfl,hlt,(Aoa k).symm⟩,by grind⟩
  have hkk:k=s.length:=by omega
  subst hkk;have hll:=AhE s.length;refine Hs.loop (λq=>q=(idI s.length,(0:Int),(20:Int))) (λ_=>0) rfl ?_
  rintro _ rfl;dsimp only;refine .dec (λh=>by omega) λ_=>.lft ?_
  unfold ZT;have start:∃ i:Nat,1<=i/\((1:Nat):Int)=(i:Int)/\(i<=s.length\/s.length=0)/\idI s.length=QJ (bfS s) (idI (min i s.length))++(idI s.length).drop i:=by
   refine⟨1,aAI _,rfl,by omega,?_⟩
   cases h:s.length with
   | zero=>rfl
   | succ n =>
    rw[show min 1 (n+1)=1 by omega]
    have:idI 1=[0]:=rfl;rw[this];show _=[0]++(idI (n+1)).drop 1
    grind [idI,List.range_succ_eq_map]
  refine Hs.loop (λq=>∃ i:Nat,1<=i/\q.2=(i:Int)/\(i<=s.length\/s.length=0)/\q.1=QJ (bfS s) (idI (min i s.length))++(idI s.length).drop i) (λq=>s.length-q.2.toNat) start ?_
  rintro⟨x,_⟩ ⟨i,hi1,rfl,hi,hx⟩;replace hx:x=QJ (bfS s) (idI (min i s.length))++(idI s.length).drop i:=hx;unfold ZS;dsimp only;refine .dec (λhlt=>?_) λhge=>.lft ?_
  ·have hlt:i<s.length:=by omega
   rw[show min i s.length=i by omega]at hx
   obtain⟨out,ho⟩:∃ out,out=QJ (bfS s) (idI i):=⟨_,rfl⟩;have hol:out.length=i:=by rw[ho,Abb,AhE]
   have hor:∀ v∈out,0<=v/\v<s.length:=λv hv=>by rw[ho]at hv;have:=AkY _ hv;omega
   have hdr:(idI s.length).drop i=(i:Int)::(idI s.length).drop (i+1):=by
    rw[aAZ (by omega)]
    congr 1;have:=Axt hlt;simp_all
   have hsn:QJ (bfS s) (idI (i+1))=Yt (bfS s) out (i:Int):=by rw[Aoa,AkX,ho]
   rw[<- ho,hdr,<- Arp]at hx;have hrl:((idI s.length).drop (i+1)).length=s.length-(i+1):=by simp_all
   generalize(idI s.length).drop (i+1)=rest at hx hrl hdr;have fin:∀ m:Nat,m=TH (bfS s) out (i:Int) out.length->Hs (lft (UT (i:Int) (gap out m (i:Int) rest)):Option ((List Int×Int)⊕((List Int×Int)⊕List Int))) (Rnd (λq:List Int×Int=>∃ j:Nat,q.2=(j:Int)/\j<=out.length/\q.1=gap out j (i:Int) rest/\TH (bfS s) out (i:Int) out.length=TH (bfS s) out (i:Int) j) (λq=>q.2.toNat) (gap out m (i:Int) rest,(m:Int)) (Rnd (λq:List Int×Int=>∃ i:Nat,1<=i/\q.2=(i:Int)/\(i<=s.length\/s.length=0)/\q.1=QJ (bfS s) (idI (min i s.length))++(idI s.length).drop i) (λq=>s.length-q.2.toNat) (x,(i:Int)) λout=>out=QJ (bfS s) (idI s.length))):=by
    intro m hm;unfold UT;rw[OZ (by omega)]
    refine .lft (.cnt ⟨⟨i+1,by omega,rfl,.inl hlt,?_⟩,by grind⟩)
    show gap out m (i:Int) rest=_;rw[show min (i+1) s.length=i+1 by omega,hsn,Arr,hm]
    unfold Yt;congr 1;have:=congrArg List.tail hdr
    grind [List.tail_drop]
   refine Hs.loop (λq=>∃ j:Nat,q.2=(j:Int)/\j<=out.length/\q.1=gap out j (i:Int) rest/\TH (bfS s) out (i:Int) out.length=TH (bfS s) out (i:Int) j) (λq=>q.2.toNat) ⟨out.length,by rw[hol],aAI _,hx,rfl⟩ ?_
   rintro⟨_,_⟩ ⟨j,rfl,hj,rfl,hst⟩;have hgl:=Apk out j (i:Int) rest;dsimp only;refine .dec (λhp=>?_) λhp=>fin j ?_
   ·obtain⟨m,rfl⟩:∃ m:Nat,j=m+1:=⟨j-1,by omega⟩
    have hg:out[m]? =some (out[m]'(by omega)):=aAA _
    have hcr:=hor _ (aAC (show m<out.length by omega))
    generalize out[m]'(by omega)=c at hg hcr
    have ew:IntKind.i64.wrap ((((m+1:Nat):Int))-1)=(m:Int):=by grind [wrap64]
    have g1:=AuH hj (i:Int) rest;have g2:=Arq hg (i:Int) rest;refine .chk (by omega) ?_
    rw[aAB,g1,aA,ew];refine .chk (by omega) ?_
    rw[aAB,g2,aA];refine(AxA (by omega) (by omega) hcr.1 hcr.2).bind λr hr=>.cond (λhb=>?_) λhb=>fin (m+1) ?_
    ·have hb:=hr.1 (of_decide_eq_true hb);unfold YX;rw[ew];refine .chk (by omega) ?_
     rw[aAB,g2,aA];refine .chk (by omega) ?_
     rw[aAB,g1,aA];refine .chk (by omega) ?_
     refine .chk (by grind) ?_
     rw[aAA (by grind),aA,Ars hg]
     exact .cnt ⟨⟨m,rfl,by omega,rfl,by grind [AiZ]⟩,by simp_all⟩
    grind [AkZ]
   ·have hj0:j=0:=by omega
    subst hj0;rw[hst];rfl
  ·have hxe:x=QJ (bfS s) (idI s.length):=by
    simp_all
   have hxl:x.length=s.length:=by grind [Abb]
   refine .chk (by omega) ?_
   refine Hs.loop (λb=>b=20) (λ_=>0) rfl ?_
   rintro _ rfl;refine .dec (λh=>by omega) λ_=>.lft ?_
   refine .chk (by omega) (.pure hxe)
 obtain⟨r,h,rfl⟩:=key;exact h
end
end Go.Proofs.YtilmapojncgflaaGreatDoor
namespace Go.Dw
open Go
theorem AvE (x k w:Nat) (hx:x<2 ^ w) (hk:k<=w):x &&& (2 ^ w-1-(2 ^ k-1))=x / 2 ^ k*2 ^ k:=by
 have hle:2 ^ k<=2 ^ w:=aAJ (by omega) hk
 have h0:0<2 ^ k:=aAe k;apply Nat.eq_of_testBit_eq
 grind [Nat.testBit_lt_two_pow,Nat.lt_of_lt_of_le,aAJ]
theorem AxP (x:Int) (k:Nat) (hk:k<=24) (h0:0<=x) (h1:x<4611686018427387904) :
  IntKind.i64.wrap (((aAP IntKind.i64.bits x &&& ~~~ aAP IntKind.i64.bits ((2 ^ k-1:Nat):Int)).toNat:Nat):Int)=x-x % ((2 ^ k:Nat):Int):=by
 obtain⟨n,rfl⟩:∃ n:Nat,x=(n:Int):=⟨x.toNat,by omega⟩
 have hp:2 ^ k<=2 ^ 24:=aAJ (by omega) hk
 have hp0:0<2 ^ k:=aAe k;have hn:n<2 ^ 64:=by omega
 have hb:IntKind.i64.bits=64:=rfl;rw[hb,aAm,BitVec.toNat_not];have e1:(aAP 64 (n:Int)).toNat=n:=by simp;omega
 have e2:(aAP 64 ((2 ^ k-1:Nat):Int)).toNat=2 ^ k-1:=by
  grind
 rw[e1,e2,AvE n k 64 hn (by omega)]
 have hm:=Nat.div_add_mod n (2 ^ k)
 grind [wrap64]
end Go.Dw
namespace Go.Proofs.YtilmapojncgflaaGreatDoor
open Go Go.Dw Go.Proofs
variable {m:List (List Bool)} {l g:List (List Int)} {i:Int} {s:List Pb} {w:Nat} {p:Ph} {f:Le} {mv:OT->Int->Bool}
theorem AiF (n:Int):SV n=some (decide (0<=n/\n<=2147483647)):=by
 rw[<- Aam];rfl
theorem ApR (a:OX):Ys a=some (decide (QP a)):=by
 rw[<- Zf]
 grind [Ys,SW,AiF,Aam]
theorem AoG {m:Nat} (hm:m<=24):Ru ((2 ^ m:Nat):Int)=some true:=by
 have hp:2 ^ m<=2 ^ 24:=aAJ (by omega) hm
 have h0:0<2 ^ m:=aAe m;have hz:(2 ^ m) &&& (2 ^ m-1)=0:=by simp_all
 unfold Ru;generalize 2 ^ m=a at *;rw[decide_eq_true (show((a:Nat):Int)>=1 by omega),cond_true,decide_eq_true (show((a:Nat):Int)<=16777216 by omega),cond_true,wrap64 (n:=(a:Int)-1) (by omega) (by omega)]
 have hb:IntKind.i64.bits=64:=rfl;have e1:(aAP 64 (a:Int)).toNat=a:=by grind
 have e2:(aAP 64 ((a:Int)-1)).toNat=a-1:=by grind
 rw[hb,aAm,e1,e2,hz];rfl
theorem AsK {a u v:Int} (ha:0<a) (hu:u % a=0) (hv:v % a=0) (h1:u-v<a) (h2:v-u<a):u=v:=by
 obtain⟨p,rfl⟩:=aAS hu;obtain⟨q,rfl⟩:=aAS hv;have key:∀ x y:Int,x<y->a*x+a<=a*y:=λx y h=>by
  have:=aAN (show x+1<=y by omega) (show 0<=a by omega)
  grind
 rcases Int.lt_trichotomy p q with h|h|h
 ·grind
 ·rw[h]
 ·have:=key q p h;omega
theorem Aph {n a:Int} (h0:0<=n) (h1:n<=4000000000) (ha:Tb a):AaA n a=some (upN n a):=by
 obtain⟨a1,a2⟩:=ha.rng;obtain⟨m,hm,rfl⟩:=ha;obtain⟨p1,p2,p3⟩:=Rp (n:=n) (a:=((2 ^ m:Nat):Int)) (by omega)
 unfold AaA;have w1:IntKind.i64.wrap (n+((2 ^ m:Nat):Int))=n+((2 ^ m:Nat):Int):=wrap64 (by omega) (by omega)
 have w2:IntKind.i64.wrap (n+((2 ^ m:Nat):Int)-1)=n+((2 ^ m:Nat):Int)-1:=wrap64 (by omega) (by omega)
 have w3:IntKind.i64.wrap (((2 ^ m:Nat):Int)-1)=((2 ^ m-1:Nat):Int):=by grind [wrap64]
 rw[w1,w2,w3,AxP _ m hm (by omega) (by omega)]
 have key:n+((2 ^ m:Nat):Int)-1-(n+((2 ^ m:Nat):Int)-1) % ((2 ^ m:Nat):Int)=upN n ((2 ^ m:Nat):Int):=by
  refine AsK (a:=((2 ^ m:Nat):Int)) (by omega) ?_ p3 (by omega) (by omega)
  simp_all
 rw[key]
theorem AxX {n a:Int} (h0:0<=n) (h1:n<=1000000000) (ha:Tb a):Agy n a=some (upN n a,0):=by
 have h2:=Aph h0 (by omega) ha
 obtain⟨a1,a2⟩:=ha.rng;obtain⟨p1,p2,p3⟩:=Rp (n:=n) (a:=a) (by omega)
 have hp:Ru a=some true:=by obtain⟨m,hm,rfl⟩:=ha;exact AoG hm
 unfold Agy;rw[AiF,aA,decide_eq_true (show 0<=n/\n<=2147483647 by omega)]
 simp only[aAT,cond_false,hp,aA];unfold Aeu Vx
 grind
theorem Axo {x y:Int} (hx:0<=x/\x<=1000000000) (hy:0<=y/\y<=1000000000):Aeq x y=some (x+y,0):=by
 grind [Aeq,Acz,Vx,AiF,wrap64]
theorem AvP {a:OX} {y size:Int} (ha:QP a) (hp:0<a.Size) (hs:0<size) (h0: -4611686018427387904<=y/\y<=4611686018427387904) (h1:size<=2147483647):Acj a ⟨y,size⟩=some (decide (Acx a size y)):=by
 obtain⟨a1,a2,a3,a4,a5⟩:=ha;unfold Acj;dsimp only;rw[wrap64 (n:=a.Off+a.Size) (by omega) (by omega),wrap64 (n:=y+size) (by omega) (by omega)]
 congr 1;refine decide_eq_decide.2 ?_
 grind [Acx,PH,RU]
def bfO (a b:OX):Bool:=decide (a.Off<b.Off)
theorem Axs (a b:OX):Hs (Aaw a b) λr=>(r<0↔bfO a b=true):=by
 unfold Aaw;simp only[AoC,aA];refine .pure ?_;unfold bfO
 grind
theorem Asr {l:List OX} (hl:l.length<=1000) (h:∀ a∈l,QP a):PM l=some false:=by
 have key:Hs (Qm l) λr=>r= -1:=by
  refine Hs.loop (λi=>∃ k:Nat,i=(k:Int)/\k<=l.length) (λi=>l.length-i.toNat) ⟨0,rfl,aAD _⟩ ?_
  rintro _ ⟨k,rfl,hk⟩;refine .dec (λhlt=>?_) λ_=>.lft (.pure rfl)
  have hlt:k<l.length:=by omega
  rw[Pr,aAA hlt,aA];unfold Aer;rw[ApR,aA,aA,decide_eq_true (h _ (aAC hlt)),OZ (by omega)]
  exact .cnt ⟨⟨k+1,rfl,hlt⟩,by grind⟩
 obtain⟨r,h1,rfl⟩:=key
 grind [PM]
section
variable {l:List OX} {frm size align M:Int}
theorem AuE {x:List OX} (hx:∀ a∈x,QP a/\a.Off+a.Size<=M) (hxp:∀ a∈x,0<a.Size) (hxl:x.length<=1000) (hM:M<=100000) (hf:0<=frm/\frm<=M) (hs:1<=size/\size<=16) (ha:Tb align) (ha':align<=64) (y0:Int) (h0:0<=y0/\y0<=M+63) :
  Hs (Pg (λs=>AcA x size align s.1 s.2) (y0,0)) λr=>r=(x.foldl (swp size align) y0,0):=by
 have har:=ha.rng;refine Hs.loop (λs=>∃ k:Nat,s.2=(k:Int)/\k<=x.length/\s.1=(x.take k).foldl (swp size align) y0/\0<=s.1/\s.1<=M+63) (λs=>x.length-s.2.toNat) ⟨0,rfl,aAD _,rfl,h0.1,h0.2⟩ ?_
 rintro⟨y,_⟩ ⟨k,rfl,hk,hy,y1,y2⟩;replace hy:y=(x.take k).foldl (swp size align) y0:=hy;refine .dec (λhlt=>?_) λhge=>.lft ?_
 ·have hlt:k<x.length:=by omega
  have hg:x[k]? =some x[k]:=aAA _;have htk:x.take (k+1)=x.take k++[x[k]]:=by simp_all
  have hm:=aAC hlt;generalize x[k]=a at hg htk hm;obtain⟨⟨a1,a2,a3,a4,a5⟩,a6⟩:=hx a hm;obtain⟨u1,u2,_⟩:=Rp (n:=a.Off+a.Size) (a:=align) (by omega)
  have hst:(x.take (k+1)).foldl (swp size align) y0=swp size align y a:=by simp_all
  refine .chk (by omega) ?_
  rw[aAB,hg,aA,AvP ⟨a1,a2,a3,a4,a5⟩ (hxp a hm) (by omega) (by omega) (by omega),aA,OZ (by omega)]
  refine .dec (λh=>?_) λh=>.cnt ⟨⟨k+1,rfl,hlt,?_,y1,y2⟩,by grind⟩
  ·rw[wrap64 (by omega) (by omega),Aph (by omega) (by omega) ha,aA]
   refine .cnt ⟨⟨k+1,rfl,hlt,?_,by omega,by omega⟩,by grind⟩
   simp_all[swp]
  simp_all[swp]
 ·have hkk:k=x.length:=by omega
  subst hkk;rw[aAK]at hy;rw[wrap64 (by omega) (by omega),decide_eq_false (by omega),cond_false]
  exact .pure (show(y,(0:Int))=_ by rw[hy])
theorem Auf {y:Int} (hl:l.length<=12) (hM:M<=100000) (hf:0<=frm/\frm<=M) (hs:1<=size/\size<=16) (ha:Tb align) (ha':align<=64) (hu:∀ u∈l,QP u/\u.Off+u.Size<=M) (hp:∀ u∈l,0<u.Size) (hy:RP l frm size align y) :
  Za l frm size align=some (y,0):=by
 have har:=ha.rng;have ep:Ru align=some true:=by obtain⟨m,hm,rfl⟩:=ha;exact AoG hm
 have key:Hs (Za l frm size align) λr=>r=(y,0):=by
  unfold Za;simp only[AiF,aA,ep];rw[decide_eq_true (p:=0<=frm/\frm<=2147483647) (by omega),decide_eq_true (p:=0<=size/\size<=2147483647) (by omega),Asr (by omega) λa h=>(hu a h).1]
  simp only[aAT,cond_false,aA];unfold AcC Arc Zj AcH Aih;rw[PN (by omega),aA,PN ?_,aA,aA]
  rotate_left
  ·have:=Akl (l.length:Int);omega
  refine Hs.loop (λ_=>True) (λ_=>0) trivial ?_
  rintro _ -;unfold AcB;rw[wrap64 (by omega) (by omega)]
  refine .dec (λ_=>?_) λh=>by omega
  have start:∃ i:Nat,1<=i/\((1:Nat):Int)=(i:Int)/\(i<=l.length\/l.length=0)/\l=QJ bfO (l.take (min i l.length))++l.drop i:=by
   refine⟨1,aAI _,rfl,by omega,?_⟩
   cases l<;>grind [QJ,Yt,gap]
  refine Hs.loop (λq=>∃ i:Nat,1<=i/\q.2=(i:Int)/\(i<=l.length\/l.length=0)/\q.1=QJ bfO (l.take (min i l.length))++l.drop i) (λq=>l.length-q.2.toNat) start ?_
  rintro⟨x,_⟩ ⟨i,hi1,rfl,hi,hx⟩;replace hx:x=QJ bfO (l.take (min i l.length))++l.drop i:=hx;dsimp only;refine .dec (λhlt=>?_) λhge=>.lft ?_
  ·have hlt:i<l.length:=by omega
   rw[show min i l.length=i by omega]at hx
   obtain⟨out,ho⟩:∃ out,out=QJ bfO (l.take i):=⟨_,rfl⟩;have hol:out.length=i:=by grind [Abb]
   have hdr:l.drop i=l[i]::l.drop (i+1):=aAZ hlt;have htk:l.take (i+1)=l.take i++[l[i]]:=by grind
   have hrl:(l.drop (i+1)).length=l.length-(i+1):=by simp
   generalize l[i]=e at hdr htk;have hsn:QJ bfO (l.take (i+1))=Yt bfO out e:=by grind [AkX]
   rw[<- ho,hdr,<- Arp]at hx;obtain⟨rest,hrest⟩:∃ rest,rest=l.drop (i+1):=⟨_,rfl⟩;rw[<- hrest]at hx hrl;have fin:∀ m:Nat,m=TH bfO out e out.length->Hs (lft (WB (i:Int) (gap out m e rest)):Option ((List OX×Int)⊕((List OX×Int)⊕(Unit⊕(Int×Int))))) (Rnd (λq:List OX×Int=>∃ j:Nat,q.2=(j:Int)/\j<=out.length/\q.1=gap out j e rest/\TH bfO out e out.length=TH bfO out e j) (λq=>q.2.toNat) (gap out m e rest,(m:Int)) (Rnd (λq:List OX×Int=>∃ i:Nat,1<=i/\q.2=(i:Int)/\(i<=l.length\/l.length=0)/\q.1=QJ bfO (l.take (min i l.length))++l.drop i) (λq=>l.length-q.2.toNat) (x,(i:Int)) (Rnd (λ_:Unit=>True) (λ_=>0) () λr=>r=(y,0)))):=by
    intro m hm;unfold WB;rw[OZ (by omega)]
    refine .lft (.cnt ⟨⟨i+1,by omega,rfl,.inl hlt,?_⟩,by grind⟩)
    rw[show min (i+1) l.length=i+1 by omega,hsn,Arr,hm,<- hrest]
    rfl
   refine Hs.loop (λq=>∃ j:Nat,q.2=(j:Int)/\j<=out.length/\q.1=gap out j e rest/\TH bfO out e out.length=TH bfO out e j) (λq=>q.2.toNat) ⟨out.length,by rw[hol],aAI _,hx,rfl⟩ ?_
   rintro⟨_,_⟩ ⟨j,rfl,hj,rfl,hst⟩;have hgl:=Apk out j e rest;dsimp only;refine .dec (λhp=>?_) λhp=>fin j ?_
   ·obtain⟨m,rfl⟩:∃ m:Nat,j=m+1:=⟨j-1,by omega⟩
    have hg:out[m]? =some (out[m]'(by omega)):=aAA _
    generalize out[m]'(by omega)=c at hg
    have ew:IntKind.i64.wrap ((((m+1:Nat):Int))-1)=(m:Int):=by grind [wrap64]
    have g1:=AuH hj e rest;have g2:=Arq hg e rest;refine .chk (by omega) ?_
    rw[aAB,g1,aA,ew];refine .chk (by omega) ?_
    rw[aAB,g2,aA];refine(Axs e c).bind λr hr=>.cond (λhb=>?_) λhb=>fin (m+1) ?_
    ·have hb:=hr.1 (of_decide_eq_true hb);unfold AcD;rw[ew];refine .chk (by omega) ?_
     rw[aAB,g2,aA];refine .chk (by omega) ?_
     rw[aAB,g1,aA];refine .chk (by omega) ?_
     refine .chk (by grind) ?_
     rw[aAA (by grind),aA,Ars hg]
     exact .cnt ⟨⟨m,rfl,by omega,rfl,by grind [AiZ]⟩,by simp_all⟩
    grind [AkZ]
   ·have hj0:j=0:=by omega
    subst hj0;rw[hst];rfl
  ·have hxe:x=QJ bfO l:=by
    simp_all
   have hxl:x.length=l.length:=by rw[hxe,Abb]
   have hmem:∀ a,a∈x↔a∈l:=λa=>by rw[hxe,AmJ]
   have hso:Aqy x:=by rw[hxe];exact AmK (key:=OX.Off) (λa b=>by unfold bfO;grind) l
   obtain⟨u1,u2,_⟩:=Rp (n:=frm) (a:=align) (by omega)
   refine .lft ?_;refine .chk (by omega) ?_
   rw[Aph (by omega) (by omega) ha,aA]
   refine(AuE (frm:=frm) (λa h=>hu a ((hmem a).1 h)) (λa h=>hp a ((hmem a).1 h)) (by omega) hM hf hs ha ha' _ ⟨by omega,by omega⟩).mono λr hr=>?_
   subst hr;have:=(AnL (frm:=frm) (size:=size) (al:=align) (by omega) hso).ArI hmem
   show(_,(0:Int))=_;rw[this.unique hy]
 obtain⟨r,h,rfl⟩:=key;exact h
theorem Awa (ha:Tb align) (l:List OX) (frm size:Int):∃ y,RP l frm size align y:=by
 have har:=ha.rng;have hso:Aqy (QJ bfO l):=AmK (key:=OX.Off) (λa b=>by simp_all[bfO]) l
 exact⟨_,(AnL (frm:=frm) (size:=size) (al:=align) (by omega) hso).ArI λa=>AmJ bfO l a⟩
end
open Go Go.Dw Go.Proofs
theorem Awo:∀ k:Fin 17,AbD ((k:Nat):Int)=TC ((k:Nat):Int)/\(TC ((k:Nat):Int)).isSome=true:=by decide +kernel
theorem Aqc (n:Int):∃ b,AbD n=some b/\TC n=some b:=by
 by_cases h:1<=n/\n<=16
 ·have:=Awo ⟨n.toNat,by omega⟩
  grind [Option.isSome_iff_exists]
 ·refine⟨false,?_,?_⟩
  ·grind [AbD]
  ·unfold TC;have e1:(n==1)=false:=by simp;omega
   have e2:(n==2)=false:=by simp;omega
   have e3:(n==4)=false:=by simp;omega
   have e4:(n==8)=false:=by simp;omega
   have e5:(n==16)=false:=by simp;omega
   grind
def Pw (n:Int):Prop:=∃ i:Nat,i<=24/\n=(2 ^ i:Nat)
theorem AmH (n:Int) (j:Nat) (hj:j<=24):RO n ((2 ^ j:Nat):Int)=if n=(2 ^ j:Nat)then some (.inr true)else some (.inl ((2 ^ (j+1):Nat):Int)):=by
 have h1:2 ^ j<=2 ^ 24:=aAJ (by decide) hj
 have h2:(2 ^ j:Nat)<=16777216:=by omega
 have w:IntKind.i64.wrap (((2 ^ j:Nat):Int)*2)=((2 ^ (j+1):Nat):Int):=by
  grind [wrap64]
 unfold RO;have hd:decide (((2 ^ j:Nat):Int)<=16777216)=true:=by grind
 simp_all
theorem Avj (n:Int):∀ (d j:Nat),j+d<=24->n=(2 ^ (j+d):Nat)->Pg (λs=>RO n s) ((2 ^ j:Nat):Int)=some true:=by
 intro d
 induction d with
 | zero =>
  intro j hj hn;rw[AcY];rw[AmH n j (by omega),if_pos (by omega)]
 | succ d ih =>
  intro j hj hn;rw[AcY];rw[AmH n j (by omega),if_neg]
  ·grind
  ·have:2 ^ j<2 ^ (j+(d+1)):=Nat.pow_lt_pow_right (by decide) (by omega)
   omega
theorem Apa (n:Int) (h:¬ Pw n):∀ (d j:Nat),j+d=25->Pg (λs=>RO n s) ((2 ^ j:Nat):Int)=some false:=by
 intro d
 induction d with
 | zero =>
  simp_all[AcY,RO]
 | succ d ih =>
  intro j hj;rw[AcY];rw[AmH n j (by omega),if_neg (λe=>h ⟨j,by omega,e⟩)]
  grind
theorem AxE {i:Nat} (h:2 ^ i<=16777216):i<=24:=by
 by_cases hi:i<=24
 ·exact hi
 ·have:2 ^ 25<=2 ^ i:=aAJ (by decide) (by omega)
  omega
theorem AoS (n:Int):∃ b,Ru n=some b/\Rj n=some b:=by
 have hr:Rj n=Pg (λs=>RO n s) ((2 ^ 0:Nat):Int):=rfl
 by_cases h:1<=n/\n<=16777216
 ·obtain⟨m,rfl⟩:∃ m:Nat,n=m:=⟨n.toNat,by omega⟩
  have e1:Ru (m:Int)=some (decide (m &&& (m-1)=0)):=by
   unfold Ru;have h1:((m:Int)>=1):=h.1;have h2:((m:Int)<=16777216):=h.2;have w:IntKind.i64.wrap ((m:Int)-1)=((m-1:Nat):Int):=by grind [wrap64]
   have t1:(aAP IntKind.i64.bits (m:Int)).toNat=m:=by
    show(aAP 64 (m:Int)).toNat=m
    grind
   have t2:(aAP IntKind.i64.bits ((m-1:Nat):Int)).toNat=m-1:=by
    grind
   have hle:m &&& (m-1)<=m:=Nat.and_le_left;have w2:IntKind.i64.wrap ((m &&& (m-1):Nat):Int)=((m &&& (m-1):Nat):Int):=wrap64 (by omega) (by omega)
   rw[decide_eq_true h1,cond_true,decide_eq_true h2,cond_true,w,aAm,t1,t2,w2];congr 1
   grind
  by_cases hp:m &&& (m-1)=0
  ·obtain⟨i,hi⟩:=(aAY (show m≠0 by omega)).1 hp
   refine⟨true,by simp_all,?_⟩
   exact Avj _ i 0 (by have:=AxE (i:=i) (by omega);omega) (by simp_all)
  ·refine⟨false,by simp_all,?_⟩
   refine Apa _ (λ⟨i,_,hi⟩=>hp ?_) 25 0 (by omega)
   exact(aAY (show m≠0 by omega)).2 ⟨i,by omega⟩
 ·refine⟨false,?_,?_⟩
  ·grind [Ru]
  ·rw[hr];refine Apa _ (λ⟨i,hi24,hi⟩=>h ?_) 25 0 (by omega)
   have h1:2 ^ i<=2 ^ 24:=aAJ (by decide) hi24
   grind
noncomputable def AcT (x:Pb):Bool:=(TC x.Size).getD false&&(Rj x.Align).getD false
theorem AuA (x:Pb):Yq x=some (!AcT x):=by
 obtain⟨a,a1,a2⟩:=Aqc x.Size;obtain⟨b,b1,b2⟩:=AoS x.Align
 grind [Yq,AcT]
def AlL (s:List Pb) (e:Int):Prop:=(512<s.length/\e=3)\/(s.length<=512/\(∀ x∈s,AcT x=true)/\e=0)\/(s.length<=512/\(∃ x∈s,AcT x=false)/\e=5)
theorem AlL.one {a b:Int} (h:AlL s a) (k:AlL s b):a=b:=by
 rcases h with⟨h1,h2⟩|⟨h1,h2,h3⟩|⟨h1,⟨x,h2,h3⟩,h4⟩<;>rcases k with⟨k1,k2⟩|⟨k1,k2,k3⟩|⟨k1,⟨y,k2,k3⟩,k4⟩<;>first
  | omega
  | (simp_all)
  | simp_all
theorem Arl (s:List Pb):Hs (Yp s) (AlL s):=by
 refine .dec (λh=>.pure (.inl ⟨by omega,rfl⟩)) λh=>?_
 have hl:s.length<=512:=by omega
 have key:Hs (Pg (λst=>Qs s st) 0) λr=>(r= -1/\∀ x∈s,AcT x=true)\/(0<=r/\∃ x∈s,AcT x=false):=by
  refine Hs.loop (λi=>0<=i/\i<=s.length/\∀ (j:Nat) x,(j:Int)<i->s[j]? =some x->AcT x=true) (λi=>s.length-i.toNat) ⟨by omega,by omega,λj x h=>by omega⟩ ?_
  rintro i ⟨h0,h1,h2⟩;refine .dec (λhlt=>?_) λhlt=>?_
  ·refine(Hs.ix h0 hlt λx hx=>hx).bind λx hx=>?_
   rw[AuA,aA];refine .cond (λhb=>.lft (.pure (.inr ⟨h0,x,aAG hx,by simp_all⟩))) λhb=>?_
   have w:IntKind.i64.wrap (i+1)=i+1:=wrap64 (by omega) (by omega)
   rw[w];refine .cnt ⟨⟨by omega,by omega,λj y hj hy=>?_⟩,by grind⟩
   grind
  ·refine .lft (.pure (.inl ⟨rfl,λx hx=>?_⟩))
   grind [aAs]
 refine Hs.bind (P:=λb=>(b=false/\∀ x∈s,AcT x=true)\/(b=true/\∃ x∈s,AcT x=false)) (key.bind λr hr=>.pure ?_) λb hb=>?_
 ·grind
 ·rcases hb with⟨rfl,h⟩|⟨rfl,h⟩
  ·exact .pure (.inr (.inl ⟨hl,h,rfl⟩))
  ·exact .pure (.inr (.inr ⟨hl,h,rfl⟩))
theorem Avd (s:List Pb):Hs (Uv s) (AlL s):=by
 refine .dec (λh=>.pure (.inl ⟨by omega,rfl⟩)) λh=>?_
 have hl:s.length<=512:=by omega
 refine Hs.loop (λi=>0<=i/\i<=s.length/\∀ (j:Nat) x,(j:Int)<i->s[j]? =some x->AcT x=true) (λi=>s.length-i.toNat) ⟨by omega,by omega,λj x h=>by omega⟩ ?_
 rintro i ⟨h0,h1,h2⟩;refine .dec (λhlt=>?_) λhlt=>?_
 ·refine(Hs.ix h0 hlt λx hx=>hx).bind λx hx=>?_
  obtain⟨a,a1,a2⟩:=Aqc x.Size;obtain⟨b,b1,b2⟩:=AoS x.Align;have hg:AcT x=(a&&b):=by grind [AcT]
  rw[a2,aA];have hx':ixO s i=some x:=by grind [Qt]
  cases a
  ·exact .lft (.pure (.inr (.inr ⟨hl,⟨x,aAG hx,hg⟩,rfl⟩)))
  ·rw[hx',aA,b2,aA];cases b
   ·exact .lft (.pure (.inr (.inr ⟨hl,⟨x,aAG hx,hg⟩,rfl⟩)))
   ·simp only[aAT,cond_false];have w:IntKind.i64.wrap (i+1)=i+1:=wrap64 (by omega) (by omega)
    rw[w];refine .cnt ⟨⟨by omega,by omega,λj y hj hy=>?_⟩,by grind⟩
    grind
 ·refine .lft (.pure (.inr (.inl ⟨hl,λx hx=>?_,rfl⟩)))
  grind [aAs]
theorem Apc (s:List Pb):∃ e,Yp s=some e/\Uv s=some e/\(e=0->s.length<=512):=by
 obtain⟨a,a1,a2⟩:=Arl s;obtain⟨b,b1,b2⟩:=Avd s;obtain rfl:=a2.one b2;exact⟨a,a1,b1,λh=>by rcases a2 with h1|h1|h1<;>omega⟩
attribute [local simp] PN aAl
theorem contains_eq (s:List Int) (v:Int) (hs:s.length<=9223372036854775807):RG s v=some (decide (v∈s)):=by
 grind [RG,Arw,AnG]
theorem Atf (x y:Int):Aan x y=some (decide (x<y)):=by simp[Aan,TN]
theorem Avp (s:List Int) (t:Int) (hp:s.Pairwise (· <·)) (hs:s.length<=1000000):∃ i,RE s t=some (i,decide (t∈s)):=by
 unfold RE;have key:=Agp (body:=λs_1:Int×Int=>PO s t s_1.1 s_1.2) (s:=(0,(s.length:Int)))
  (λst=>∃ i j:Nat,st=((i:Int),(j:Int))/\i<=j/\j<=s.length/\(∀ (k:Nat) x,k<i->s[k]? =some x->x<t)/\∀ (k:Nat) x,j<=k->s[k]? =some x->t<=x)
  (λr=>r.2=decide (t∈s)) (λst=>(st.2-st.1).toNat) ⟨0,s.length,rfl,aAD _,aAI _,λk x hk=>absurd hk (aAH _),λk x hk hx=>by
   simp_all⟩ (λst hI=>by
   obtain⟨i,j,rfl,hij,hj,h1,h2⟩:=hI
   by_cases hlt:i<j
   ·left;have hm:=Ayd (a:=(i:Int)+j) (by omega) (by omega)
    have hmid:((i:Int)+j) / 2=(((i+j) / 2:Nat):Int):=by omega
    rw[hmid]at hm;have hm1:i<=(i+j) / 2:=by omega
    have hm2:(i+j) / 2<j:=by omega
    generalize(i+j) / 2=m at *;have hml:m<s.length:=by omega
    have w:=OZ (show m<9223372036854775807 by omega)
    by_cases hx:s[m]<t
    ·refine⟨(((m+1:Nat):Int),(j:Int)),?_,⟨m+1,j,rfl,by omega,hj,λk x hk hkx=>?_,h2⟩,by omega⟩
     ·simp_all[PO,Atf]
     grind [aAO]
    ·refine⟨((i:Int),(m:Int)),?_,⟨i,m,rfl,by omega,by omega,h1,λk x hk hkx=>?_⟩,by omega⟩
     ·simp only[PO,hm];simp[hlt,hml,Atf,hx]
     grind [aAO]
   ·right;have e:i=j:=by omega
    subst e;have hmem:t∈s↔s[i]? =some t:=by
     constructor
     ·intro ht;obtain⟨k,hk⟩:=aAF ht;rcases Nat.lt_trichotomy k i with h|h|h
      ·grind
      ·simp_all
      ·obtain⟨hkl,hkt⟩:=aAE.1 hk;have h3:=h2 i s[i] (aAI _) (aAA (by omega))
       grind [aAO]
     grind
    by_cases hil:i<s.length
    ·by_cases hx:s[i]=t
     ·simp_all[PO,QC]
     ·have ht:¬ t∈s:=λh=>by
       simp_all
      simp_all[PO,QC,VU]
    ·have ht:¬ t∈s:=λh=>by
      simp_all
     exact⟨((i:Int),false),by simp[PO,QC,hil],by simp[ht]⟩)
 simp_all
section
variable {g:List (List Int)} {n:Int}
theorem Ayp (hn:(g.length:Int)=n) (hg:g.length<=1000) (hr:∀ (x:Nat) s,g[x]? =some s->Ahu n x s) {x:Nat} {row:List Int} (hx:g[x]? =some row) :
  ∃ r,Pg (λs=>Sc row g (x:Int) s) 0=some r/\((∀ y∈row,(x:Int)∈rowAt g y)/\r= .inl ((x+1:Nat):Int)\/(¬ ∀ y∈row,(x:Int)∈rowAt g y)/\r= .inr false):=by
 have hrow:=hr x row hx;have hxl:=(aAE.1 hx).1;have hlen:=hrow.1.length_le;have wx:=OZ (show x<9223372036854775807 by omega)
 open Classical in
 have:=Rf (body:=λs=>Sc row g (x:Int) s) row (λ(_:Unit) i=>i) (λ_ _=>True) (λ_ l=>some (if ∀ y∈l,(x:Int)∈rowAt g y then(.inl ((x+1:Nat):Int):Int⊕Bool)else .inr false))
  (λ_ _=>⟨.inl ((x+1:Nat):Int),by simp[Sc,wx],by simp⟩) (λ_ i y r _ hd hi hy=>by
   have hym:y∈row:=aAG hy;have h0:=hrow.1.2 y hym;have h1:=hrow.2.1 y hym;have hyl:y.toNat<g.length:=by omega
   have hgy:g[y.toNat]? =some g[y.toNat]:=aAA hyl;have hs:=hr _ _ hgy;obtain⟨q,hq⟩:=Avp g[y.toNat] (x:Int) hs.1.1 (by have:=hs.1.length_le;omega)
   have w:=OZ (show i<9223372036854775807 by omega)
   have hra:rowAt g y=g[y.toNat]:=by grind [rowAt]
   by_cases hin:(x:Int)∈g[y.toNat]
   all_goals simp_all[Sc,Qt]) () trivial
 grind
theorem Ayo (hn:(g.length:Int)=n) (hg:g.length<=1000) (hr:∀ (x:Nat) s,g[x]? =some s->Ahu n x s):∃ b,Pg (λs=>RD g s) 0=some b/\(b=true↔Sn g n):=by
 have key:=Agp (body:=λs=>RD g s) (s:=0) (λs=>∃ x:Nat,s=(x:Int)/\x<=g.length/\∀ (k:Nat) s,k<x->g[k]? =some s->∀ y∈s,(k:Int)∈rowAt g y)
  (λb=>b=true↔Sn g n) (λs=>g.length-s.toNat) ⟨0,rfl,aAD _,λk s hk=>absurd hk (aAH _)⟩ (λs hI=>by
   obtain⟨x,rfl,hx,hall⟩:=hI
   by_cases hlt:x<g.length
   ·have hgx:g[x]? =some g[x]:=aAA hlt;obtain⟨r,h1,⟨h2,rfl⟩|⟨h2,rfl⟩⟩:=Ayp hn hg hr hgx
    ·refine .inl ⟨((x+1:Nat):Int),?_,⟨x+1,rfl,hlt,λk s hk hks=>?_⟩,by omega⟩
     ·simp[RD,hlt,h1]
     grind
    ·refine .inr ⟨false,by simp[RD,hlt,h1],?_⟩
     constructor
     ·simp_all
     ·intro h;exact(h2 (h.2.2 x _ hgx)).elim
   ·refine .inr ⟨true,by simp[RD,hlt],?_⟩
    constructor
    ·intro _;exact⟨hn,hr,λk s hks=>hall k s (by grind) hks⟩
    simp_all)
 exact key
theorem Axu {s:List Int} (h:PV s) (hs:0<s.length):(∀ y∈s,y<n)↔s[s.length-1]<n:=by
 constructor
 ·simp_all
 ·intro h1 y hy;obtain⟨k,hk⟩:=aAF hy;obtain⟨hkl,rfl⟩:=aAE.1 hk
  by_cases e:k=s.length-1
  ·simp_all
  ·have:=aAO.1 h.1 k (s.length-1) hkl (by omega) (by omega)
   omega
theorem AuK (hg:g.length<=1000) (hq:∀ s∈g,s.length<=9223372036854775807):∃ b,WZ g n=some b/\(b=true↔Sn g n):=by
 unfold WZ
 by_cases hn:(g.length:Int)=n
 ·simp only[hn,bne_self_eq_false,cond_false];refine Agp (body:=λs=>PY g n s) (s:=0) (λs=>∃ x:Nat,s=(x:Int)/\x<=g.length/\∀ (k:Nat) s,k<x->g[k]? =some s->Ahu n k s)
   (λb=>b=true↔Sn g n) (λs=>g.length-s.toNat) ⟨0,rfl,aAD _,λk s hk=>absurd hk (aAH _)⟩ (λs hI=>?_)
  obtain⟨x,rfl,hx,hall⟩:=hI
  by_cases hlt:x<g.length
  ·have hgx:g[x]? =some g[x]:=aAA hlt;have hl:=hq _ (aAC hlt);have w:=OZ (show x<9223372036854775807 by omega)
   have bad:¬ Ahu n x g[x]->PY g n x=some (.inr false)->(∃ r,PY g n x=some (.inr r)/\(r=true↔Sn g n)):=λh1 h2=>⟨false,h2,λh=>(by cases h),λh=>(h1 (h.2.1 x _ hgx)).elim⟩
   have good:Ahu n x g[x]->PY g n x=some (.inl ((x+1:Nat):Int))->(∃ s',PY g n x=some (.inl s')/\(∃ x:Nat,s'=(x:Int)/\x<=g.length/\∀ (k:Nat) s,k<x->g[k]? =some s->Ahu n k s)/\g.length-s'.toNat<g.length-((x:Int)).toNat) :=
    λh1 h2=>⟨_,h2,⟨x+1,rfl,hlt,λk s hk hks=>by
     grind⟩,by omega⟩
   by_cases hset:PV g[x]
   ·have hb:TS none g[x]=true:=(AdC _).2 hset
    by_cases h0:0<g[x].length
    ·have wl:IntKind.i64.wrap ((g[x].length:Int)-1)=((g[x].length-1:Nat):Int):=by grind [wrap64]
     have hlast:g[x][g[x].length-1]? =some (g[x][g[x].length-1]'(by omega)):=aAA _
     by_cases hm:g[x][g[x].length-1]'(by omega)<n
     ·have hall':=(Axu (n:=n) hset h0).2 hm
      by_cases hc:(x:Int)∈g[x]
      ·exact .inr (bad (λh=>h.2.2 hc) (by simp[PY,hlt,AdD _ hl,hb,h0,wl,hlast,show ¬ n<=g[x][g[x].length-1]'(by omega)by omega,contains_eq _ _ hl,hc]))
      ·exact .inl (good ⟨hset,hall',hc⟩ (by simp[PY,hlt,AdD _ hl,hb,h0,wl,hlast,show ¬ n<=g[x][g[x].length-1]'(by omega)by omega,contains_eq _ _ hl,hc,w]))
     ·exact .inr (bad (λh=>hm (h.2.1 _ (aAC _))) (by simp[PY,hlt,AdD _ hl,hb,h0,wl,hlast,show n<=g[x][g[x].length-1]'(by omega)by omega]))
    ·have hnil:g[x]=[]:=List.eq_nil_of_length_eq_zero (by omega)
     exact .inl (good (by rw[hnil];exact⟨PV.nil,λy hy=>(by cases hy),by simp⟩) (by simp[PY,hlt,hnil,AdD [] (by simp),TS,contains_eq [] _ (by simp),w]))
   ·have hb:TS none g[x]=false:=by
     grind [AdC]
    exact .inr (bad (λh=>hset h.1) (by simp[PY,hlt,AdD _ hl,hb]))
  ·right;obtain⟨b,h1,h2⟩:=Ayo hn hg (λk s hks=>hall k s (by grind) hks)
   exact⟨b,by simp[PY,hlt,h1],h2⟩
 ·refine⟨false,by simp[hn],?_⟩
  constructor
  ·simp_all
  ·intro h;exact(hn h.1).elim
end
open Go Go.Dw Go.Proofs
def AmO (s:List Pb) (g:List (List Int)) (done:List Bool) (off:List Int) (w:Nat) (l:List OX):Prop:=∀ u,u∈l↔∃ y:Nat,done[y]? =some true/\(y:Int)∈rowAt g w/\u=ivN s off y
open Classical in
noncomputable def AoL (s:List Pb) (g:List (List Int)) (frm:Int) (done:List Bool) (off:List Int) (w:Nat):Int :=
 if h:∃ y l,AmO s g done off w l/\RP l frm (szN s w) (alN s w) y then aAw h else 0
theorem AuQ {frm:Int} {done:List Bool} {off:List Int} {l:List OX} {y:Int} (hl:AmO s g done off w l) (hy:RP l frm (szN s w) (alN s w) y):AoL s g frm done off w=y:=by
 unfold AoL;have h:∃ y l,AmO s g done off w l/\RP l frm (szN s w) (alN s w) y:=⟨y,l,hl,hy⟩;rw[dif_pos h];obtain⟨l',h1,h2⟩:=aAt h;exact(h2.ArI λa=>(h1 a).trans (hl a).symm).unique hy
noncomputable def AqF (s:List Pb) (g:List (List Int)) (frm:Int) (q:List Bool×List Int) (v:Int):List Bool×List Int:=(q.1.set v.toNat true,q.2.set v.toNat (AoL s g frm q.1 q.2 v.toNat))
noncomputable def AlM (s:List Pb) (g:List (List Int)) (frm:Int) (ord:List Int):List Bool×List Int:=ord.foldl (AqF s g frm) (aAR s.length false,aAR s.length 0)
theorem ApM {frm:Int} {ord:List Int} {k:Nat} {v:Int} (h:ord[k]? =some v):AlM s g frm (ord.take (k+1))=AqF s g frm (AlM s g frm (ord.take k)) v:=by
 grind [aAc,AlM]
section
variable {s:List Pb} {g:List (List Int)} {frm:Int} {ord:List Int} {k:Nat} {done:List Bool} {off:List Int}
theorem Arn (hs:Uc s) (hg:Sn g s.length) (hf:0<=frm/\frm<=1000) (hI:Asg s g frm ord k done off) (hk:k<=7) (hov:ord[k]? =some (w:Int)) {x:Pb} (hsw:s[w]? =some x) {l:List OX} (hl:l.length<=12) (hu:AmO s g done off w l) :
  ∃ y,AoL s g frm done off w=y/\AaQ l frm x.Size x.Align=some (y,0)/\Za l frm x.Size x.Align=some (y,0)/\Asg s g frm ord (k+1) (done.set w true) (off.set w y):=by
 obtain⟨dl,fl,pl,ap,cov⟩:=id hI;obtain⟨a1,a2,a3,a4⟩:=hs.2 _ (aAG hsw);have har:=a1.rng;have hR:∀ u∈l,(QP u/\u.Off+u.Size<=frm+80*(k:Int))/\0<u.Size:=λu hu'=>by
  obtain⟨y,hy,_,rfl⟩:=(hu u).1 hu';obtain⟨p1,p2,_⟩:=pl y hy;have hyl:y<s.length:=by grind
  have hsy:s[y]? =some s[y]:=aAA _;obtain⟨_,_,b3,b4⟩:=hs.2 _ (aAC hyl);rw[<- (SR hsy).1]at b3 b4;refine⟨⟨⟨?_,?_,?_,?_,?_⟩,p2⟩,?_⟩<;>simp only[ivN]<;>omega
 obtain⟨y,hy⟩:=Awa a1 l frm x.Size;obtain⟨z1,z2⟩:=SR hsw;have e1:=AuD (M:=frm+80*(k:Int)) (by omega) (by omega) (by omega) ⟨a3,a4⟩ a1 a2 (λu h=>(hR u h).1) (λu h=>(hR u h).2) hy
 have e2:=Auf (M:=frm+80*(k:Int)) hl (by omega) (by omega) ⟨a3,a4⟩ a1 a2 (λu h=>(hR u h).1) (λu h=>(hR u h).2) hy
 have hle:y<=frm+80*(k:Int)+63:=by
  rcases hy.AxV (by omega)with h|⟨a,ha,h⟩
  ·have:=Rp (n:=frm) (a:=x.Align) (by omega);omega
  ·have:=Rp (n:=max frm (a.Off+a.Size)) (a:=x.Align) (by omega)
   grind
 have hge:=hy.ge;refine⟨y,AuQ hu (by simp_all),e1,e2,hI.step hg hov hsw hge (by omega) (by rw[aAh (by omega)];exact hy.al0) λz h1 h2 ho=>?_⟩
 exact hy.free _ ((hu _).2 ⟨z,h1,h2,rfl⟩) ⟨ho.2.2.2.2.1,ho.2.2.2.2.2⟩
theorem AqQ:Asg s g frm ord 0 (aAR s.length false) (aAR s.length 0):=by
 refine⟨by simp,by simp,λy hy=>?_,λy z _ hy=>?_,λj hj=>absurd hj (aAH _)⟩
 all_goals grind
theorem AmV (hg:Sn g s.length) (hw:w<s.length):g[w]? =some (rowAt g w):=by
 have hgg:g.length=s.length:=by have:=hg.1;omega
 grind [rowAt]
theorem AjQ {y:Nat} (h:y<off.length):off[y]? =some (oN off y):=by grind [oN]
theorem Aui (hs:Uc s) (hso:∀ x∈s,TZ x) (hg:Sn g s.length) (hgl:∀ row∈g,row.length<=512) (hf:0<=frm/\frm<=1000) :
  Hs (YF s g frm) λq=>q=((AlM s g frm (QJ (bfS s) (idI s.length))).2,0):=by
 have hsl:=hs.1;have hgg:g.length=s.length:=by have:=hg.1;omega
 obtain⟨b,hb1,hb2⟩:=Aqb (g:=g) (n:=(s.length:Int)) (by omega) λr hr=>by grind
 refine(AmI hso (by omega)).bind λe he=>?_
 subst he;rw[hb1,hb2.2 hg,aA,Aam,aA,decide_eq_true (by omega)]
 refine .chk (by omega) (.chk (by omega) ?_)
 rw[Avi (by omega),aA]
 obtain⟨ord,ho⟩:∃ ord,ord=QJ (bfS s) (idI s.length):=⟨_,rfl⟩;have ol:ord.length=s.length:=by rw[ho,Abb,AhE]
 have ov:∀ v∈ord,0<=v/\v<s.length:=λv hv=>by rw[ho]at hv;exact AkY _ hv
 rw[<- ho];refine Hs.loop (λq=>∃ k:Nat,q.2.2=(k:Int)/\k<=ord.length/\Asg s g frm ord k q.1 q.2.1/\(q.1,q.2.1)=AlM s g frm (ord.take k)) (λq=>ord.length-q.2.2.toNat) ⟨0,rfl,aAD _,AqQ,rfl⟩ ?_
 rintro⟨done,off,_⟩ ⟨k,rfl,hk,hI,he⟩;replace hI:Asg s g frm ord k done off:=hI;obtain⟨dl,fl,pl,ap,cov⟩:=id hI;dsimp only;refine .dec (λhlt=>?_) λhge=>.lft (.pure ?_)
 rotate_left
 ·have hkk:k=ord.length:=by omega
  subst hkk;rw[aAK]at he;show(off,(0:Int))=_;rw[<- he]
 have hlt:k<ord.length:=by omega
 have hov:ord[k]? =some ord[k]:=aAA hlt;have hvr:=ov _ (aAC hlt);generalize ord[k]=v at hov hvr;refine .chk (by omega) ?_
 rw[aAB,hov,aA];obtain⟨w,rfl⟩:∃ w:Nat,v=(w:Int):=⟨v.toNat,by omega⟩
 have hw:w<s.length:=by omega
 have hgr:ixO g (w:Int)=some (rowAt g w):=by grind [Pr,AmV]
 have hrl:(rowAt g w).length<=512:=hgl _ (aAG (AmV hg hw));refine Hs.loop (λq=>∃ j:Nat,q.2=(j:Int)/\j<=s.length/\q.1.length<=j/\∀ u,u∈q.1↔∃ y:Nat,y<j/\done[y]? =some true/\(y:Int)∈rowAt g w/\u=ivN s off y) (λq=>s.length-q.2.toNat) ⟨0,rfl,aAD _,by simp,λu=>⟨λh=>(by cases h),λ⟨y,h,_⟩=>absurd h (aAH _)⟩⟩ ?_
 rintro⟨used,_⟩ ⟨j,rfl,hj,hul,hu⟩;replace hul:used.length<=j:=hul;refine .dec (λhlt'=>?_) λhge=>.lft ?_
 ·have hjl:j<s.length:=by omega
  have hdj:done[j]? =some (done[j]'(by omega)):=aAA _
  generalize(done[j]'(by omega))=d at hdj
  refine .chk (by omega) ?_
  rw[aAB,hdj,aA];have key:∀ d:Bool,(bif d then(ixO g (w:Int)).bind λx=>(TO x (j:Int)).bind λr=>Rx (j:Int) off s used r else Rx (j:Int) off s used false)=Rx (j:Int) off s used (d&&decide ((j:Int)∈rowAt g w)):=λd=>by
   cases d
   ·rfl
   ·rw[cond_true,hgr,aA,Zk _ _ (by omega),aA,Bool.true_and]
  rw[key];have split:∀ u,(∃ y:Nat,y<j+1/\done[y]? =some true/\(y:Int)∈rowAt g w/\u=ivN s off y)↔u∈used\/(d=true/\(j:Int)∈rowAt g w/\u=ivN s off j):=λu=>by
   grind
  unfold Rx;rw[OZ (by omega)]
  refine .cond (λhd=>?_) λhd=>.cnt ⟨⟨j+1,rfl,hjl,by grind,λu=>?_⟩,by grind⟩
  ·simp only[Bool.and_eq_true,decide_eq_true_eq]at hd;refine .chk (by omega) ?_
   have hoj:=AjQ (off:=off) (y:=j) (by omega)
   have hsj:s[j]? =some s[j]:=aAA _;rw[aAB,hoj,aA,Pr,hsj,aA];have hiv:(OX.mk (oN off j) s[j].Size)=ivN s off j:=by grind [ivN,SR]
   rw[hiv];refine .chk (by simp;omega) (.cnt ⟨⟨j+1,rfl,hjl,by simp;omega,λu=>?_⟩,by grind⟩)
   simp_all
  simp_all
 ·have hjj:j=s.length:=by omega
  subst hjj;have hsw:s[w]? =some s[w]:=aAA _;generalize s[w]=x at hsw;simp only[Pr,hsw,aA];have hUI:AmO s g done off w used:=λu=>by
   grind
  obtain⟨y,f1,f2,f3,f4⟩:=Arn hs hg hf hI (by omega) hov hsw (by omega) hUI
  rw[f2,aA];simp only[bne_self_eq_false,cond_false];refine .chk (by omega) ?_
  rw[aAB,aAA (by omega),aA]
  refine .chk (by omega) ?_
  rw[aAA (by omega),aA]
  unfold AeI;rw[OZ (by omega)]
  refine .cnt ⟨⟨k+1,rfl,hlt,f4,?_⟩,by grind⟩
  rw[ApM hov,<- he]
  grind [AqF]
theorem Aue (hs:Uc s) (hso:∀ x∈s,TZ x) (hg:Sn g s.length) (hgl:∀ row∈g,row.length<=512) (hf:0<=frm/\frm<=1000) :
  Hs (Wy s g frm) λq=>q=((AlM s g frm (QJ (bfS s) (idI s.length))).2,0):=by
 have hsl:=hs.1;have hgg:g.length=s.length:=by have:=hg.1;omega
 obtain⟨b,hb1,hb2⟩:=AuK (g:=g) (n:=(s.length:Int)) (by omega) λr hr=>by grind
 obtain⟨e,he1,he2,_⟩:=Apc s;obtain⟨e',he3,he4⟩:=AmI hso (by omega)
 rw[he2]at he3;cases he3;subst he4;unfold Wy;rw[he1,aA,hb1,hb2.2 hg,aA];simp only[bne_self_eq_false,cond_false,aAT];rw[decide_eq_false (by omega),cond_false,decide_eq_false (by omega),cond_false]
 refine .chk (by omega) (.chk (by omega) ?_)
 rw[AuX (by omega),aA]
 obtain⟨ord,ho⟩:∃ ord,ord=QJ (bfS s) (idI s.length):=⟨_,rfl⟩;have ol:ord.length=s.length:=by rw[ho,Abb,AhE]
 have ov:∀ v∈ord,0<=v/\v<s.length:=λv hv=>by rw[ho]at hv;exact AkY _ hv
 rw[<- ho];simp only[aAB];refine Hs.loop (λq=>∃ k:Nat,q.2.2=(k:Int)/\k<=ord.length/\Asg s g frm ord k q.1 q.2.1/\(q.1,q.2.1)=AlM s g frm (ord.take k)) (λq=>ord.length-q.2.2.toNat) ⟨0,rfl,aAD _,AqQ,rfl⟩ ?_
 rintro⟨done,off,_⟩ ⟨k,rfl,hk,hI,he⟩;replace hI:Asg s g frm ord k done off:=hI;replace he:(done,off)=AlM s g frm (ord.take k):=he;obtain⟨dl,fl,pl,ap,cov⟩:=id hI;unfold YV;dsimp only;refine .dec (λhlt=>?_) λhge=>.lft (.pure ?_)
 rotate_left
 ·have hkk:k=ord.length:=by omega
  subst hkk;rw[aAK]at he;show(off,(0:Int))=_;rw[<- he]
 have hlt:k<ord.length:=by omega
 have hov:ord[k]? =some ord[k]:=aAA hlt;have hvr:=ov _ (aAC hlt);generalize ord[k]=v at hov hvr;refine .chk (by omega) ?_
 rw[aAB,hov,aA];obtain⟨w,rfl⟩:∃ w:Nat,v=(w:Int):=⟨v.toNat,by omega⟩
 have hw:w<s.length:=by omega
 have hgr:ixO g (w:Int)=some (rowAt g w):=by grind [Pr,AmV]
 have hrow:=hg.2.1 w _ (AmV hg hw);rw[hgr,aA];generalize hrw:rowAt g w=row at hrow;have hrlen:row.length<=7:=by
  have:=AmR (l:=row) (a:=0) (n:=(s.length:Int)) hrow.1.1 λx hx=>⟨(hrow.1.2 x hx).1,hrow.2.1 x hx⟩
  omega
 refine Hs.loop (λq=>∃ j:Nat,q.2=(j:Int)/\j<=row.length/\q.1.length<=j/\∀ u,u∈q.1↔∃ y:Nat,done[y]? =some true/\(y:Int)∈row.take j/\u=ivN s off y) (λq=>row.length-q.2.toNat) ⟨0,rfl,aAD _,by simp,λu=>⟨λh=>(by cases h),λ⟨y,_,h,_⟩=>(by simp at h)⟩⟩ ?_
 rintro⟨used,_⟩ ⟨j,rfl,hj,hul,hu⟩;replace hul:used.length<=j:=hul;replace hu:∀ u,u∈used↔∃ y:Nat,done[y]? =some true/\(y:Int)∈row.take j/\u=ivN s off y:=hu;unfold YW;dsimp only;refine .dec (λhlt'=>?_) λhge=>.lft ?_
 ·have hjl:j<row.length:=by omega
  have hgz:row[j]? =some row[j]:=aAA _;have htk:row.take (j+1)=row.take j++[row[j]]:=by simp_all
  have hzm:=aAC hjl;generalize row[j]=z at hgz htk hzm;have z0:=(hrow.1.2 z hzm).1;have z1:=hrow.2.1 z hzm;obtain⟨zn,rfl⟩:∃ k:Nat,z=(k:Int):=⟨z.toNat,by omega⟩
  have hdj:done[zn]? =some (done[zn]'(by omega)):=aAA _
  generalize(done[zn]'(by omega))=d at hdj
  rw[Pr,hgz,aA];refine .chk (by omega) ?_
  rw[aAB,hdj,aA];have split:∀ u,(∃ y:Nat,done[y]? =some true/\(y:Int)∈row.take (j+1)/\u=ivN s off y)↔u∈used\/(d=true/\u=ivN s off zn):=λu=>by
   rw[hu u,htk];constructor
   ·grind
   grind
  rw[OZ (by omega)]
  refine .cond (λhd=>?_) λhd=>.cnt ⟨⟨j+1,rfl,hjl,by grind,λu=>?_⟩,by grind⟩
  ·have hoj:=AjQ (off:=off) (y:=zn) (by omega)
   have hsj:s[zn]? =some (s[zn]'(by omega)):=aAA _
   generalize(s[zn]'(by omega))=xz at hsj
   unfold ZU;simp only[Pr,hoj,hsj,aA];have hiv:(OX.mk (oN off zn) xz.Size)=ivN s off zn:=by unfold ivN;rw[(SR hsj).1]
   rw[hiv];refine .chk (by simp;omega) (.cnt ⟨⟨j+1,rfl,hjl,by simp;omega,λu=>?_⟩,by simp only;omega⟩)
   show u∈used++[ivN s off zn]↔_;rw[split u,aAQ,aAU];exact⟨λh=>h.imp id λh=>⟨hd,h⟩,λh=>h.imp id λh=>h.2⟩
  simp_all
 ·have hjj:j=row.length:=by omega
  subst hjj;have hsw:s[w]? =some s[w]:=aAA _;generalize s[w]=x at hsw;simp only[Pr,hsw,aA];rw[aAK]at hu;have hUI:AmO s g done off w used:=λu=>by simp_all
  obtain⟨y,f1,f2,f3,f4⟩:=Arn hs hg hf hI (by omega) hov hsw (by omega) hUI
  rw[f3,aA];simp only[bne_self_eq_false,cond_false];refine .chk (by omega) ?_
  rw[aAB,aAA (by omega),aA]
  refine .chk (by omega) ?_
  rw[aAA (by omega),aA,OZ (by omega)]
  refine .cnt ⟨⟨k+1,rfl,hlt,f4,?_⟩,by simp only;omega⟩
  rw[ApM hov,<- he]
  grind [AqF]
theorem Asu (hs:Uc s) (hso:∀ x∈s,TZ x) (hg:Sn g s.length) (hgl:∀ row∈g,row.length<=512) (hf:0<=frm/\frm<=1000):∃ off,Wy s g frm=some (off,0)/\YF s g frm=some (off,0):=by
 obtain⟨a,h1,rfl⟩:=Aue hs hso hg hgl hf;obtain⟨b,k1,rfl⟩:=Aui hs hso hg hgl hf;simp_all
end
open Go Go.Dw Go.Proofs
theorem ArJ (hi:ixO p.Funcs i=some f) (hl:f.Code.length<=10000) (h:Acw p f):YM p i=some (16*QN p f f.Code.length):=by
 have:Hs (YM p i) λr=>r=16*QN p f f.Code.length:=by
  unfold YM;rw[hi,aA];refine Hs.loop (λq=>∃ k:Nat,q=((k:Int),QN p f k)/\k<=f.Code.length) (λq=>f.Code.length-q.1.toNat) ⟨0,rfl,aAD _⟩ ?_
  rintro _ ⟨k,rfl,hk⟩;have hr:=YO h hk;refine .dec (λhlt=>?_) λhge=>.lft (.pure ?_)
  ·have hlt:k<f.Code.length:=by omega
   have e:ixO f.Code (k:Int)=some f.Code[k]:=by simp_all
   obtain⟨h1,h2⟩:=h _ (aAC hlt);simp only[e,aA];rw[OZ (by omega)]
   refine .beq (λh18=>?_) λh18=>.beq (λh22=>?_) λh22=>?_
   ·rw[wrap64 (by omega) (by omega)]
    exact .cnt ⟨⟨k+1,by grind [Aaj,Ud],hlt⟩,by grind⟩
   ·obtain⟨a0,g,hg,hp⟩:=h2 h22;rw[Qt _ a0,hg,aA];exact .cnt ⟨⟨k+1,by grind [Aaj,Ud],hlt⟩,by grind⟩
   ·exact .cnt ⟨⟨k+1,by grind [Aaj,Ud],hlt⟩,by grind⟩
  ·have:k=f.Code.length:=by omega
   subst this;rw[wrap64 (by omega) (by omega)]
   exact rfl
 obtain⟨r,h,rfl⟩:=this;exact h
def Afo (s:List Pb) (off:List Int):Nat->Int
 | 0=>0
 | k+1=>max (Afo s off k) (oN off k+szN s k)
section
variable {s:List Pb} {off:List Int} {B:Int}
theorem AnT (hB:0<=B) (h:∀ y:Nat,y<s.length->0<=oN off y+szN s y/\oN off y+szN s y<=B):∀ {k:Nat},k<=s.length->0<=Afo s off k/\Afo s off k<=B
 | 0,_=>⟨Int.le_refl _,hB⟩
 | k+1,hk=>by
  have ih:=AnT hB h (k:=k) (by omega)
  grind [Afo]
theorem AxC (hs:s.length<=1000) (hl:off.length=s.length) (hB:0<=B/\B<=100000) (h:∀ y:Nat,y<s.length->0<=oN off y+szN s y/\oN off y+szN s y<=B):Aei s off=some (Afo s off s.length):=by
 have key:Hs (Aei s off) λe=>e=Afo s off s.length:=by
  refine Hs.loop (λq=>∃ k:Nat,q.2=(k:Int)/\k<=s.length/\q.1=Afo s off k) (λq=>s.length-q.2.toNat) ⟨0,rfl,aAD _,rfl⟩ ?_
  rintro⟨_,_⟩ ⟨k,rfl,hk,rfl⟩;refine .dec (λhlt=>?_) λhge=>.lft (.pure ?_)
  ·have hlt:k<s.length:=by omega
   have hsk:s[k]? =some s[k]:=aAA _;have:=h k hlt;rw[Pr,AjQ (by omega),aA,Pr,hsk,aA,<- (SR hsk).1,wrap64 (by omega) (by omega),OZ (by omega),Abm]
   exact .cnt ⟨⟨k+1,rfl,hlt,rfl⟩,by grind⟩
  ·have hkk:k=s.length:=by omega
   subst hkk;rfl
 obtain⟨r,h,rfl⟩:=key;exact h
theorem AxI (hs:s.length<=1000) (hl:off.length=s.length) (hB:0<=B/\B<=100000) (h:∀ y:Nat,y<s.length->0<=oN off y+szN s y/\oN off y+szN s y<=B):AgG s off=some (Afo s off s.length):=by
 have key:Hs (AgG s off) λe=>e=Afo s off s.length:=by
  refine Hs.loop (λq=>∃ k:Nat,q.2=(k:Int)/\k<=s.length/\q.1=Afo s off k) (λq=>s.length-q.2.toNat) ⟨0,rfl,aAD _,rfl⟩ ?_
  rintro⟨_,_⟩ ⟨k,rfl,hk,rfl⟩;refine .dec (λhlt=>.dec (λ_=>?_) λh=>by omega) λhge=>.lft (.pure ?_)
  ·have hlt:k<s.length:=by omega
   have hsk:s[k]? =some s[k]:=aAA _;have:=h k hlt;unfold Aiv;rw[Pr,AjQ (by omega),aA,Pr,hsk,aA,<- (SR hsk).1,wrap64 (by omega) (by omega),OZ (by omega),Abm]
   exact .cnt ⟨⟨k+1,rfl,hlt,rfl⟩,by grind⟩
  ·have hkk:k=s.length:=by omega
   subst hkk;rfl
 obtain⟨r,h,rfl⟩:=key;exact h
def Amj (p:Ph) (f:Le) (al:Int) (off:List Int):Po:=⟨16*QN p f f.Code.length,upN (max (16*QN p f f.Code.length) (Afo f.Slots off f.Slots.length)) al,off⟩
variable {p:Ph} {i:Int} {f:Le} {al:Int}
theorem ArS (hl:off.length=f.Slots.length) (hB:B<=100000) (h:∀ y:Nat,y<f.Slots.length->0<=oN off y/\0<=szN f.Slots y/\oN off y+szN f.Slots y<=B) {k:Nat} (hk:k<f.Slots.length):QP ⟨oN off k,f.Slots[k].Size⟩:=by
 have hsk:f.Slots[k]? =some f.Slots[k]:=aAA _;have:=h k hk;rw[(SR hsk).1]at this;refine⟨?_,?_,?_,?_,?_⟩<;>simp only<;>omega
theorem AxD (hi:ixO p.Funcs i=some f) (hc:f.Code.length<=10000) (hA:Acw p f) (hs:f.Slots.length<=1000) (hal:Tb al) (hl:off.length=f.Slots.length) (hB:0<=B/\B<=100000) (h:∀ y:Nat,y<f.Slots.length->0<=oN off y/\0<=szN f.Slots y/\oN off y+szN f.Slots y<=B) :
  Zv p i al off=some (Amj p f al off,0):=by
 have har:=hal.rng;have hk:=YO hA (aAI f.Code.length);have h':∀ y:Nat,y<f.Slots.length->0<=oN off y+szN f.Slots y/\oN off y+szN f.Slots y<=B:=λy hy=>by grind
 have he:=AnT hB.1 h' (aAI f.Slots.length);have key:Hs (Zv p i al off) λq=>q=(Amj p f al off,0):=by
  unfold Zv;rw[hi,aA];refine .bne (λhne=>(hne (by omega)).elim) λ_=>?_
  refine Hs.loop (λj=>∃ k:Nat,j=(k:Int)/\k<=f.Slots.length) (λj=>f.Slots.length-j.toNat) ⟨0,rfl,aAD _⟩ ?_
  rintro _ ⟨k,rfl,hkl⟩;refine .dec (λhlt=>?_) λhge=>.lft ?_
  ·have hlt:k<f.Slots.length:=by omega
   have hR:=ArS hl hB.2 h hlt;rw[Pr,aAA hlt,aA,Pr,AjQ (by omega),aA]
   unfold AcE;rw[ApR,aA,decide_eq_true hR,cond_true,aA];obtain⟨r1,r2,r3,r4,r5⟩:=hR;rw[wrap64 (by omega) (by omega),decide_eq_true r5,OZ (by omega)]
   exact .cnt ⟨⟨k+1,rfl,hlt⟩,by grind⟩
  ·rw[ArJ hi hc hA,aA];unfold AlQ Zj;rw[PN (by omega),aA,AxC hs hl hB h',aA]
   generalize hE:Afo f.Slots off f.Slots.length=E at he;have em:PH (PH (16*QN p f f.Code.length) 0) E=max (16*QN p f f.Code.length) E:=by grind [Abm]
   rw[em];obtain⟨u1,u2,_⟩:=Rp (n:=max (16*QN p f f.Code.length) E) (a:=al) (by omega)
   unfold Ahy;rw[AxX (by omega) (by omega) hal,aA]
   rw[Axo (by omega) (by omega),aA]
   refine .pure ?_;unfold Amj;rw[hE];rfl
 obtain⟨r,h,rfl⟩:=key;exact h
theorem Atk (hi:ixO p.Funcs i=some f) (hc:f.Code.length<=10000) (hA:Acw p f) (hs:f.Slots.length<=1000) (hal:Tb al) (hl:off.length=f.Slots.length) (hB:0<=B/\B<=100000) (h:∀ y:Nat,y<f.Slots.length->0<=oN off y/\0<=szN f.Slots y/\oN off y+szN f.Slots y<=B) :
  YG p i al off=some (Amj p f al off,0):=by
 have har:=hal.rng;have hk:=YO hA (aAI f.Code.length);have h':∀ y:Nat,y<f.Slots.length->0<=oN off y+szN f.Slots y/\oN off y+szN f.Slots y<=B:=λy hy=>by grind
 have he:=AnT hB.1 h' (aAI f.Slots.length);have key:Hs (YG p i al off) λq=>q=(Amj p f al off,0):=by
  unfold YG;rw[hi,aA];refine .bne (λhne=>(hne (by omega)).elim) λ_=>?_
  refine Hs.loop (λj=>∃ k:Nat,j=(k:Int)/\k<=f.Slots.length) (λj=>f.Slots.length-j.toNat) ⟨0,rfl,aAD _⟩ ?_
  rintro _ ⟨k,rfl,hkl⟩;refine .dec (λhlt=>?_) λhge=>.lft ?_
  ·have hlt:k<f.Slots.length:=by omega
   have hR:=ArS hl hB.2 h hlt;rw[Pr,AjQ (by omega),aA,Pr,aAA hlt,aA,Zf,aA,decide_eq_true hR,OZ (by omega)]
   exact .cnt ⟨⟨k+1,rfl,hlt⟩,by grind⟩
  ·rw[Ain hi hc hA,aA,AxI hs hl hB h',aA,Abm];generalize hE:Afo f.Slots off f.Slots.length=E at he;obtain⟨u1,u2,_⟩:=Rp (n:=max (16*QN p f f.Code.length) E) (a:=al) (by omega)
   rw[Aki (by omega) (by omega) hal,aA]
   rw[decide_eq_false (by omega),cond_false]
   refine .chk (by simp;omega) (.pure ?_)
   unfold Amj;rw[hE,List.nil_append];rfl
 obtain⟨r,h,rfl⟩:=key;exact h
end
open Go Go.Dw Go.Proofs
def Amq (s:List Pb):Int:=s.foldl (λa x=>PH a x.Align) 16
theorem Aot (s:List Pb):∃ a,Yo s=some a/\Vu s=some a:=by
 obtain⟨e,h1,h2,h3⟩:=Apc s;unfold Yo Vu;rw[h1,h2,aA,aA]
 by_cases he:e=0
 ·subst he;have hl:=h3 rfl;simp only[beq_self_eq_true,cond_true,bne_self_eq_false,cond_false];have p1:Hs (Pg (λq=>ZY s q.1 q.2) (0,16)) λa=>a=Amq s:=by
   refine Hs.loop (λq=>∃ k:Nat,q.1=(k:Int)/\k<=s.length/\q.2=Amq (s.take k)) (λq=>s.length-q.1.toNat) ⟨0,rfl,aAD _,rfl⟩ ?_
   rintro⟨_,_⟩ ⟨k,rfl,hk,rfl⟩;refine .dec (λhlt=>?_) λhge=>.lft (.pure ?_)
   ·have hlt:k<s.length:=by omega
    rw[Pr,aAA hlt,aA,OZ (by omega)]
    refine .cnt ⟨⟨k+1,rfl,hlt,?_⟩,by grind⟩
    grind [Amq,aAL]
   ·have hkk:k=s.length:=by omega
    subst hkk;show Amq _=_;simp_all
  have p2:Hs (Pg (λq=>Yv s q.1 q.2) (16,0)) λa=>a=Amq s:=by
   refine Hs.loop (λq=>∃ k:Nat,q.2=(k:Int)/\k<=s.length/\q.1=Amq (s.take k)) (λq=>s.length-q.2.toNat) ⟨0,rfl,aAD _,rfl⟩ ?_
   rintro⟨_,_⟩ ⟨k,rfl,hk,rfl⟩;refine .dec (λhlt=>?_) λhge=>.lft (.pure ?_)
   ·have hlt:k<s.length:=by omega
    rw[Pr,aAA hlt,aA,OZ (by omega)]
    refine .cnt ⟨⟨k+1,rfl,hlt,?_⟩,by grind⟩
    grind [Amq,aAL]
   ·have hkk:k=s.length:=by omega
    subst hkk;show Amq _=_;simp_all
  obtain⟨a,q1,rfl⟩:=p1;obtain⟨b,q2,rfl⟩:=p2;simp_all
 grind
theorem AsM (p:Ph) (hp:p.Funcs.length<=1000000):∃ a,AgJ p=some a/\Ux p=some a:=by
 have step:∀ k≤p.Funcs.length,∃ a:Int,∀ b:Int,True:=λ_ _=>⟨0,λ_=>trivial⟩
 let al:Le->Int:=λf=>aAw (Aot f.Slots)
 have hal:∀ f:Le,Yo f.Slots=some (al f)/\Vu f.Slots=some (al f):=λf=>aAt (Aot f.Slots)
 let A:List Le->Int:=λl=>l.foldl (λa f=>PH a (al f)) 16
 have hA:∀ k (hk:k<p.Funcs.length),A (p.Funcs.take (k+1))=PH (A (p.Funcs.take k)) (al p.Funcs[k]):=λk hk=>by
  grind [aAL]
 have p1:Hs (AgJ p) λa=>a=A p.Funcs:=by
  refine Hs.loop (λq=>∃ k:Nat,q.2=(k:Int)/\k<=p.Funcs.length/\q.1=A (p.Funcs.take k)) (λq=>p.Funcs.length-q.2.toNat) ⟨0,rfl,aAD _,rfl⟩ ?_
  rintro⟨_,_⟩ ⟨k,rfl,hk,rfl⟩;refine .dec (λhlt=>?_) λhge=>.lft (.pure ?_)
  ·have hlt:k<p.Funcs.length:=by omega
   rw[Pr,aAA hlt,aA,(hal _).1,aA,OZ (by omega)]
   exact .cnt ⟨⟨k+1,rfl,hlt,(hA k hlt).symm⟩,by grind⟩
  ·have hkk:k=p.Funcs.length:=by omega
   subst hkk;show A _=_;simp_all
 have p2:Hs (Ux p) λa=>a=A p.Funcs:=by
  refine Hs.loop (λq=>∃ k:Nat,q.2=(k:Int)/\k<=p.Funcs.length/\q.1=A (p.Funcs.take k)) (λq=>p.Funcs.length-q.2.toNat) ⟨0,rfl,aAD _,rfl⟩ ?_
  rintro⟨_,_⟩ ⟨k,rfl,hk,rfl⟩;refine .dec (λhlt=>?_) λhge=>.lft (.pure ?_)
  ·have hlt:k<p.Funcs.length:=by omega
   rw[Pr,aAA hlt,aA,(hal _).2,aA,OZ (by omega)]
   exact .cnt ⟨⟨k+1,rfl,hlt,(hA k hlt).symm⟩,by grind⟩
  ·have hkk:k=p.Funcs.length:=by omega
   subst hkk;show A _=_;simp_all
 obtain⟨a,q1,rfl⟩:=p1;obtain⟨b,q2,rfl⟩:=p2;simp_all
theorem AxB (p:Ph) (f:Le) (hp:p.Funcs.length<=1000000) (h0:0<=i) (h1:i<p.Funcs.length):Zl p i f=some ⟨p.Funcs.set i.toNat f⟩:=by
 unfold Zl Ara Zj
 grind [PN]
theorem ArW (p:Ph) (f:Le) (hp:p.Funcs.length<=1000000) (h0:0<=i) (h1:i<p.Funcs.length):Aby p i f=some ⟨p.Funcs.set i.toNat f⟩:=by
 grind [Aby,AcO,PN]
theorem LE.antisymm {a b:List (List Int)} (ha:QG f a) (hb:QG f b) (h1:LE a b) (h2:LE b a):a=b:=by
 apply aAi;intro k
 by_cases hk:k<f.Code.length
 ·obtain⟨p1,p2⟩:=ha.row hk;obtain⟨q1,q2⟩:=hb.row hk;rw[p1,q1,p2.1.ext q2.1 λv=>⟨h1 k _ _ p1 q1 v,h2 k _ _ q1 p1 v⟩]
 ·rw[aAu (by have:=ha.1;omega),aAu (by have:=hb.1;omega)]
theorem LE.refl (a:List (List Int)):LE a a:=λk s t hs ht v hv=>by simp_all
theorem XZ.unique {a b:List (List Int)} (ha:XZ f a) (hb:XZ f b):a=b :=
 ha.ok|>λh=>LE.antisymm h hb.ok (ha.least b hb.ok (by rw[hb.fix];exact LE.refl b)) (hb.least a ha.ok (by rw[ha.fix];exact LE.refl a))
theorem Aub (x:OT) (v:Int):Ve x v=some (QO x v):=by
 grind [Ve,QO]
theorem AsL (x:OT) (v:Int):Xc x v=some (QY x v):=rfl
def Atx (n:Nat) (m:List (List Bool)) (a:Nat) (v:Int):Prop:=0<=v/\v<n/\Acy m a v.toNat=true
theorem ArF {n:Nat} (hl:m.length=n) (hr:∀ row∈m,row.length=n) (hn:n<=500):Hs (Tj m) λout=>PW n out (Atx n m):=by
 refine .chk (by omega) ?_
 refine Hs.loop (λs=>∃ k:Nat,s.2=(k:Int)/\k<=n/\PW n s.1 λa v=>a<k/\Atx n m a v) (λs=>n-s.2.toNat) ⟨0,rfl,aAD _,?_⟩ ?_
 ·simp_all[PW.nil]
 rintro⟨out,_⟩ ⟨k,rfl,hk,hs⟩;refine .dec (λhlt=>?_) λhge=>.lft (.pure (hs.congr λa v ha=>⟨λh=>⟨by omega,h⟩,λh=>h.2⟩))
 have hlt:k<n:=by omega
 have hg:m[k]? =some (m[k]'(by omega)):=aAA _
 have hrl:=hr _ (aAC (show k<m.length by omega))
 generalize m[k]'(by omega)=row at hg hrl
 simp only[Pr,hg,aA];refine Hs.loop (λs=>∃ i:Nat,s.2=(i:Int)/\i<=n/\PW n s.1 λa v=>(a<k\/(a=k/\v<i))/\Atx n m a v) (λs=>n-s.2.toNat) ⟨0,rfl,aAD _,hs.congr λa v _=>?_⟩ ?_
 ·constructor
  ·rintro⟨h|⟨_,h⟩,hc⟩
   ·simp_all
   ·have:=hc.1;omega
  simp_all
 rintro⟨out2,_⟩ ⟨i,rfl,hi,hs2⟩;replace hs2:PW n out2 _:=hs2;refine .dec (λhlt2=>?_) λhge2=>?_
 ·have hlt2:i<n:=by omega
  have hb:row[i]? =some (row[i]'(by omega)):=aAA _
  generalize row[i]'(by omega)=bit at hb
  have hcell:Acy m k i=bit:=by grind [Acy]
  have w:=OZ (show i<9223372036854775807 by omega)
  simp only[Pr,hb,aA];refine .cond (λht=>?_) λhf=>?_
  ·have hs0:out2[k]? =some (out2[k]'(by have:=hs2.1;omega)):=aAA _
   generalize out2[k]'(by grind)=s at hs0
   have q:=hs2.2 k s hs0;have hsl:=q.1.1.length_le;have hol:=hs2.1;refine .chk (by omega) ?_
   rw[aAB,hs0,aA];refine .chk (by grind) (.chk (by omega) ?_)
   rw[w];refine .cnt ⟨⟨i+1,rfl,hlt2,?_⟩,by grind⟩
   have hlt':∀ x∈s,x<(i:Int):=λx hx=>by
    simp_all
   refine hs2.set hlt ⟨q.1.1.snoc (by omega) hlt',λx hx=>?_⟩ (λv=>?_) λa v ha=>?_
   ·grind
   ·rw[aAQ,aAU,q.2 v];constructor
    ·rintro(⟨h|⟨_,h⟩,hc⟩|rfl)
     ·omega
     ·grind
     ·exact⟨.inr ⟨rfl,by omega⟩,by omega,by omega,by simp_all⟩
    grind
   simp_all
  ·rw[w];refine .cnt ⟨⟨i+1,rfl,hlt2,hs2.congr λa v _=>?_⟩,by grind⟩
   constructor
   ·rintro⟨h|⟨h,h2⟩,hc⟩
    ·simp_all
    ·refine⟨.inr ⟨h,?_⟩,hc⟩;have h3:v≠i:=λe=>by
      have:=hc.2.2;simp_all
     omega
   grind
 ·rw[OZ (by omega)]
  refine .lft (.cnt ⟨⟨k+1,rfl,hlt,hs2.congr λa v _=>?_⟩,by grind⟩)
  constructor
  ·rintro⟨h,hc⟩;refine⟨?_,hc⟩
   by_cases e:a=k
   ·exact .inr ⟨e,by have:=hc.2.1;omega⟩
   omega
  grind
theorem AoF (hf:Pz f) (hd:Rq f) (hl:QG f l) {a v:Int} (h:Ed mv f l a v):(0<=a/\a<f.Slots.length)/\(0<=v/\v<f.Slots.length):=by
 obtain⟨j,hj,rfl,h2,_,h4,_⟩:=h;have hx:=hf.at (j:=(j:Int)) (by omega) (by omega)
 have hrow:=hl.at (j:=(j:Int)) (by omega) (by omega)
 exact⟨hd _ hx.2 h2,(hrow.2.1.2 v h4).1,hrow.2.2 v h4⟩
theorem ArC {n:Nat} {P:Int->Int->Prop} (hl:m.length=n) (h:∀ (j:Nat) row,m[j]? =some row->row=aAR n false) (hp:∀ a v,¬ P a v):Tz n m P:=by
 refine⟨hl,λrow hr=>?_,λa v ha hv=>?_⟩
 all_goals grind [aAF,Acy]
theorem AuG {n:Nat} {P:Int->Int->Prop} (hm:Tz n m P) {d y:Nat} (hd:d<n) (hy:y<n) (hne:d≠y) (t:Bool) {i:Nat} (hi:i<1000000) :
  ∃ m',Qo m ((d:Int),t) (y:Int) (i:Int) true=some (.inl (m',((i+1:Nat):Int)))/\Tz n m' λa b=>P a b\/(a=d/\b=y):=by
 have e1:m[d]? =some (m[d]'(by have:=hm.1;omega)):=aAA _
 have e2:m[y]? =some (m[y]'(by have:=hm.1;omega)):=aAA _
 generalize m[d]'(by grind)=r1 at e1
 generalize m[y]'(by grind)=r2 at e2
 have l1:=hm.2.1 _ (aAG e1);have l2:=hm.2.1 _ (aAG e2);have hl:=hm.1;have g1:r1[y]? =some (r1[y]'(by omega)):=aAA _
 have g2:r2[d]? =some (r2[d]'(by omega)):=aAA _
 have c1:0<=(d:Int)/\(d:Int)<m.length:=by omega
 have c2:0<=(y:Int)/\(y:Int)<m.length:=by omega
 have c3:0<=(y:Int)/\(y:Int)<r1.length:=by omega
 have c4:0<=(d:Int)/\(d:Int)<r2.length:=by omega
 have w:=OZ (show i<9223372036854775807 by omega)
 exact⟨_,by simp_all[Qo,PN],hm.set hd hy hne e1 e2⟩
theorem AuF (hf:Pz f) (hd:Rq f) {l:Pj} (hl:Abf l.Out):Hs (Xa f l) (SS QO f l.Out):=by
 have hlen:=hf.len';have hsl:=hf.slots;refine Hs.bind (P:=SS QO f l.Out) ?_ λr hr=>.pure hr
 refine(AqX hf hl).bind λe he=>.bne (λh=>.pure (.inr ⟨he.1.resolve_left h,λha=>h (he.2.2 ha),rfl⟩)) λh=>?_
 have hacc:Acc f l.Out:=he.2.1 h;refine .chk (by omega) ?_
 refine Hs.loop (λs=>∃ k:Nat,s.2=(k:Int)/\k<=f.Slots.length/\s.1.length=f.Slots.length/\∀ (j:Nat) row,j<k->s.1[j]? =some row->row=aAR f.Slots.length false) (λs=>f.Slots.length-s.2.toNat) ⟨0,rfl,aAD _,by simp,λj row h=>absurd h (aAH _)⟩ ?_
 rintro⟨m,_⟩ ⟨k,rfl,hk,hml,hrows⟩;unfold SZ;simp only[aAv,aAB]at hml hrows ⊢;refine .dec (λhlt=>?_) λhge=>.lft ?_
 ·have hlt:k<f.Slots.length:=by omega
  have hg:m[k]? =some (m[k]'(by omega)):=aAA _
  refine .chk (by omega) (.chk (by omega) ?_)
  rw[hg,aA,OZ (by omega)]
  refine .cnt ⟨⟨k+1,rfl,hlt,by simp[hml],λj row hj hr=>?_⟩,by grind⟩
  grind
 have hkk:k=f.Slots.length:=by omega
 have hm0:Tz f.Slots.length m (Wg QO f l.Out 0):=ArC hml (λj row hr=>hrows j row (by grind) hr) λa v h=>by rcases h with⟨j,hj,_⟩;omega
 show Hs (Ta f l m) (SS QO f l.Out);clear hrows hml hge hkk hk k;refine Hs.loop (λs=>∃ k:Nat,s.2=(k:Int)/\k<=f.Code.length/\Tz f.Slots.length s.1 (Wg QO f l.Out k)) (λs=>f.Code.length-s.2.toNat) ⟨0,rfl,aAD _,hm0⟩ ?_
 rintro⟨m,_⟩ ⟨k,rfl,hk,hm⟩;refine .dec (λhlt=>?_) λhge=>.lft ?_
 ·have hlt:k<f.Code.length:=by omega
  have hx:=hf.at (j:=(k:Int)) (by omega) (by omega)
  rw[aAB]at hx;have hrow:=hacc.1.at (j:=(k:Int)) (by omega) (by omega)
  rw[aAB]at hrow;have hlo:=hrow.2.1.length_le;simp only[Pr,hx.1,aA,AhD];have w:=OZ (show k<9223372036854775807 by omega)
  by_cases hdef:(OU f k).Op=16\/(OU f k).Op=17
  ·rw[if_pos hdef];have hA:=hd _ hx.2 hdef;have inner:¬ ((OU f k).Op=17/\(OU f k).A=(OU f k).B)->∀ p q,Hs (QZ l (k:Int) ((OU f k).A,true) (OU f k) m p q) (Rnd (λs=>∃ k:Nat,s.2=(k:Int)/\k<=f.Code.length/\Tz f.Slots.length s.1 (Wg QO f l.Out k)) (λs=>f.Code.length-s.2.toNat) (m,(k:Int)) (SS QO f l.Out)):=by
    intro hnm p q;unfold QZ;rw[Pr,hrow.1,aA];refine Hs.loop (λs=>∃ i:Nat,s.2=(i:Int)/\i<=(Pn l.Out k).length/\Tz f.Slots.length s.1 (AbG QO f l.Out k i)) (λs=>(Pn l.Out k).length-s.2.toNat) ⟨0,rfl,aAD _,hm.congr λa v=>Ame⟩ ?_
    rintro⟨m2,_⟩ ⟨i,rfl,hi,hm2⟩;refine .dec (λhlt2=>?_) λhge2=>?_
    ·have hlt2:i<(Pn l.Out k).length:=by omega
     have hgx:(Pn l.Out k)[i]? =some (Pn l.Out k)[i]:=aAA _;have hxm:=aAC hlt2;generalize(Pn l.Out k)[i]=x at hgx hxm;have hx0:=hrow.2.1.2 x hxm;have hxn:=hrow.2.2 x hxm;simp only[Pr,hgx,aA,Aub];have w2:=OZ (show i<9223372036854775807 by omega)
     have skip:x=(OU f k).A\/QO (OU f k) x=true->Hs (Qo m2 ((OU f k).A,true) x (i:Int) false) (Rnd (λs=>∃ i:Nat,s.2=(i:Int)/\i<=(Pn l.Out k).length/\Tz f.Slots.length s.1 (AbG QO f l.Out k i)) (λs=>(Pn l.Out k).length-s.2.toNat) (m2,(i:Int)) (Rnd (λs=>∃ k:Nat,s.2=(k:Int)/\k<=f.Code.length/\Tz f.Slots.length s.1 (Wg QO f l.Out k)) (λs=>f.Code.length-s.2.toNat) (m,(k:Int)) (SS QO f l.Out))):=by
      intro hh;unfold Qo;rw[cond_false,w2];exact .cnt ⟨⟨i+1,rfl,hlt2,hm2.congr λa v=>Amd hgx hh⟩,by grind⟩
     refine .bne (λhne=>?_) λhe=>skip (.inl he)
     cases hmf:QO (OU f k) x
     ·rw[Bool.not_false];obtain⟨d,hde⟩:∃ d:Nat,(OU f k).A=(d:Int):=⟨_,(aAM hA.1).symm⟩;obtain⟨y,rfl⟩:∃ y:Nat,x=(y:Int):=⟨_,(aAM hx0.1).symm⟩;obtain⟨m',h1,h2⟩:=AuG hm2 (d:=d) (y:=y) (by omega) (by omega) (by omega) true (i:=i) (by omega)
      rw[hde,h1];refine .pure ⟨⟨i+1,rfl,hlt2,h2.congr λa v=>?_⟩,by grind⟩
      grind [AiG]
     simp_all
    ·have hi:i=(Pn l.Out k).length:=by omega
     subst hi;rw[w];exact .lft (.cnt ⟨⟨k+1,rfl,hlt,hm2.congr λa v=>(AnS hdef hnm).symm⟩,by grind⟩)
   refine .beq (λh17=>.beq (λhab=>?_) λhab=>inner (λhh=>hab hh.2) _ _) λh17=>inner (λhh=>h17 hh.1) _ _
   rw[w];exact .cnt ⟨⟨k+1,rfl,hlt,hm.congr λa v=>AdM (.inr ⟨h17,hab⟩)⟩,by grind⟩
  ·rw[if_neg hdef];rw[w];exact .cnt ⟨⟨k+1,rfl,hlt,hm.congr λa v=>AdM (.inl (by omega))⟩,by grind⟩
 ·have hk:k=f.Code.length:=by omega
  subst hk;refine(ArF hm.1 hm.2.1 hsl).bind λout ho=>.pure (.inl ⟨rfl,hacc,ho.congr λa v ha=>?_⟩)
  constructor
  ·intro h;have hr:0<=v/\v<f.Slots.length:=by
    rcases h with h|h
    ·exact(AoF hf hd hacc.1 h).2
    ·exact(AoF hf hd hacc.1 h).1
   refine⟨hr.1,hr.2,(hm.2.2 a v.toNat ha (by omega)).2 ?_⟩
   rw[aAM hr.1];exact h
  ·rintro⟨h0,h1,hc⟩;have:=(hm.2.2 a v.toNat ha (by omega)).1 hc
   rw[aAM h0]at this;exact this
theorem AtV {n:Nat} {P:Int->Int->Prop} (hm:Tz n m P) {d y:Nat} (hd:d<n) (hy:y<n) (hne:d≠y) (t:Bool) {i:Nat} (hi:i<1000000) :
  ∃ m',Qi m ((d:Int),t) (y:Int) (i:Int) true=some (.inl (m',((i+1:Nat):Int)))/\Tz n m' λa b=>P a b\/(a=d/\b=y):=by
 have e1:m[d]? =some (m[d]'(by have:=hm.1;omega)):=aAA _
 have e2:m[y]? =some (m[y]'(by have:=hm.1;omega)):=aAA _
 generalize m[d]'(by grind)=r1 at e1
 generalize m[y]'(by grind)=r2 at e2
 have l1:=hm.2.1 _ (aAG e1);have l2:=hm.2.1 _ (aAG e2);have hl:=hm.1;have g1:r1[y]? =some (r1[y]'(by omega)):=aAA _
 have g2:r2[d]? =some (r2[d]'(by omega)):=aAA _
 have c1:0<=(d:Int)/\(d:Int)<m.length:=by omega
 have c2:0<=(y:Int)/\(y:Int)<m.length:=by omega
 have c3:0<=(y:Int)/\(y:Int)<r1.length:=by omega
 have c4:0<=(d:Int)/\(d:Int)<r2.length:=by omega
 have w:=OZ (show i<9223372036854775807 by omega)
 exact⟨_,by simp_all[Qi,PN],hm.set hd hy hne e1 e2⟩
theorem AtU (hf:Pz f) (hd:Rq f) {l:Pj} (hl:Abf l.Out):Hs (VM f l) (SS QY f l.Out):=by
 have hlen:=hf.len';have hsl:=hf.slots;refine Hs.bind (P:=SS QY f l.Out) ?_ λr hr=>.pure hr
 refine(AqX hf hl).bind λe he=>.bne (λh=>.pure (.inr ⟨he.1.resolve_left h,λha=>h (he.2.2 ha),rfl⟩)) λh=>?_
 have hacc:Acc f l.Out:=he.2.1 h;refine .chk (by omega) ?_
 refine Hs.loop (λs=>∃ k:Nat,s.2=(k:Int)/\k<=f.Slots.length/\s.1.length=f.Slots.length/\∀ (j:Nat) row,j<k->s.1[j]? =some row->row=aAR f.Slots.length false) (λs=>f.Slots.length-s.2.toNat) ⟨0,rfl,aAD _,by simp,λj row h=>absurd h (aAH _)⟩ ?_
 rintro⟨m,_⟩ ⟨k,rfl,hk,hml,hrows⟩;unfold SI;simp only[aAv,aAB]at hml hrows ⊢;refine .dec (λhlt=>?_) λhge=>.lft ?_
 ·have hlt:k<f.Slots.length:=by omega
  have hg:m[k]? =some (m[k]'(by omega)):=aAA _
  refine .chk (by omega) (.chk (by omega) ?_)
  rw[hg,aA,OZ (by omega)]
  refine .cnt ⟨⟨k+1,rfl,hlt,by simp[hml],λj row hj hr=>?_⟩,by grind⟩
  grind
 have hkk:k=f.Slots.length:=by omega
 have hm0:Tz f.Slots.length m (Wg QY f l.Out 0):=ArC hml (λj row hr=>hrows j row (by grind) hr) λa v h=>by rcases h with⟨j,hj,_⟩;omega
 show Hs (SJ f l m) (SS QY f l.Out);clear hrows hml hge hkk hk k;refine Hs.loop (λs=>∃ k:Nat,s.2=(k:Int)/\k<=f.Code.length/\Tz f.Slots.length s.1 (Wg QY f l.Out k)) (λs=>f.Code.length-s.2.toNat) ⟨0,rfl,aAD _,hm0⟩ ?_
 rintro⟨m,_⟩ ⟨k,rfl,hk,hm⟩;refine .dec (λhlt=>?_) λhge=>.lft ?_
 ·have hlt:k<f.Code.length:=by omega
  have hx:=hf.at (j:=(k:Int)) (by omega) (by omega)
  rw[aAB]at hx;have hrow:=hacc.1.at (j:=(k:Int)) (by omega) (by omega)
  rw[aAB]at hrow;have hlo:=hrow.2.1.length_le;simp only[Pr,hx.1,aA,AhD];have w:=OZ (show k<9223372036854775807 by omega)
  by_cases hdef:(OU f k).Op=16\/(OU f k).Op=17
  ·rw[if_pos hdef];have hA:=hd _ hx.2 hdef;have inner:¬ ((OU f k).Op=17/\(OU f k).A=(OU f k).B)->∀ p q,Hs (QS l (k:Int) ((OU f k).A,true) (OU f k) m p q) (Rnd (λs=>∃ k:Nat,s.2=(k:Int)/\k<=f.Code.length/\Tz f.Slots.length s.1 (Wg QY f l.Out k)) (λs=>f.Code.length-s.2.toNat) (m,(k:Int)) (SS QY f l.Out)):=by
    intro hnm p q;unfold QS;rw[Pr,hrow.1,aA];refine Hs.loop (λs=>∃ i:Nat,s.2=(i:Int)/\i<=(Pn l.Out k).length/\Tz f.Slots.length s.1 (AbG QY f l.Out k i)) (λs=>(Pn l.Out k).length-s.2.toNat) ⟨0,rfl,aAD _,hm.congr λa v=>Ame⟩ ?_
    rintro⟨m2,_⟩ ⟨i,rfl,hi,hm2⟩;refine .dec (λhlt2=>?_) λhge2=>?_
    ·have hlt2:i<(Pn l.Out k).length:=by omega
     have hgx:(Pn l.Out k)[i]? =some (Pn l.Out k)[i]:=aAA _;have hxm:=aAC hlt2;generalize(Pn l.Out k)[i]=x at hgx hxm;have hx0:=hrow.2.1.2 x hxm;have hxn:=hrow.2.2 x hxm;simp only[Pr,hgx,aA,AsL];have w2:=OZ (show i<9223372036854775807 by omega)
     have skip:x=(OU f k).A\/QY (OU f k) x=true->Hs (Qi m2 ((OU f k).A,true) x (i:Int) false) (Rnd (λs=>∃ i:Nat,s.2=(i:Int)/\i<=(Pn l.Out k).length/\Tz f.Slots.length s.1 (AbG QY f l.Out k i)) (λs=>(Pn l.Out k).length-s.2.toNat) (m2,(i:Int)) (Rnd (λs=>∃ k:Nat,s.2=(k:Int)/\k<=f.Code.length/\Tz f.Slots.length s.1 (Wg QY f l.Out k)) (λs=>f.Code.length-s.2.toNat) (m,(k:Int)) (SS QY f l.Out))):=by
      intro hh;unfold Qi;rw[cond_false,w2];exact .cnt ⟨⟨i+1,rfl,hlt2,hm2.congr λa v=>Amd hgx hh⟩,by grind⟩
     refine .bne (λhne=>?_) λhe=>skip (.inl he)
     cases hmf:QY (OU f k) x
     ·rw[Bool.not_false];obtain⟨d,hde⟩:∃ d:Nat,(OU f k).A=(d:Int):=⟨_,(aAM hA.1).symm⟩;obtain⟨y,rfl⟩:∃ y:Nat,x=(y:Int):=⟨_,(aAM hx0.1).symm⟩;obtain⟨m',h1,h2⟩:=AtV hm2 (d:=d) (y:=y) (by omega) (by omega) (by omega) true (i:=i) (by omega)
      rw[hde,h1];refine .pure ⟨⟨i+1,rfl,hlt2,h2.congr λa v=>?_⟩,by grind⟩
      grind [AiG]
     simp_all
    ·have hi:i=(Pn l.Out k).length:=by omega
     subst hi;rw[w];exact .lft (.cnt ⟨⟨k+1,rfl,hlt,hm2.congr λa v=>(AnS hdef hnm).symm⟩,by grind⟩)
   refine .beq (λh17=>.beq (λhab=>?_) λhab=>inner (λhh=>hab hh.2) _ _) λh17=>inner (λhh=>h17 hh.1) _ _
   rw[w];exact .cnt ⟨⟨k+1,rfl,hlt,hm.congr λa v=>AdM (.inr ⟨h17,hab⟩)⟩,by grind⟩
  ·rw[if_neg hdef];rw[w];exact .cnt ⟨⟨k+1,rfl,hlt,hm.congr λa v=>AdM (.inl (by omega))⟩,by grind⟩
 ·have hk:k=f.Code.length:=by omega
  subst hk;refine(ArF hm.1 hm.2.1 hsl).bind λout ho=>.pure (.inl ⟨rfl,hacc,ho.congr λa v ha=>?_⟩)
  constructor
  ·intro h;have hr:0<=v/\v<f.Slots.length:=by
    rcases h with h|h
    ·exact(AoF hf hd hacc.1 h).2
    ·exact(AoF hf hd hacc.1 h).1
   refine⟨hr.1,hr.2,(hm.2.2 a v.toNat ha (by omega)).2 ?_⟩
   rw[aAM hr.1];exact h
  ·rintro⟨h0,h1,hc⟩;have:=(hm.2.2 a v.toNat ha (by omega)).1 hc
   rw[aAM h0]at this;exact this
theorem Ayq {a v:Int} (e:Ed mv f l a v):v≠a:=by
 obtain⟨j,hj,h1,h2,h3,h4,h5,_⟩:=e;exact h5
theorem PW.graph (h:PW f.Slots.length g λa v=>Ed mv f l a v\/Ed mv f l v a):Sn g f.Slots.length:=by
 obtain⟨h0,h⟩:=h;refine⟨by rw[h0],λx s hx=>⟨(h x s hx).1.1,(h x s hx).1.2,λhm=>?_⟩,λx s hx y hy=>?_⟩
 ·grind [Ayq]
 ·have hr:=(h x s hx).1;have y0:=(hr.1.2 y hy).1;have y1:=hr.2 y hy
  grind [rowAt]
structure Awx (p:Ph) (i:Int) (f:Le) (al:Int):Prop where
 hi:ixO p.Funcs i=some f
 arg:Acw p f
 slots:Uc f.Slots
 alok:Tb al
 al16:16<=al
 al64:al<=64
 len':f.Code.length<=10000
def Akp (f:Le) (y:Po) (k:Nat):Prop:=∃ o s,y.Off[k]? =some o/\f.Slots[k]? =some s/\y.Args<=o/\o.tmod s.Align=0/\InI ⟨o,s.Size⟩ y.Size
def Wv (p:Ph) (f:Le) (al:Int) (y:Po):Prop :=
 y.Args=16*QN p f f.Code.length/\y.Off.length=f.Slots.length/\(∀ k:Nat,k<f.Slots.length->Akp f y k)/\y.Size.tmod al=0/\y.Args<=y.Size/\y.Size<=(AmS p f al).Size
section
variable {p:Ph} {i:Int} {f:Le} {al:Int} (h:Awx p i f al)
 include h
theorem Avl (y:Po):Hs (XH p i al y) λe=>(e=0\/e=13)/\(e=0↔Wv p f al y):=by
 have hal:=h.al16;have hsl:=h.slots.1;have no:∀ {Q:Prop},(Wv p f al y->False)->Hs (some (13:Int)) λe=>(e=0\/e=13)/\(e=0↔Wv p f al y):=λhn=>.pure ⟨.inr rfl,⟨λh=>(by cases h),λh=>(hn h).elim⟩⟩
 unfold XH;rw[ArN h.hi h.len' h.arg h.slots h.alok h.al64,aA,h.hi,aA,Ain h.hi h.len' h.arg,aA];simp only[bne_self_eq_false,cond_false];refine .bne (λhA=>no (Q:=True) λhq=>hA hq.1) λhA=>.bne (λhL=>no (Q:=True) λhq=>hL (by rw[hq.2.1])) λhL=>?_
 have hL:y.Off.length=f.Slots.length:=by omega
 refine Hs.loop (λq=>∃ k:Nat,q=(k:Int)/\k<=f.Slots.length/\∀ j<k,Akp f y j) (λq=>f.Slots.length-q.toNat) ⟨0,rfl,aAD _,λj hj=>absurd hj (aAH _)⟩ ?_
 rintro _ ⟨k,rfl,hk,hall⟩;refine .dec (λhlt=>?_) λhge=>.lft ?_
 ·have hlt:k<f.Slots.length:=by omega
  have eo:y.Off[k]? =some (y.Off[k]'(by omega)):=aAA _
  have es:f.Slots[k]? =some f.Slots[k]:=aAA _;have hs:=(h.slots.2 _ (aAC hlt)).1.rng;generalize(y.Off[k]'(by omega))=o at eo
  generalize f.Slots[k]=s at es hs;have key:Akp f y k↔y.Args<=o/\o.tmod s.Align=0/\InI ⟨o,s.Size⟩ y.Size:=by
   grind [Akp]
  simp only[Pr,eo,es,aA,AuN];refine .dec (λh1=>.lft (no (Q:=True) λhq=>?_)) λh1=>.chk (by omega) (.bne (λh2=>.lft (no (Q:=True) λhq=>?_)) λh2=>.cond (λh3=>.lft (no (Q:=True) λhq=>?_)) λh3=>?_)
  ·have:=key.1 (hq.2.2.1 k hlt);omega
  ·exact h2 (key.1 (hq.2.2.1 k hlt)).2.1
  ·rw[decide_eq_true (key.1 (hq.2.2.1 k hlt)).2.2]at h3;cases h3
  ·rw[OZ (by omega)]
   refine .cnt ⟨⟨k+1,rfl,hlt,λj hj=>?_⟩,by grind⟩
   grind
 ·have hkk:k=f.Slots.length:=by omega
  subst hkk;refine .chk (by omega) (.bne (λh1=>no (Q:=True) λhq=>h1 hq.2.2.2.1) λh1=>.dec (λh2=>no (Q:=True) λhq=>?_) λh2=>.dec (λh3=>no (Q:=True) λhq=>?_) λh3=>.pure ⟨.inl rfl,⟨λ_=>⟨hA,hL,hall,h1,?_,?_⟩,λ_=>rfl⟩⟩)
  ·have:=hq.2.2.2.2.1;omega
  ·have:=hq.2.2.2.2.2;grind
  all_goals simp_all
end
open Go Go.Dw Go.Proofs
theorem Tb.max {a b:Int} (ha:Tb a) (hb:Tb b):Tb (PH a b):=by grind [PH]
theorem Avo (h:Uc s):Hs (Vu s) λa=>Tb a/\16<=a/\a<=64:=by
 have a16:Tb 16:=Xs 4 (by omega)
 have hl:=h.1;unfold Vu;refine(Avm s).bind λe he=>.bne (λ_=>.pure ⟨a16,by omega,by omega⟩) λ_=>?_
 refine Hs.loop (λq=>∃ k:Nat,q.2=(k:Int)/\k<=s.length/\Tb q.1/\16<=q.1/\q.1<=64) (λq=>s.length-q.2.toNat) ⟨0,rfl,aAD _,a16,by omega,by omega⟩ ?_
 rintro⟨a,_⟩ ⟨k,rfl,hk,h1,h2,h3⟩;replace h2:16<=a:=h2;replace h3:a<=64:=h3;unfold Yv;dsimp only;refine .dec (λhlt=>?_) λ_=>.lft (.pure ⟨h1,h2,h3⟩)
 have hlt:k<s.length:=by omega
 rw[OZ (by omega)]
 refine(Hs.ix (by omega) (by omega) λx hx=>h.2 x (aAG hx)).bind λx hx=>.cnt ⟨⟨k+1,rfl,hlt,h1.max hx.1,?_,?_⟩,by grind⟩
 all_goals grind [PH]
theorem AuW (hp:p.Funcs.length<=1000) (h:∀ f∈p.Funcs,Uc f.Slots):Hs (Ux p) λa=>Tb a/\16<=a/\a<=64:=by
 have a16:Tb 16:=Xs 4 (by omega)
 unfold Ux;refine Hs.loop (λq=>∃ k:Nat,q.2=(k:Int)/\k<=p.Funcs.length/\Tb q.1/\16<=q.1/\q.1<=64) (λq=>p.Funcs.length-q.2.toNat) ⟨0,rfl,aAD _,a16,by omega,by omega⟩ ?_
 rintro⟨a,_⟩ ⟨k,rfl,hk,h1,h2,h3⟩;replace h2:16<=a:=h2;replace h3:a<=64:=h3;unfold Abn;dsimp only;refine .dec (λhlt=>?_) λ_=>.lft (.pure ⟨h1,h2,h3⟩)
 have hlt:k<p.Funcs.length:=by omega
 rw[OZ (by omega)]
 refine(Hs.ix (by omega) (by omega) λx hx=>h x (aAG hx)).bind λx hx=>(Avo hx).bind λb hb=>.cnt ⟨⟨k+1,rfl,hlt,h1.max hb.1,?_,?_⟩,by grind⟩
 all_goals grind [PH]
theorem SA.args {ps:List Int} {most:Int} (h:SA ps i most f) (hi:0<=i) (hl:p.Funcs.length=ps.length) (hps:Aos ps) (hall:∀ (j:Nat) g,p.Funcs[j]? =some g->SA ps j most g):Acw p f:=by
 intro x hx;obtain⟨k,hk⟩:=aAF hx;have hkl:=(aAE.1 hk).1
 by_cases hk1:k+1<f.Code.length
 ·have hins:=h.body k x hk hk1;cases hins with
  | call j h0 h1 =>
   refine⟨λe=>by simp at e,λ_=>⟨by grind,?_⟩⟩
   have hg:p.Funcs[j.toNat]? =some (p.Funcs[j.toNat]'(by omega)):=aAA _
   have:=(hall _ _ hg).par;exact⟨_,hg,hps.1 _ (aAG this)⟩
  | arg a b h0 h1 h2=>simp_all
  | bin op a b c h1 h2 h3 h4 h5 h6=>grind
  | un op a h1 h2=>grind
  | _=>exact⟨λe=>by simp at e,λe=>by simp at e⟩
 ·have he:=h.last x (by grind)
  rcases he with rfl|⟨w,_,rfl⟩<;>exact⟨λe=>by simp at e,λe=>by simp at e⟩
structure Opt (p:Ph) (i:Int) (f:Le):Prop where
 hi:ixO p.Funcs i=some f
 arg:Acw p f
 so:∀ x∈f.Slots,TZ x
 sl:f.Slots.length<=7
 XE:Pz f
 defs:Rq f
 ml:Ya f
 last:Ago f
 calls:Aff p.Funcs.length f
 pl:p.Funcs.length<=1000
 all:∀ g∈p.Funcs,Uc g.Slots
section
variable {p:Ph} {i:Int} {f:Le}
theorem Yb.slot (hs:∀ x∈f.Slots,TZ x) {r:Pk} (htl:r.To.length=f.Slots.length) {used:List Int} {out:List Pb} (h:Yb f r used out):∀ y∈out,TZ y:=by
 intro y hy;obtain⟨j,hj⟩:=aAF hy;have hjl:=(aAE.1 hj).1;have hu:used[j]? =some (used[j]'(by rw[<- h.len];exact hjl)):=aAA _
 obtain⟨x,l,h1,h2,h3,h4⟩:=h.at_ j _ y hu hj;have hx:=hs x (aAG h1);unfold TZ;rw[h2];refine⟨hx.1,?_⟩;rcases h4.2.2 with e|⟨t,ht,e⟩
 ·rw[e];exact hx.2
 ·obtain⟨k,hk,rfl,_⟩:=(h3 t).1 ht;have hs':f.Slots[k]? =some (f.Slots[k]'(by omega)):=aAA _
  have:alS f (k:Int)=(f.Slots[k]'(by omega)).Align:=by grind [alS]
  rw[e,this];exact(hs _ (aAC _)).2
theorem ArG (pl:List Int) (x:OT):(mvI pl x).Op=x.Op:=by
 grind [mvI]
theorem Apr {to pl:List Int} {x:OT} (h:x.Op=18\/x.Op=22):mvI pl (rnI to x)=x:=by
 have e:rnI to x=x:=by
  unfold rnI
  grind
 rw[e];unfold mvI
 grind
theorem Apb {q:Le} (hi:ixO p.Funcs i=some f) (hq:q.Params=f.Params) (a:Nat):((p.Funcs.set i.toNat q)[a]?).map Le.Params=(p.Funcs[a]?).map Le.Params:=by
 obtain⟨i0,i1,h⟩:=AkK hi
 grind
theorem AqO {q:Le} {r:Pk} {to pl:List Int} (hi:ixO p.Funcs i=some f) (hq:q.Params=f.Params) (hr:TR f r):∀ k:Nat,k<=f.Code.length->(Uj f r.Keep to pl k).foldl (Ud ⟨p.Funcs.set i.toNat q⟩) 0=(f.Code.take k).foldl (Ud p) 0
 | 0,_=>by simp[Uj]
 | k+1,hk=>by
  have ih:=AqO (to:=to) (pl:=pl) hi hq hr k (by omega)
  have hx:OU f (k:Nat)=f.Code[k]'(by omega):=by grind [OU]
  rw[Amu,List.foldl_append,ih,aAL (by omega),List.foldl_append,<- hx]
  generalize(f.Code.take k).foldl (Ud p) 0=n
  by_cases hk':Pv r.Keep k=true
  ·rw[if_pos hk']
   grind [Ud,Apr,Apb,ArG,AgH]
  ·rw[if_neg hk'];have:=hr.2.2 k (by omega) (by simp_all)
   show n=Ud p n (OU f (k:Nat));unfold Ud;omega
structure Ayn (p:Ph) (i:Int) (f:Le) (x:Ra) (a0:Int) (q:Le) (off:List Int):Prop where
 live:XZ f x.Live.Out
 rw_:TR f x.Rename
 cls:∃ g:List (List Int),PW f.Slots.length g (λa v=>Ed QO f x.Live.Out a v\/Ed QO f x.Live.Out v a)/\Abe f g x.Rename.To/\TQ f g=some x.Rename.To
 keep:∀ k:Nat,k<f.Code.length->(Pv x.Rename.Keep k=true↔¬ TX f x.Live.Out k/\¬ ((OU f k).Op=17/\Pf x.Rename.To (OU f k).A=Pf x.Rename.To (OU f k).B))
 app:Aea f x.Rename (q,0)
 ref:SX f x.Rename=some (q,0)
 XE:Pz q
 defs:Rq q
 after:XZ q x.LiveAfter.Out
 hal:Ux p=some a0
 al:Tb a0/\16<=a0/\a0<=64
 arg:Acw ⟨p.Funcs.set i.toNat q⟩ q
 args:QN ⟨p.Funcs.set i.toNat q⟩ q q.Code.length=QN p f f.Code.length
 slot:∀ x∈q.Slots,TZ x
 slots:q.Slots.length<=f.Slots.length
 strict:∃ s:List (List Int),PW q.Slots.length s (λa v=>Ed QY q x.LiveAfter.Out a v\/Ed QY q x.LiveAfter.Out v a)/\YF q.Slots s (16*QN p f f.Code.length)=some (off,0)
 lay:x.Layout=Amj ⟨p.Funcs.set i.toNat q⟩ q a0 off
theorem Atg {a b:Pj} (h:a.Out=b.Out):a=b:=by cases a;simp_all
theorem AtX (hf:Pz f) (hd:Rq f) {l:Pj} (hl:Acc f l.Out):∃ g,Xa f l=some (g,0)/\Age f l=some (g,0)/\PW f.Slots.length g λa v=>Ed QO f l.Out a v\/Ed QO f l.Out v a:=by
 have hlen:=hl.1.len hf;obtain⟨a,h1,h2⟩:=AuF hf hd hlen;have key:Hs (Age f l) (SS QO f l.Out):=by
  exact(AmF hf hd hlen false).bind λr hr=>.pure hr
 obtain⟨b,k1,k2⟩:=key;obtain rfl:=h2.unique k2;obtain⟨g,e⟩:=a;rcases h2 with⟨q1,_,q3⟩|⟨_,q2,_⟩
 all_goals simp_all
theorem AsT (hf:Pz f) (hd:Rq f) {l:Pj} (hl:Acc f l.Out):∃ g,VM f l=some (g,0)/\Air f l=some (g,0)/\PW f.Slots.length g λa v=>Ed QY f l.Out a v\/Ed QY f l.Out v a:=by
 have hlen:=hl.1.len hf;obtain⟨a,h1,h2⟩:=AtU hf hd hlen;have key:Hs (Air f l) (SS QY f l.Out):=by
  exact(AmF hf hd hlen true).bind λr hr=>.pure hr
 obtain⟨b,k1,k2⟩:=key;obtain rfl:=h2.unique k2;obtain⟨g,e⟩:=a;rcases h2 with⟨q1,_,q3⟩|⟨_,q2,_⟩
 all_goals simp_all
theorem Amx (h:Opt p i f):∃ x al q off,Ui p i=some x/\AlC p i=some x/\Ayn p i f x al q off:=by
 obtain⟨i0,i1,hif⟩:=AkK h.hi;have hf:=h.XE;have hlen:=hf.len';obtain⟨l,el,hl⟩:=ApX hf;obtain⟨l',el',hl'⟩:=ArZ hf;obtain rfl:=Atg (hl'.unique hl);have hacc:=hl.acc hf;obtain⟨g,eg,eg',hg⟩:=AtX hf h.defs hacc;obtain⟨to,ec,ec'⟩:=AqZ hf h.ml hg;have hcls:Abe f g to:=by
  obtain⟨to',e,hto⟩:=Aox hlen hf.slots h.ml hg (λx y r s hr hs hy=>((hg.2 y s hs).2 _).2 (((hg.2 x r hr).2 _).1 hy).symm) λx r hr hx=>by
   rcases((hg.2 x r hr).2 _).1 hx with⟨_,_,_,_,_,_,h',_⟩|⟨_,_,_,_,_,_,h',_⟩<;>exact h' rfl
  simp_all
 obtain⟨keep,ek,ek'⟩:=AuO hf hacc.1 h.ml hcls.ok.1;have hkeep:keep.length=f.Code.length/\∀ k:Nat,k<f.Code.length->(Pv keep k=true↔¬ TX f l'.Out k/\¬ ((OU f k).Op=17/\Pf to (OU f k).A=Pf to (OU f k).B)):=by
  obtain⟨kp,e,hk⟩:=Apm hf hacc.1 h.ml hcls.ok.1;simp_all
 have hr:TR f ⟨to,keep⟩:=by
  obtain⟨g2,e1,t2,e2,k2,e3,hr⟩:=Aty hf h.defs h.ml hacc;simp_all
 obtain⟨⟨q,qe⟩,ea,ea',hx⟩:=Atv hf h.defs hr;have qe0:qe=0:=hx.1;subst qe0;obtain⟨qf,qd,qc⟩:Pz q/\Rq q/\Aff p.Funcs.length q:=by
  obtain⟨q',e,_,h1,h2,h3⟩:=Ass hf h.defs h.last h.calls hr;simp_all
 obtain⟨l2,e2,hl2⟩:=ApX qf;obtain⟨l2',e2',hl2'⟩:=ArZ qf;obtain rfl:=Atg (hl2'.unique hl2);have hacc2:=hl2.acc qf;obtain⟨s,es,es',hs⟩:=AsT qf qd hacc2;have hqp:q.Params=f.Params:=hx.2.1;obtain⟨_,_,used,to',pl,hu,hsx,hn,hpl,hcode⟩:=id hx;have hslot:=Yb.slot h.so hr.1.1 hsx;have hul:q.Slots.length<=f.Slots.length:=by
  rw[hsx.len];have:=AmR (l:=used) (a:=0) (n:=(f.Slots.length:Int)) hu.1.1 λv hv=>by
   obtain⟨_,j,hj,hk,hv'⟩:=(hu.2 v).1 hv;exact AdS hf h.defs hr.1 (hf.at (j:=(j:Int)) (by omega) (by omega)).2 v hv'
  omega
 have hargs:QN ⟨p.Funcs.set i.toNat q⟩ q q.Code.length=QN p f f.Code.length:=by
  unfold QN;rw[aAK,aAK,hcode,AqO h.hi hqp hr _ (aAI _),aAK]
 have harg:Acw ⟨p.Funcs.set i.toNat q⟩ q:=by
  intro y hy;rw[hcode]at hy;obtain⟨pn,hp⟩:=aAF hy;obtain⟨j,h1,_,_,rfl⟩:=(AaN (f:=f) (keep:=keep) (to:=to') (pl:=pl) _ (by omega)).2 pn y hp
  have hm:=(hf.at (j:=(j:Int)) (by omega) (by omega)).2
  rw[ArG,AgH];refine⟨λe=>?_,λe=>?_⟩
  ·rw[Apr (.inl e)];exact(h.arg _ hm).1 e
  ·rw[Apr (.inr e)];obtain⟨a0,gg,hgg,hpp⟩:=(h.arg _ hm).2 e;refine⟨a0,?_⟩;have hsp:=Apb (p:=p) h.hi hqp (OU f (j:Nat)).A.toNat
   grind
 have hset:ixO (⟨p.Funcs.set i.toNat q⟩:Ph).Funcs i=some q:=by
  grind [Qt]
 have hk4:=YO h.arg (aAI f.Code.length);have eo:=AxB p q (by have:=h.pl;omega) i0 (by omega)
 have eo':=ArW p q (by have:=h.pl;omega) i0 (by omega)
 have epa:YM ⟨p.Funcs.set i.toNat q⟩ i=some (16*QN p f f.Code.length):=by
  rw[ArJ hset qf.len' harg,hargs]
 have era:=Ain h.hi hlen h.arg;have hsl:Uc q.Slots:=⟨by have:=h.sl;omega,λx hx=>(hslot x hx).al⟩
 have hG:Sn s q.Slots.length:=hs.graph;have hgl:∀ row∈s,row.length<=512:=λrow hrow=>by
  obtain⟨k,hk⟩:=aAF hrow;exact(hs.2 k row hk).1.1.length_le
 obtain⟨off,eas,eas'⟩:=Asu hsl hslot hG hgl (frm:=16*QN p f f.Code.length) (by omega)
 obtain⟨al,eal,eal'⟩:=AsM p (by have:=h.pl;omega)
 have hal:Tb al/\16<=al/\al<=64:=by
  obtain⟨a,e,ha⟩:=AuW h.pl h.all;simp_all
 obtain⟨hol,hop⟩:off.length=q.Slots.length/\∀ y:Nat,y<q.Slots.length->Plc q.Slots (16*QN p f f.Code.length) (16*QN p f f.Code.length+80*q.Slots.length) off y:=by
  obtain⟨r,e,_,h1,h2,_⟩:=ApN hsl hslot hG hgl (frm:=16*QN p f f.Code.length) (by omega)
  simp_all
 have hbnd:∀ y:Nat,y<q.Slots.length->0<=oN off y/\0<=szN q.Slots y/\oN off y+szN q.Slots y<=1000:=λy hy=>by
  obtain⟨p1,p2,_⟩:=hop y hy;have hsy:q.Slots[y]? =some q.Slots[y]:=aAA _;obtain⟨_,_,b3,b4⟩:=hsl.2 _ (aAC hy);rw[<- (SR hsy).1]at b3 b4;have:=hsl.1;omega
 have efn:=AxD (p:=⟨p.Funcs.set i.toNat q⟩) (B:=1000) hset qf.len' harg (by have:=hsl.1;omega) hal.1 hol (by omega) hbnd
 have efn':=Atk (p:=⟨p.Funcs.set i.toNat q⟩) (B:=1000) hset qf.len' harg (by have:=hsl.1;omega) hal.1 hol (by omega) hbnd
 refine⟨⟨l',⟨to,keep⟩,l2',Amj ⟨p.Funcs.set i.toNat q⟩ q al off⟩,al,q,off,?_,?_,⟨hl,hr,⟨g,hg,hcls,ec'⟩,hkeep.2,hx,ea',qf,qd,hl2,eal',hal,harg,hargs,hslot,hul,⟨s,hs,eas'⟩,rfl⟩⟩
 ·unfold Ui Xg Xf We Wf;simp only[h.hi,aA,el,eg,ec,ek,ea,e2,eo,es,epa,eas,bne_self_eq_false,cond_false,eal,efn,beq_self_eq_true,cond_true]
 ·unfold AlC;simp only[h.hi,aA,el',eg',ec',ek',ea',e2',es',era,eas',bne_self_eq_false,cond_false,eo',eal',efn']
end
end Go.Proofs.YtilmapojncgflaaGreatDoor
namespace Go.Dw
end Go.Dw
namespace Go.Proofs.YtilmapojncgflaaGreatDoor
open Go Go.Dw Go.Proofs
variable {p:Ph} {f:Le} {s:Int} {off:List Int} {l:List (List Int)} {y:Po} {k:Nat} {q:Int×Int×Bool} {r:Pk}
abbrev Atw:Le:=Le.mk 0 ([]) ([(OT.mk 23 0 0 0 0)]:List OT)
theorem AvH:Opt ⟨[Atw]⟩ 0 Atw:=by
 have one:∀ x∈Atw.Code,x=OT.mk 23 0 0 0 0:=λx hx=>by simp_all
 refine⟨rfl,λx hx=>?_,λx hx=>(by cases hx),by simp,⟨by simp,by simp,by simp,λk x hx j hj=>?_,λx hx v hv=>?_⟩,λx hx hop=>?_,λx hx hop=>?_,.inl rfl,λx hx hop=>?_,by simp,λg hg=>?_⟩
 ·simp_all
 ·grind [PZ]
 ·grind [Qy]
 ·simp_all
 ·simp_all
 ·simp_all
 ·have:g=Atw:=by simp_all
  subst this;exact⟨by simp,λx hx=>by cases hx⟩
theorem AwF:Acm=some true:=by
 obtain⟨x,al,q,off,h1,_,h3⟩:=Amx AvH;have e1:x.Live.Out.length=1:=h3.live.ok.1;have e2:x.Rename.Keep.length=1:=h3.rw_.2.1;unfold Acm;simp_all
theorem AhL.opt {funcs most:Int} (h:AhL funcs most p) (hm:most<=1000) {i:Int} (hi:ixO p.Funcs i=some f):Opt p i f:=by
 obtain⟨ps,hps,hz,hp1,hp2,hfl,hall⟩:=h;obtain⟨i0,i1,hif⟩:=AkK hi;have hfo:SA ps (i.toNat:Nat) most f:=hall i.toNat f (by omega)
 have hpl:=hps.2
 exact⟨hi,hfo.args (by omega) hfl hps hall,hfo.slot,(by have:=hfo.slots;omega),hfo.XE hm,hfo.defs,hfo.ArH,hfo.Ayc,by rw[hfl];exact hfo.calls (by omega),by omega,λg hg=>by
  obtain⟨j,hj⟩:=aAF hg
  exact(hall j g hj).AxN⟩
theorem AhL.Ayu {funcs most:Int} (h:AhL funcs most p) (hm:most<=1000):p.Funcs.length<=1000/\∀ f∈p.Funcs,f.Code.length<=1000000/\f.Slots.length<=1000000:=by
 obtain⟨ps,hps,hz,hp1,hp2,hfl,hall⟩:=h;have hpl:=hps.2;refine⟨by omega,λg hg=>?_⟩
 obtain⟨j,hj⟩:=aAF hg;have:=hall j g hj;exact⟨by have:=this.len';omega,by have:=this.slots;omega⟩
theorem AhL.one {funcs most:Int} (h:AhL funcs most p):1<=p.Funcs.length:=by
 obtain⟨ps,hps,hz,hp1,hp2,hfl,hall⟩:=h;omega
structure Ako (p:Ph) (i:Int) (f:Le) (al:Int):Prop where
 hi:ixO p.Funcs i=some f
 arg:Acw p f
 slots:Uc f.Slots
 alok:Tb al
 al16:16<=al
 al64:al<=64
 XE:Pz f
 defs:Rq f
 ml:Ya f
theorem Ako.bas {i:Int} {al:Int} (h:Ako p i f al):Awx p i f al:=⟨h.hi,h.arg,h.slots,h.alok,h.al16,h.al64,h.XE.len'⟩
section
variable {p:Ph} {i:Int} {f:Le} {al:Int} (h:Ako p i f al)
 include h
theorem AnJ (y:Po):Hs (XH p i al y) λe=>(e=0\/e=13)/\(e=0↔Wv p f al y):=Avl h.bas y
end
open Go Go.Dw Go.Proofs
theorem AxW {s:List Pb} (hs:s.length<=1000) (hl:off.length=s.length) {B:Int} (hB:0<=B/\B<=100000) (h:∀ y:Nat,y<s.length->0<=oN off y+szN s y/\oN off y+szN s y<=B):Hs (AgG s off) λe=>0<=e/\e<=B/\∀ y:Nat,y<s.length->oN off y+szN s y<=e:=by
 unfold AgG;refine Hs.loop (λq=>∃ k:Nat,q.2=(k:Int)/\k<=s.length/\0<=q.1/\q.1<=B/\∀ y:Nat,y<k->oN off y+szN s y<=q.1) (λq=>s.length-q.2.toNat) ⟨0,rfl,aAD _,Int.le_refl _,hB.1,λy hy=>absurd hy (aAH _)⟩ ?_
 rintro⟨n,_⟩ ⟨k,rfl,hk,h0,h1,h2⟩;replace h0:0<=n:=h0;replace h1:n<=B:=h1;replace h2:∀ y:Nat,y<k->oN off y+szN s y<=n:=h2;unfold AmD;dsimp only;refine .dec (λhlt=>.dec (λhlt2=>?_) λhge=>?_) λhge=>.lft (.pure ⟨h0,h1,λy hy=>h2 y (by omega)⟩)
 rotate_left
 ·omega
 have hlt:k<s.length:=by omega
 unfold Aiv;have ho:off[k]? =some (oN off k):=by grind [oN]
 have hsk:s[k]? =some s[k]:=aAA _;obtain⟨a1,a2⟩:=h k hlt;rw[Pr,ho,aA,Pr,hsk,aA,<- (SR hsk).1,OZ (by omega),wrap64 (by omega) (by omega)]
 refine .cnt ⟨⟨k+1,rfl,hlt,?_,?_,λy hy=>?_⟩,by grind⟩
 all_goals grind [PH]
section
variable {p:Ph} {i:Int} {f:Le} {al:Int} (h:Ako p i f al)
 include h
theorem AuC (hl:off.length=f.Slots.length) (hp:∀ y:Nat,y<f.Slots.length->Plc f.Slots (16*QN p f f.Code.length) (16*QN p f f.Code.length+80*f.Slots.length) off y) :
  Hs (YG p i al off) λq=>q.2=0/\q.1.Off=off/\(Wv p f al q.1↔q.1.Size<=(AmS p f al).Size):=by
 have hr:=YO h.arg (k:=f.Code.length) (aAI _);have hsl:=h.slots.1;have h16:=h.al16;have h64:=h.al64;have bnd:∀ y:Nat,y<f.Slots.length->1<=szN f.Slots y/\szN f.Slots y<=16:=λy hy=>by
  have hsy:f.Slots[y]? =some f.Slots[y]:=aAA _;obtain⟨_,_,b3,b4⟩:=h.slots.2 _ (aAC hy)
  grind [SR]
 have rgt:∀ y:Nat,y<f.Slots.length->QP (ivN f.Slots off y):=λy hy=>by
  obtain⟨p1,p2,_⟩:=hp y hy;have:=bnd y hy;refine⟨?_,?_,?_,?_,?_⟩<;>simp only[ivN]<;>omega
 unfold YG;rw[h.hi,aA];refine .bne (λhne=>(hne (by rw[hl])).elim) λ_=>?_
 refine Hs.loop (λq=>∃ k:Nat,q=(k:Int)/\k<=f.Slots.length) (λq=>f.Slots.length-q.toNat) ⟨0,rfl,aAD _⟩ ?_
 rintro _ ⟨k,rfl,hk⟩;refine .dec (λhlt=>?_) λ_=>.lft ?_
 ·have hlt:k<f.Slots.length:=by omega
  have ho:off[k]? =some (oN off k):=by grind [oN]
  have hsk:f.Slots[k]? =some f.Slots[k]:=aAA _;rw[Pr,ho,aA,Pr,hsk,aA,<- (SR hsk).1,Zf,aA,decide_eq_true (show QP ⟨oN off k,szN f.Slots k⟩from rgt k hlt)]
  rw[OZ (by omega)]
  exact .cnt ⟨⟨k+1,rfl,hlt⟩,by grind⟩
 ·rw[Ain h.hi h.XE.len' h.arg,aA];refine(AxW (by omega) hl (B:=16*QN p f f.Code.length+80*f.Slots.length) (by omega) λy hy=>?_).bind λe ⟨e0,e1,e2⟩=>?_
  ·obtain⟨p1,p2,_⟩:=hp y hy
   grind
  have hm:16*QN p f f.Code.length<=PH (16*QN p f f.Code.length) e/\e<=PH (16*QN p f f.Code.length) e/\PH (16*QN p f f.Code.length) e<=1000:=by grind [PH]
  generalize PH (16*QN p f f.Code.length) e=M at hm;obtain⟨u1,u2,u3⟩:=Rp (n:=M) (a:=al) (by omega)
  rw[Aki (by omega) (by omega) h.alok,aA]
  simp only[bne_self_eq_false,cond_false];rw[decide_eq_false (by omega),cond_false]
  refine .chk (by simp;omega) (.pure ⟨rfl,by simp,⟨λhs=>hs.2.2.2.2.2,λhle=>⟨rfl,by simp_all,λk hk=>?_,?_,?_,hle⟩⟩⟩)
  ·have ho:off[k]? =some (oN off k):=by grind [oN]
   have hsk:f.Slots[k]? =some f.Slots[k]:=aAA _;obtain⟨p1,p2,p3⟩:=hp k hk;refine⟨oN off k,f.Slots[k],by simp_all,hsk,p1,by simp_all[SR],by rw[<- (SR hsk).1];exact rgt k hk,?_⟩
   grind [SR]
  all_goals grind
end
open Go Go.Dw Go.Proofs
def Ahx (y:Po) (s:Int):Int:=(y.Off[s.toNat]?).getD 0
def WH (f:Le) (l:List (List Int)) (y:Po) (k:Nat) (s:Int):Prop :=
 ((OU f k).Op=16\/(OU f k).Op=17)/\¬ ((OU f k).Op=17/\Ahx y (OU f k).A=Ahx y (OU f k).B)/\s∈Pn l k/\s≠(OU f k).A/\WI ⟨Ahx y s,Rg f s⟩ ⟨Ahx y (OU f k).A,Rg f (OU f k).A⟩
instance {f:Le} {l:List (List Int)} {y:Po} {k:Nat} {s:Int}:Decidable (WH f l y k s):=by unfold WH;infer_instance
theorem WH.mono {l':List (List Int)} (h:WH f l' y k s) (hs:∀ v∈Pn l' k,v∈Pn l k):WH f l y k s :=
 ⟨h.1,h.2.1,hs s h.2.2.1,h.2.2.2⟩
def Vw (f:Le) (l:List (List Int)) (y:Po) (k:Nat):Option Int:=(Pn l k).find? λs=>decide (WH f l y k s)
def Aro (o:Option Int):Int×Bool:=match o with|some y=>(y,true)|none=>(0,false)
theorem AvR {l:List Int} {p:Int->Bool} {j:Nat} {y:Int} (h:l[j]? =some y) (hp:p y=true) (hn:∀ z∈l.take j,p z=false):l.find? p=some y:=by
 grind [aAq,aAV]
theorem AlP:Vw f l y k=none↔∀ s,¬ WH f l y k s:=by
 unfold Vw;rw[aAb];exact⟨λh s hs=>by have:=h s hs.2.2.1;simp_all,λh s _=>by simp[h s]⟩
theorem AqY (h:Vw f l y k=some s):WH f l y k s:=by
 grind [Vw]
theorem AmU (hl:y.Off.length=f.Slots.length) (h0:0<=s) (h1:s<f.Slots.length):ixO y.Off s=some (Ahx y s):=by
 grind [Qt,Ahx]
theorem Atm (h0:0<=s) (h1:s<f.Slots.length):∃ x,ixO f.Slots s=some x/\x.Size=Rg f s:=by
 have e:f.Slots[s.toNat]? =some (f.Slots[s.toNat]'(by omega)):=aAA _
 grind [Qt,AeQ]
section
variable {p:Ph} {i:Int} {f:Le} {al:Int} (h:Ako p i f al)
 include h
theorem Avc (hyl:y.Off.length=f.Slots.length) {l:Pj} (hl:QG f l.Out) (hk:k<f.Code.length) :
  Hs (Acs f l y (k:Int)) λq=>q=Aro (Vw f l.Out y k):=by
 have hx:=h.XE.at (j:=(k:Int)) (by omega) (by omega)
 have hrow:=hl.at (j:=(k:Int)) (by omega) (by omega)
 rw[aAB]at hx hrow;have hlo:=hrow.2.1.length_le;have none':(∀ s,¬ WH f l.Out y k s)->Vw f l.Out y k=none:=AlP.2;unfold Acs;simp only[Pr,hx.1,aA,AhG,AgP]
 by_cases hdef:(OU f k).Op=16\/(OU f k).Op=17
 ·rw[if_pos hdef];have hA:=h.defs _ hx.2 hdef;obtain⟨xA,eA,hxA⟩:=Atm (f:=f) hA.1 hA.2;have inner:¬ ((OU f k).Op=17/\Ahx y (OU f k).A=Ahx y (OU f k).B)->Hs (YH l (k:Int) ((OU f k).A,true) y f) λq=>q=Aro (Vw f l.Out y k):=by
   intro hnm;refine Hs.loop (λi=>∃ j:Nat,i=(j:Int)/\j<=(Pn l.Out k).length/\∀ s∈(Pn l.Out k).take j,¬ WH f l.Out y k s) (λi=>(Pn l.Out k).length-i.toNat) ⟨0,rfl,aAD _,λy hy=>by simp at hy⟩ ?_
   rintro _ ⟨j,rfl,hj,hno⟩;unfold Abx;rw[Pr,hrow.1,aA];refine .dec (λhlt=>?_) λhge=>.lft (.pure ?_)
   ·have hlt:j<(Pn l.Out k).length:=by omega
    have hgx:(Pn l.Out k)[j]? =some (Pn l.Out k)[j]:=aAA _;have hxm:=aAC hlt;have htk:(Pn l.Out k).take (j+1)=(Pn l.Out k).take j++[(Pn l.Out k)[j]]:=by simp_all
    generalize(Pn l.Out k)[j]=s at hgx hxm htk;have hs0:=(hrow.2.1.2 s hxm).1;have hsn:=hrow.2.2 s hxm;obtain⟨xS,eS,hxS⟩:=Atm (f:=f) hs0 hsn;have stp:¬ WH f l.Out y k s->∀ z∈(Pn l.Out k).take (j+1),¬ WH f l.Out y k z:=by
     grind
    rw[aA,Pr,hgx,aA];simp only[AmU hyl hs0 hsn,AmU hyl hA.1 hA.2,eS,eA,hxS,hxA,aA,AoQ];rw[OZ (by omega)]
    refine .bne (λh1=>.cond (λh2=>.lft (.pure ?_)) λh2=>?_) λh1=>?_
    ·have hL:WH f l.Out y k s:=⟨hdef,hnm,hxm,h1,of_decide_eq_true h2⟩;rw[Vw,AvR hgx (by simp[hL]) λz hz=>by simp_all]
     rfl
    ·exact .cnt ⟨⟨j+1,rfl,hlt,stp λh=>by rw[decide_eq_true h.2.2.2.2]at h2;cases h2⟩,by grind⟩
    ·exact .cnt ⟨⟨j+1,rfl,hlt,stp λh=>h.2.2.2.1 h1⟩,by grind⟩
   ·rw[none' λs hs=>hno s (by rw[aAr (by omega)];exact hs.2.2.1) hs]
    rfl
  refine .beq (λh17=>?_) λh17=>inner λh=>h17 h.1
  have hB:=h.XE.uses _ hx.2 (OU f k).B (by grind [Qy])
  rw[AmU hyl hA.1 hA.2,aA,AmU hyl hB.1 hB.2,aA];refine .beq (λh=>.pure ?_) λh=>inner λh'=>h h'.2
  rw[none' λs hs=>hs.2.1 ⟨h17,h⟩]
  rfl
 ·rw[if_neg hdef];refine .pure ?_;rw[none' λs hs=>hdef hs.1]
  rfl
end
def AcX (f:Le) (l:List (List Int)) (y:Po) (q:Int×Int×Bool):Prop :=
 (∃ (k:Nat) (s:Int),k<f.Code.length/\Vw f l y k=some s/\(∀ j<k,Vw f l y j=none)/\q=((k:Int),s,true))\/((∀ j<f.Code.length,Vw f l y j=none)/\q=(0,0,false))
theorem AcX.unique {p:Int×Int×Bool} (h:AcX f l y q) (h':AcX f l y p):q=p:=by
 rcases h with⟨k,s,hk,h1,h2,rfl⟩|⟨h1,rfl⟩<;>rcases h' with⟨k',s',hk',h1',h2',rfl⟩|⟨h1',rfl⟩
 all_goals grind
theorem AcX.found (h:AcX f l y q):q.2.2=true↔∃ k s,k<f.Code.length/\WH f l y k s:=by
 rcases h with⟨k,s,hk,h1,h2,rfl⟩|⟨h1,rfl⟩
 all_goals grind [AqY,AlP]
def AmP (p:Ph) (f:Le) (al:Int) (l:List (List Int)) (y:Po) (e:Int):Prop :=
 (¬ Wv p f al y/\e=13)\/(Wv p f al y/\¬ Acc f l/\e=11)\/(Wv p f al y/\Acc f l/\(∃ k s,k<f.Code.length/\WH f l y k s)/\e=13)\/(Wv p f al y/\Acc f l/\(∀ k s,k<f.Code.length->¬ WH f l y k s)/\e=0)
theorem AmP.unique {al:Int} {a b:Int} (h:AmP p f al l y a) (h':AmP p f al l y b):a=b:=by
 rcases h with⟨h1,rfl⟩|⟨h1,h2,rfl⟩|⟨h1,h2,⟨k,s,hk,hc⟩,rfl⟩|⟨h1,h2,h3,rfl⟩<;>rcases h' with⟨k1,rfl⟩|⟨k1,k2,rfl⟩|⟨k1,k2,⟨k',s',hk',hc'⟩,rfl⟩|⟨k1,k2,k3,rfl⟩ <;>
  first|rfl|exact(h1 k1).elim|exact(k1 h1).elim|exact(h2 k2).elim|exact(k2 h2).elim|exact(k3 _ _ hk hc).elim|simp_all
section
variable {p:Ph} {i:Int} {f:Le} {al:Int} (h:Ako p i f al)
 include h
theorem AsJ (hyl:y.Off.length=f.Slots.length) {l:Pj} (hl:QG f l.Out):Hs (Abw p i l y) (AcX f l.Out y):=by
 have hlen:=h.XE.len';refine Hs.loop (λi=>∃ k:Nat,i=(k:Int)/\k<=f.Code.length/\∀ j<k,Vw f l.Out y j=none) (λi=>f.Code.length-i.toNat) ⟨0,rfl,aAD _,λj hj=>absurd hj (aAH _)⟩ ?_
 rintro _ ⟨k,rfl,hk,hall⟩;unfold Abv;rw[h.hi,aA];refine .dec (λhlt=>?_) λhge=>.lft (.pure (Or.inr ⟨λj hj=>hall j (by omega),rfl⟩))
 have hlt:k<f.Code.length:=by omega
 refine(Avc h hyl hl hlt).bind λq hq=>?_
 subst hq;cases hlk:Vw f l.Out y k with
 | some s=>exact .lft (.pure (Or.inl ⟨k,s,hlt,hlk,hall,rfl⟩))
 | none =>
  simp only[Aro,cond_false];rw[OZ (by omega)]
  refine .cnt ⟨⟨k+1,rfl,hlt,λj hj=>?_⟩,by grind⟩
  grind
theorem AsI (y:Po) {l:Pj} (hl:Abf l.Out):Hs (Agj p i al l y) λq=>(Wv p f al y/\Acc f l.Out->AcX f l.Out y q)/\(¬ (Wv p f al y/\Acc f l.Out)->q=(0,0,false)):=by
 refine(AnJ h y).bind λe he=>.bne (λhne=>.pure ⟨λhh=>(hne (he.2.2 hh.1)).elim,λ_=>rfl⟩) λh0=>?_
 rw[h.hi,aA];refine(AaP h.XE hl).bind λc hc=>.bne (λhne=>.pure ⟨λhh=>(hne (hc.2.2 hh.2)).elim,λ_=>rfl⟩) λhc0=>?_
 have hs:=he.2.1 h0;have ha:=hc.2.1 hc0;exact(AsJ h hs.2.1 ha.1).mono λq hq=>⟨λ_=>hq,λhn=>(hn ⟨hs,ha⟩).elim⟩
theorem AsH (y:Po) {l:Pj} (hl:Abf l.Out):Hs (Agi p i al l y) (AmP p f al l.Out y):=by
 refine(AnJ h y).bind λe he=>.bne (λhne=>.pure (.inl ⟨λhs=>hne (he.2.2 hs),?_⟩)) λh0=>?_
 ·omega
 rw[h.hi,aA];refine(AaP h.XE hl).bind λc hc=>.bne (λhne=>.pure (.inr (.inl ⟨he.2.1 h0,λha=>hne (hc.2.2 ha),?_⟩))) λhc0=>?_
 ·omega
 have hs:=he.2.1 h0;have ha:=hc.2.1 hc0;refine(AsI h y hl).bind λq hq=>?_
 replace hq:=hq.1 ⟨hs,ha⟩;refine .cond (λhb=>.pure (.inr (.inr (.inl ⟨hs,ha,hq.found.1 hb,rfl⟩)))) λhb=>.pure (.inr (.inr (.inr ⟨hs,ha,λk s hk hc=>?_,rfl⟩)))
 rw[hq.found.2 ⟨k,s,hk,hc⟩]at hb;cases hb
end
open Go Go.Dw Go.Proofs
def AbH (f:Le) (l:List (List Int)) (r:Pk) (k:Nat) (y:Int):Prop :=
 ((OU f k).Op=16\/(OU f k).Op=17)/\¬ ((OU f k).Op=17/\Pf r.To (OU f k).A=Pf r.To (OU f k).B)/\y∈Pn l k/\(Pv r.Keep k=true↔y≠(OU f k).A)/\Pf r.To y=Pf r.To (OU f k).A
instance {f:Le} {l:List (List Int)} {r:Pk} {k:Nat} {y:Int}:Decidable (AbH f l r k y):=by unfold AbH;infer_instance
theorem AbH.mono {l':List (List Int)} {y:Int} (h:AbH f l' r k y) (hs:∀ v∈Pn l' k,v∈Pn l k):AbH f l r k y :=
 ⟨h.1,h.2.1,hs y h.2.2.1,h.2.2.2.1,h.2.2.2.2⟩
def AaL (f:Le) (l:List (List Int)) (r:Pk) (k:Nat):Option Int:=(Pn l k).find? λy=>decide (AbH f l r k y)
def AqD (o:Option Int):Int×Bool:=match o with|some y=>(y,true)|none=>(0,false)
theorem AvS {l:List Int} {p:Int->Bool} {j:Nat} {y:Int} (h:l[j]? =some y) (hp:p y=true) (hn:∀ z∈l.take j,p z=false):l.find? p=some y:=by
 grind [aAq,aAV]
def Afg (f:Le) (l:List (List Int)) (r:Pk) (q:Int×Int×Bool):Prop :=
 (∃ (k:Nat) (y:Int),k<f.Code.length/\AaL f l r k=some y/\(∀ j<k,AaL f l r j=none)/\q=((k:Int),y,true))\/((∀ j<f.Code.length,AaL f l r j=none)/\q=(0,0,false))
theorem Afg.unique {p:Int×Int×Bool} (h:Afg f l r q) (h':Afg f l r p):q=p:=by
 rcases h with⟨k,y,hk,h1,h2,rfl⟩|⟨h1,rfl⟩<;>rcases h' with⟨k',y',hk',h1',h2',rfl⟩|⟨h1',rfl⟩
 all_goals grind
theorem Afg.found (h:Afg f l r q):q.2.2=true↔∃ k y,k<f.Code.length/\AbH f l r k y:=by
 rcases h with⟨k,y,hk,h1,_,rfl⟩|⟨h1,rfl⟩
 ·exact⟨λ_=>⟨k,y,hk,by simpa using List.find?_some h1⟩,λ_=>rfl⟩
 ·refine⟨λh=>(by cases h),λ⟨k,y,hk,hy⟩=>?_⟩
  have:=aAb.1 (h1 k hk) y hy.2.2.1;simp_all
theorem ArO (hf:Pz f) (hd:Rq f) {l:Pj} (hl:QG f l.Out) (hr:TR f r) (hk:k<f.Code.length) :
  Hs (YE f l r (k:Int)) λq=>q=AqD (AaL f l.Out r k):=by
 have htl:=hr.1.1;have hx:=hf.at (j:=(k:Int)) (by omega) (by omega)
 have hrow:=hl.at (j:=(k:Int)) (by omega) (by omega)
 rw[aAB]at hx hrow;have hlo:=hrow.2.1.length_le;have hg:r.Keep[k]? =some (Pv r.Keep k):=by have:=hr.2.1;grind [Pv]
 have tg:∀ s:Int,0<=s->s<f.Slots.length->ixO r.To s=some (Pf r.To s):=λs h0 h1=>by grind [Qt,Qn]
 have none':(∀ y,¬ AbH f l.Out r k y)->AaL f l.Out r k=none:=λh=>aAb.2 λy _=>by simp[h y]
 unfold YE;simp only[Pr,hx.1,aA,AhG,AgP]
 by_cases hdef:(OU f k).Op=16\/(OU f k).Op=17
 ·rw[if_pos hdef];have hA:=hd _ hx.2 hdef;have inner:¬ ((OU f k).Op=17/\Pf r.To (OU f k).A=Pf r.To (OU f k).B)->Hs (TM r (k:Int) l ((OU f k).A,true)) λq=>q=AqD (AaL f l.Out r k):=by
   intro hnm;unfold TM;simp only[Pr,hg,hrow.1,aA];refine .cond (λh=>?_) λh=>?_
   ·have hkf:Pv r.Keep k=false:=by simp_all
    rw[Zk _ _ (by omega),aA]
    have only:∀ y,AbH f l.Out r k y->y=(OU f k).A:=λy hy=>aAk λhn=>by rw[hy.2.2.2.1.2 hn]at hkf;cases hkf
    refine .dec (λhm=>.pure ?_) λhm=>.pure ?_
    ·have hL:AbH f l.Out r k (OU f k).A:=⟨hdef,hnm,hm,⟨λh=>(by simp_all),λh=>(h rfl).elim⟩,rfl⟩
     cases hla:AaL f l.Out r k with
     | none=>exact((aAb.1 hla _ hm) (by simp[hL])).elim
     | some y =>
      rw[only y (by simpa using List.find?_some hla)];rfl
    grind [AqD,AaL]
   ·have hkt:Pv r.Keep k=true:=by simp_all
    refine Hs.loop (λi=>∃ j:Nat,i=(j:Int)/\j<=(Pn l.Out k).length/\∀ y∈(Pn l.Out k).take j,¬ AbH f l.Out r k y) (λi=>(Pn l.Out k).length-i.toNat) ⟨0,rfl,aAD _,λy hy=>by simp at hy⟩ ?_
    rintro _ ⟨j,rfl,hj,hno⟩;unfold XX;simp only[Pr,hrow.1,aA];refine .dec (λhlt=>?_) λhge=>.lft (.pure ?_)
    ·have hlt:j<(Pn l.Out k).length:=by omega
     have hgx:(Pn l.Out k)[j]? =some (Pn l.Out k)[j]:=aAA _;have hxm:=aAC hlt;have htk:(Pn l.Out k).take (j+1)=(Pn l.Out k).take j++[(Pn l.Out k)[j]]:=by simp_all
     generalize(Pn l.Out k)[j]=y at hgx hxm htk;have hy0:=(hrow.2.1.2 y hxm).1;have hyn:=hrow.2.2 y hxm;have stp:¬ AbH f l.Out r k y->∀ z∈(Pn l.Out k).take (j+1),¬ AbH f l.Out r k z:=by
      grind
     simp only[hgx,tg _ hy0 hyn,tg _ hA.1 hA.2,aA];rw[OZ (by omega)]
     refine .bne (λh1=>.beq (λh2=>.lft (.pure ?_)) λh2=>?_) λh1=>?_
     ·have hL:AbH f l.Out r k y:=⟨hdef,hnm,hxm,⟨λ_=>h1,λ_=>hkt⟩,h2⟩
      rw[AaL,AvS hgx (by simp[hL]) λz hz=>by simp_all]
      rfl
     ·exact .cnt ⟨⟨j+1,rfl,hlt,stp λh=>h2 h.2.2.2.2⟩,by grind⟩
     ·exact .cnt ⟨⟨j+1,rfl,hlt,stp λh=>h.2.2.2.1.1 hkt h1⟩,by grind⟩
    ·rw[none' λy hy=>hno y (by rw[aAr (by omega)];exact hy.2.2.1) hy]
     rfl
  refine .beq (λh17=>?_) λh17=>inner λh=>h17 h.1
  have hB:=hf.uses _ hx.2 (OU f k).B (by grind [Qy])
  rw[tg _ hA.1 hA.2,aA,tg _ hB.1 hB.2,aA];refine .beq (λh=>.pure ?_) λh=>inner λh'=>h h'.2
  rw[none' λy hy=>hy.2.1 ⟨h17,h⟩]
  rfl
 ·rw[if_neg hdef];refine .pure ?_;rw[none' λy hy=>hdef hy.1]
  rfl
theorem ArM (hf:Pz f) (hd:Rq f) {l:Pj} (hl:Abf l.Out) (r:Pk):Hs (Abu f l r) λq=>(Acc f l.Out/\TR f r->Afg f l.Out r q)/\(¬ (Acc f l.Out/\TR f r)->q=(0,0,false)):=by
 have hlen:=hf.len';refine(AaP hf hl).bind λe he=>.bne (λh=>.pure ⟨λh'=>(h (he.2.2 h'.1)).elim,λ_=>rfl⟩) λh=>?_
 have ha:=he.2.1 h;refine(Agb hf r).bind λe he=>.bne (λh=>.pure ⟨λh'=>(h (he.2.2 h'.2)).elim,λ_=>rfl⟩) λh=>?_
 have hr:=he.2.1 h;refine Hs.mono (P:=Afg f l.Out r) ?_ λq hq=>⟨λ_=>hq,λh'=>(h' ⟨ha,hr⟩).elim⟩
 refine Hs.loop (λi=>∃ k:Nat,i=(k:Int)/\k<=f.Code.length/\∀ j<k,AaL f l.Out r j=none) (λi=>f.Code.length-i.toNat) ⟨0,rfl,aAD _,λj hj=>absurd hj (aAH _)⟩ ?_
 rintro _ ⟨k,rfl,hk,hall⟩;refine .dec (λhlt=>?_) λhge=>.lft (.pure (Or.inr ⟨λj hj=>hall j (by omega),rfl⟩))
 have hlt:k<f.Code.length:=by omega
 refine(ArO hf hd ha.1 hr hlt).bind λq hq=>?_
 subst hq;cases hlk:AaL f l.Out r k with
 | some y=>exact .lft (.pure (Or.inl ⟨k,y,hlt,hlk,hall,rfl⟩))
 | none =>
  simp only[AqD,cond_false];rw[OZ (by omega)]
  refine .cnt ⟨⟨k+1,rfl,hlt,λj hj=>?_⟩,by grind⟩
  grind
theorem AsO (hf:Pz f) (hd:Rq f) {l:Pj} (hl:Abf l.Out) (r:Pk) :
  Hs (Agg f l r) λe=>(¬ Acc f l.Out/\e=11)\/(Acc f l.Out/\(¬ TR f r\/∃ k y,k<f.Code.length/\AbH f l.Out r k y)/\e=12)\/(Acc f l.Out/\TR f r/\(∀ k y,k<f.Code.length->¬ AbH f l.Out r k y)/\e=0):=by
 refine(AaP hf hl).bind λe he=>.bne (λh=>.pure (.inl ⟨λh'=>h (he.2.2 h'),he.1.resolve_left h⟩)) λh=>?_
 have ha:=he.2.1 h;refine(ArM hf hd hl r).bind λq hq=>.cond (λh=>.pure (.inr (.inl ⟨ha,?_,rfl⟩))) λh=>(Agb hf r).bind λe he=>.bne (λh=>.pure (.inr (.inl ⟨ha,.inl λh'=>h (he.2.2 h'),rfl⟩))) λh'=>.pure (.inr (.inr ⟨ha,he.2.1 h',λk y hk hy=>?_,rfl⟩))
 ·by_cases hr:TR f r
  ·exact .inr ((hq.1 ⟨ha,hr⟩).found.1 h)
  simp_all
 ·rw[(hq.1 ⟨ha,he.2.1 h'⟩).found.2 ⟨k,y,hk,hy⟩]at h;cases h
theorem Aea.ArH (hf:Pz f) (hd:Rq f) (hml:Ya f) (hr:TR f r) {q:Le} (hx:Aea f r (q,0)):Ya q:=by
 obtain⟨_,_,used,to,pl,hu,hsx,hn,hpl,hcode⟩:=hx;have hsx:Yb f r used q.Slots:=hsx;have hcode:q.Code=Uj f r.Keep to pl f.Code.length:=hcode;have hrl:=hr.1.1;have hsl:=hf.slots;intro y hy hop;rw[hcode]at hy;obtain⟨pn,hp⟩:=aAF hy;obtain⟨j,hj,hk,_,rfl⟩:=(AaN (f:=f) (keep:=r.Keep) (to:=to) (pl:=pl) _ (by rw[hr.2.1];omega)).2 pn y hp
 have hm:=(hf.at (j:=(j:Int)) (by omega) (by omega)).2
 rw[ArG,AgH]at hop;obtain⟨a0,a1,b0,b1,hsz⟩:=hml _ hm hop;have one:∀ s:Int,s∈PR (OU f (j:Nat))->0<=rnS to s/\rnS to s<q.Slots.length/\Rg q (rnS to s)=Rg f s:=λs hs=>by
  obtain⟨h0,h1⟩:=Ams hf hd hm hs;have hrn:=AdS hf hd hr.1 hm (rnS r.To s) ((Ail _ _ _).2 ⟨s,hs,rfl⟩);have hmu:rnS r.To s∈used:=(hu.2 _).2 ⟨⟨hrn.1,by omega⟩,j,hj,hk,(Ail _ _ _).2 ⟨s,hs,rfl⟩⟩
  rw[(hr.1.rng h0 h1).2.2]at hmu;have hg:=Qn (to:=to) (s:=s) h0 (by have:=hn.1;omega)
  have e:rnS to s=Pf to s:=by unfold rnS;grind
  have hn2:=hn.2 s.toNat _ hg;rw[aAM h0]at hn2;obtain⟨q0,q1⟩:=hn2 hmu;rw[e];have hlt:=(aAE.1 q1).1;have hql:(Pf to s).toNat<q.Slots.length:=by rw[hsx.len];exact hlt
  have hqs:q.Slots[(Pf to s).toNat]? =some q.Slots[(Pf to s).toNat]:=aAA _;obtain⟨x,l,x1,x2,_,_⟩:=hsx.at_ _ _ _ q1 hqs;refine⟨q0,by omega,?_⟩
  have hsz2:=(hr.1.2 s.toNat (by omega)).2.2.1
  grind [Rg]
 have eA:(mvI pl (rnI to (OU f (j:Nat)))).A=rnS to (OU f (j:Nat)).A:=by
  simp_all[mvI,rnI]
 have eB:(mvI pl (rnI to (OU f (j:Nat)))).B=rnS to (OU f (j:Nat)).B:=by
  simp_all[mvI,rnI]
 simp_all[PR,Qy]
theorem AgB (codes:List Int) (hc:qL (Ss .u8) codes):Hs (Sd codes) λb=>b=true:=by
 unfold Sd;rw[AwF];obtain⟨c,e1,hcok⟩:=Aye codes 300 hc (by omega) (by omega)
 rw[e1,aA];refine(Aug hcok (by omega) (by omega) (by omega) (by omega)).bind λp hp=>?_
 obtain⟨pl,_⟩:=hp.2.Ayu (by omega)
 have p1:=hp.2.one;refine(Qa hp.1 (by omega) (by omega)).bind λk hk=>?_
 have hix:ixO p.1.Funcs k.1=some (p.1.Funcs[k.1.toNat]'(by omega)):=by
  grind [Qt]
 generalize(p.1.Funcs[k.1.toNat]'(by omega))=f at hix
 have hO:=hp.2.opt (by omega) hix
 have hf:=hO.XE;obtain⟨x,al,q,off,x1,_,hx⟩:=Amx hO;have hacc:=hx.live.acc hf;have hacc2:=hx.after.acc hx.XE;rw[x1,aA,hix,aA,hx.hal,aA];refine(AaP hf (hacc.1.len hf)).bind λe he=>.bne (λh=>(h (he.2.2 hacc)).elim) λ_=>?_
 refine(AsO hf hO.defs (hacc.1.len hf) x.Rename).bind λe he=>?_
 have he0:e=0:=by
  rcases he with⟨h,_⟩|⟨_,h,_⟩|⟨_,_,_,h⟩
  ·simp_all
  ·rcases h with h|⟨m,y,hm,h1,h2,h3,h4,h5⟩
   ·exact(h hx.rw_).elim
   ·obtain⟨g,hg,hto,_⟩:=hx.cls;have hxx:=hf.at (j:=(m:Int)) (by omega) (by omega)
    have hrow:=hacc.1.at (j:=(m:Int)) (by omega) (by omega)
    have hA:=hO.defs _ hxx.2 h1;have hy0:=(hrow.2.1.2 y h3).1;have hyn:=hrow.2.2 y h3;have htl:=hto.ok.1;have hkp:=hx.keep m hm
    by_cases hdk:TX f x.Live.Out m
    ·have hkf:¬ Pv x.Rename.Keep m=true:=λh=>(hkp.1 h).1 hdk
     have hyA:y=(OU f m).A:=aAk λh=>hkf (h4.2 h)
     exact(hdk.2 (hyA▸h3)).elim
    ·have hyA:=h4.1 (hkp.2 ⟨hdk,h2⟩);have hed:Ed QO f x.Live.Out (OU f m).A y:=by
      refine⟨m,hm,rfl,h1,λh=>h2 ⟨h.1,by rw[h.2]⟩,h3,hyA,?_⟩
      by_cases e17:(OU f m).Op=17
      ·have:(OU f m).B≠y:=λh=>h2 ⟨e17,by rw[h,h5]⟩
       grind [QO]
      grind [QO]
     obtain⟨a,ha⟩:∃ a:Nat,(OU f m).A=(a:Int):=⟨(OU f m).A.toNat,by omega⟩
     obtain⟨b,rfl⟩:∃ b:Nat,y=(b:Int):=⟨y.toNat,by omega⟩
     have hgl:=hg.1;have hgr:g[a]? =some (g[a]'(by omega)):=aAA _
     refine(hto.apart a b _ (by omega) (by omega) (by simp_all) hgr (((hg.2 a _ hgr).2 _).2 (.inl ?_))).elim
     simp_all
  ·exact h
 subst he0;unfold SK;rw[hx.ref,aA,ArW _ _ (by omega) hk.2.1 hk.2.2,aA]
 refine(AaP hx.XE (hacc2.1.len hx.XE)).bind λe he=>.bne (λh=>(h (he.2.2 hacc2)).elim) λ_=>?_
 unfold SL;have hset:ixO (⟨p.1.Funcs.set k.1.toNat q⟩:Ph).Funcs k.1=some q:=by
  grind [Qt]
 have hsl:Uc q.Slots:=⟨by have:=hO.sl;have:=hx.slots;omega,λx h=>(hx.slot x h).al⟩
 have hL:Ako ⟨p.1.Funcs.set k.1.toNat q⟩ k.1 q al:=⟨hset,hx.arg,hsl,hx.al.1,hx.al.2.1,hx.al.2.2,hx.XE,hx.defs,hx.app.ArH hf hO.defs hO.ml hx.rw_⟩;rw[ArN hset hx.XE.len' hx.arg hsl hx.al.1 hx.al.2.2,aA];obtain⟨s,hs,ha⟩:=hx.strict;have hk4:=YO hO.arg (aAI f.Code.length)
 obtain⟨r,e,_,al',ap,ac⟩:=ApN hsl hx.slot hs.graph (λrow hrow=>by
  obtain⟨j,hj⟩:=aAF hrow
  exact(hs.2 j row hj).1.1.length_le) (frm:=16*QN p.1 f f.Code.length) (by omega)
 rw[ha]at e;cases e;replace ap:∀ y:Nat,y<q.Slots.length->Plc q.Slots (16*QN p.1 f f.Code.length) (16*QN p.1 f f.Code.length+80*q.Slots.length) off y:=ap;rw[<- hx.args]at ap;have hbnd:∀ y:Nat,y<q.Slots.length->0<=oN off y/\0<=szN q.Slots y/\oN off y+szN q.Slots y<=1000:=λy hy=>by
  obtain⟨p1,p2,_⟩:=ap y hy;have hsy:q.Slots[y]? =some q.Slots[y]:=aAA _;obtain⟨_,_,b3,b4⟩:=hsl.2 _ (aAC hy);rw[<- (SR hsy).1]at b3 b4;have:=hsl.1;rw[hx.args]at p1 p2;omega
 have efn:=Atk (p:=⟨p.1.Funcs.set k.1.toNat q⟩) (B:=1000) hset hx.XE.len' hx.arg (by have:=hsl.1;omega) hx.al.1 al' (by omega) hbnd
 obtain⟨y,ey,y0,yo,ys⟩:=AuC hL al' ap;rw[efn]at ey;cases ey;rw[<- hx.lay]at yo ys;have no:∀ (j:Nat) (t:Int),j<q.Code.length->¬ WH q x.LiveAfter.Out x.Layout j t:=by
  rintro j t hj ⟨hdef,hnm,hm,hne,ho⟩;have hxx:=hx.XE.at (j:=(j:Int)) (by omega) (by omega)
  have hrow:=hacc2.1.at (j:=(j:Int)) (by omega) (by omega)
  have hA:=hx.defs _ hxx.2 hdef;have s0:=(hrow.2.1.2 t hm).1;have s1:=hrow.2.2 t hm;have hed:Ed QY q x.LiveAfter.Out (OU q j).A t:=⟨j,hj,rfl,hdef,λh=>hnm ⟨h.1,by rw[h.2]⟩,hm,hne,rfl⟩
  obtain⟨A,hAe⟩:∃ A:Nat,(OU q j).A=(A:Int):=⟨(OU q j).A.toNat,by omega⟩
  obtain⟨t,rfl⟩:∃ n:Nat,t=(n:Int):=⟨t.toNat,by omega⟩
  rw[hAe]at hed hA hne ho;have hgA:s[A]? =some (s[A]'(by have:=hs.1;omega)):=aAA _
  have hmem:(t:Int)∈rowAt s (A:Int):=by
   unfold rowAt;rw[aAB,hgA];exact((hs.2 A _ hgA).2 _).2 (.inl hed)
  refine ac A t (by omega) (by omega) (λh=>hne (by rw[h])) hmem ?_
  have:=ho.symm;unfold Ahx at this;rw[yo]at this;exact this
 refine(AsH hL x.Layout (hacc2.1.len hx.XE)).bind λe he=>.pure ?_
 by_cases hle:x.Layout.Size<=(AmS ⟨p.1.Funcs.set k.1.toNat q⟩ q al).Size
 ·have hsh:=ys.2 hle;rcases he with⟨h1,_⟩|⟨_,h1,_⟩|⟨_,_,⟨j,t,hj,h1⟩,_⟩|⟨_,_,_,rfl⟩
  all_goals simp_all
 ·have hns:¬ Wv ⟨p.1.Funcs.set k.1.toNat q⟩ q al x.Layout:=λh=>hle (ys.1 h)
  rcases he with⟨_,rfl⟩|⟨h1,_⟩|⟨h1,_⟩|⟨h1,_⟩
  all_goals simp_all
theorem AeY (codes:List Int) (hc:qL (Ss .u8) codes):Sd codes=some true:=by
 obtain⟨r,h,rfl⟩:=AgB codes hc;exact h
end Go.Proofs.YtilmapojncgflaaGreatDoor
