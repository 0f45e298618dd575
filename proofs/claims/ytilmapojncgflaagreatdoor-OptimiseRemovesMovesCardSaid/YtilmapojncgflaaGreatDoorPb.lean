/-
  Plain laws about the typed programs.
-/
import Derived.Test.YtilmapojncgflaaGreatDoorPa
import Derived.Test.YtilmapojncgflaaGreatDoorDxP
open BitVec renaming ofInt->aAX,toNat_ofInt->aAq,toNat_and->aAv
open Bool renaming not_true->aAR,cond_eq_ite->aAj,not_false->aBE
open Classical renaming choose_spec->aBC,choose->aBJ
open Int renaming toNat_natCast->aAB,tmod_eq_emod_of_nonneg->aAO,toNat_of_nonneg->aAQ,mul_le_mul_of_nonneg_left->aAU,dvd_of_emod_eq_zero->aAZ,emod_add_mul_ediv->aAe,emod_lt_of_pos->aAh,lt_or_le->aAi,emod_nonneg->aAm,mul_emod_right->aAp,lt_of_mul_lt_mul_left->aAs,emod_def->aAt,mul_add->aB
open Go.IntKind renaming signed->aBF,bits->aBG,min->aBH,max->aBI
open List renaming getElem?_eq_getElem->aAA,getElem?_eq_some_iff->aAC,getElem_mem->aAE,mem_of_getElem?->aAF,take_length->aAG,getElem?_of_mem->aAH,replicate->aAI,mem_singleton->aAM,take_succ_eq_append_getElem->aAN,mem_append->aAP,foldl_append->aAS,pairwise_iff_getElem->aAT,take_add_one->aAV,range->aAW,getElem?_set_ne->aAY,mem_cons->aAa,getElem?_set_self->aAc,getElem?_eq_none->aAd,drop_eq_getElem_cons->aAg,take_append_drop->aAk,length_replicate->aAl,mem_append_left->aAn,nil_append->aAo,ext_getElem?->aAr,not_mem_nil->aAu,getElem?_replicate->aAw,pairwise_singleton->aAx,range_succ->aAy,append_nil->aAz,set_append_right->aBA,mem_iff_getElem?->aBB,length_singleton->aBD
open Nat renaming zero_le->aAD,pow_le_pow_right->aAJ,not_lt_zero->aAK,le_refl->aAL,two_pow_pos->aAb,and_sub_one_eq_zero_iff_isPowerOfTwo->aAf
open Option renaming bind_some->aA
namespace Go.Proofs.YtilmapojncgflaaGreatDoor
open Go Go.Dw Go.Proofs
attribute [local simp] PK aAj
variable {k x6:Nat} {g:List (List Int)} {to u:List Int} {p:Pn} {s:List Pa} {l:List OY} {a frm size:Int} {f:Lo}
theorem Aoj (out:List Pn) (x:OX) (hk:k<1000000) (h:out.length<=1000000) (old:Bool):Xl out x k old=some (.inl (if old=true\/(⟨x.A,x.B⟩:Pn)∈out then out else out++[⟨x.A,x.B⟩],((k+1:Nat):Int))):=by
 unfold Xl;have wk:=OZ (show k<9223372036854775807 by omega)
 have:=QT (body:=λs:Bool×Int=>TK out x k s.1 s.2) out (λ(old:Bool) i=>(old,i)) (λ_ _=>True) (λold l=>some (.inl (if old=true\/(⟨x.A,x.B⟩:Pn)∈l then out else out++[⟨x.A,x.B⟩],((k+1:Nat):Int))))
  (λold _=>by
   cases old
   ·exact⟨_,by simp[TK,Xk,wk,show out.length<=16777215 by omega];rfl,by simp⟩
   ·exact⟨_,by simp[TK,Xk,wk];rfl,by simp⟩) (λold i y r _ hd hi hx=>by
   have w:=OZ (show i<9223372036854775807 by omega)
   obtain⟨_,rfl⟩:=aAC.1 hx;left;cases old
   ·by_cases e:out[i]=⟨x.A,x.B⟩
    ·refine⟨true,trivial,?_,?_⟩
     ·simp[TK,hi,e,w]
     ·simp[e]
    ·refine⟨false,trivial,?_,?_⟩
     ·have hne:(out[i].a0==x.A&&out[i].a1==x.B)=false:=by
       generalize out[i]=y at e;cases y;simpa using e
      simp[TK,hi,hne,w]
     ·have:¬ (⟨x.A,x.B⟩:Pn)=out[i]:=λh=>e h.symm
      simp[this]
   ·exact⟨true,trivial,by simp[TK,hi,w],by simp⟩) old trivial
 exact this
theorem Ajt (f:Lo) (h:f.Code.length<=1000000):Aar f=some (SD f.Code []):=by
 unfold Aar;have:=QT (body:=λs:List Pn×Int=>SU f s.1 s.2) f.Code (λ(out:List Pn) i=>(out,i)) (λout i=>out.length<=i) (λout l=>some (SD l out))
  (λout _=>⟨out,by simp[SU],by simp[SD]⟩) (λout i x r ho hd hi hx=>by
   obtain⟨_,rfl⟩:=aAC.1 hx;left
   by_cases h17:f.Code[i].Op=17
   ·have hj:=Aoj out f.Code[i] (show i<1000000 by omega) (by omega) (f.Code[i].A==f.Code[i].B)
    by_cases hab:f.Code[i].A=f.Code[i].B
    ·have hj:=Aoj out f.Code[i] (show i<1000000 by omega) (by omega) true
     exact⟨out,by omega,by simp[SU,hi,h17,hj,hab],by simp[SD,h17,hab]⟩
    ·by_cases hm:(⟨f.Code[i].A,f.Code[i].B⟩:Pn)∈out
     ·exact⟨out,by omega,by simp[SU,hi,h17,hj,hab,hm],by simp[SD,h17,hab,hm]⟩
     ·exact⟨out++[⟨f.Code[i].A,f.Code[i].B⟩],by simp;omega,by simp[SU,hi,h17,hj,hab,hm],by simp[SD,h17,hab,hm]⟩
   ·have hj:=Aoj out f.Code[i] (show i<1000000 by omega) (by omega) true
    exact⟨out,by omega,by simp[SU,hi,h17,hj],by simp[SD,h17]⟩) [] (by simp)
 simpa using this
open Classical in
noncomputable def RW (g:List (List Int)) (to:List Int) (p:Pn):List Int :=
 if Pc to p.a0=Pc to p.a1 then to else if Sf g to (Pc to p.a0) (Pc to p.a1)then VQ to (Pc to p.a0) (Pc to p.a1)else to
noncomputable def AnG (n:Nat) (g:List (List Int)) (mv:List Pn):List Int:=mv.foldl (RW g) ((aAW n).map λi:Nat=>(i:Int))
theorem Amr (to:List Int) (a b:Int):(VQ to a b).length=to.length:=by grind [VQ]
theorem Arv (g:List (List Int)) (to:List Int) (p:Pn):(RW g to p).length=to.length:=by
 grind [RW,Amr]
theorem AkW (h:Pc to p.a0=Pc to p.a1):RW g to p=to:=by simp_all[RW]
theorem AkV (h:Pc to p.a0≠Pc to p.a1) (hA:Sf g to (Pc to p.a0) (Pc to p.a1)):RW g to p=VQ to (Pc to p.a0) (Pc to p.a1):=by simp_all[RW]
theorem Aot (hA:¬ Sf g to (Pc to p.a0) (Pc to p.a1)):RW g to p=to:=by simp_all[RW]
section
variable {n:Nat} {g:List (List Int)} {Q:Nat->Int->Prop} {to:List Int}
theorem Asw (to:List Int) (s:Nat):Pc to (s:Int)=(to[s]?).getD 0:=by simp[Pc]
def Wz (to:List Int) (s:Int) (k:Nat) (l:List Int):Prop:=∀ t,t∈l↔∃ j:Nat,j<k/\t=(j:Int)/\Pc to j=s
theorem Wz.zero (to:List Int) (s:Int):Wz to s 0 []:=λt=>⟨λh=>(by cases h),λ⟨j,h,_⟩=>absurd h (aAK _)⟩
theorem Wz.yes {s:Int} {l:List Int} (h:Wz to s k l) (e:Pc to k=s):Wz to s (k+1) (l++[(k:Int)]):=λt=>by
 rw[aAP,h t,aAM]
 grind
theorem Wz.no {s:Int} {l:List Int} (h:Wz to s k l) (e:Pc to k≠s):Wz to s (k+1) l:=λt=>by
 rw[h t]
 grind
theorem AjY (hg:PR n g Q) (htn:to.length=n) {b:Int} {xs ys:List Int} (hx:Wz to a to.length xs) (hy:Wz to b to.length ys):Sf g to a b↔∀ x∈xs,∀ row,g[x.toNat]? =some row->∀ y∈ys,y∉row:=by
 constructor
 ·intro h x hxm row hr y hym;obtain⟨i,i1,rfl,i3⟩:=(hx x).1 hxm;obtain⟨j,j1,rfl,j3⟩:=(hy y).1 hym;exact h i j row i1 j1 i3 j3 hr
 ·intro h x y row h1 h2 h3 h4 h5;exact h x ((hx x).2 ⟨x,h1,rfl,h3⟩) row (by simp_all) y ((hy y).2 ⟨y,h2,rfl,h4⟩)
structure Whole (n:Nat) (to:List Int):Prop where
 len:to.length=n
 at_:∀ s:Nat,s<n->0<=Pc to s/\Pc to s<=s/\Pc to (Pc to s)=Pc to s
theorem AoB (h:RH u to):Whole u.length to:=by
 refine⟨h.len.symm,λs hs=>?_⟩
 obtain⟨x,y,e1,e2,g1,g2,g3,g4,g5,g6,g7⟩:=h.get hs
 grind [Asw]
theorem Adl (hR:RH u to) {s:Int} (h0:0<=s) (h1:s<to.length):∃ u',Vl u s=some (u',Pc to s)/\RH u' to:=AqF hR h0 (Qn h0 h1)
theorem Apo {u5:List Int} (hR:RH u to) (hn:to.length<=500) (h5:u5.length=to.length) {b:Int} (ha0:0<=a) (ha1:a<to.length) (haa:Pc to a=a) (hb0:0<=b) (hb1:b<to.length) (hbb:Pc to b=b) (hne:a≠b) (hx6:x6<1000000) {r8 r9:List Int×Int} (e8:r8.2=a) (e9:r9.2=b) (q:Bool) :
  Hs (Sz u5 r8 r9 (x6:Int) u q) λz=>∃ u',z= .inl (u',((x6+1:Nat):Int))/\RH u' (if q=true then VQ to a b else to):=by
 have hul:=hR.len;refine .chk (by omega) ?_
 rw[OZ (by omega),e8,e9]
 cases q with
 | false=>exact .pure ⟨u,rfl,by simp_all⟩
 | true =>
  simp only[cond_true,if_true];obtain⟨u1,f1,R1⟩:=Adl hR ha0 ha1;obtain⟨u2,f2,R2⟩:=Adl R1 hb0 hb1;have l1:=R1.len;have l2:=R2.len;refine .chk (by omega) ?_
  rw[f1,aA];refine .chk (by grind) ?_
  rw[f2,aA,haa,hbb];obtain⟨an,rfl⟩:∃ k:Nat,a=(k:Int):=⟨a.toNat,by omega⟩
  obtain⟨bn,rfl⟩:∃ k:Nat,b=(k:Int):=⟨b.toNat,by omega⟩
  have em:PF (an:Int) (bn:Int)=((max an bn:Nat):Int):=by grind [PF]
  have ei:SO (an:Int) (bn:Int)=((min an bn:Nat):Int):=by grind [SO]
  rw[em,ei];refine .chk (by grind) ?_
  simp only[aAB];rw[aAA (by omega),aA]
  refine .pure ⟨_,rfl,R2.join ?_ ?_ (by omega)⟩
  all_goals grind [Qn,aAB]
theorem AtI (hg:PR n g Q) (htn:to.length=n) {u5:List Int} (hR:RH u to) (hn:to.length<=500) (h5:u5.length=to.length) {b:Int} (ha0:0<=a) (ha1:a<to.length) (haa:Pc to a=a) (hb0:0<=b) (hb1:b<to.length) (hbb:Pc to b=b) (hne:a≠b) (hx6:x6<1000000) {r8 r9:List Int×Int} (e8:r8.2=a) (e9:r9.2=b) {xs ys:List Int} (hx:Wz to a to.length xs) (hxl:xs.length<=to.length) (hy:Wz to b to.length ys) {m:List (Int×Bool)} (hm:∀ y,Qz false y m=decide (y∈ys)) :
  Hs (Pe (λs=>Vk xs g m u5 r8 r9 (x6:Int) u s) 0) λz=>∃ u',z= .inl (u',((x6+1:Nat):Int))/\((Sf g to a b->RH u' (VQ to a b))/\(¬ Sf g to a b->RH u' to)):=by
 have hgl:=hg.1;have hap:=AjY hg htn hx hy;have no:¬ Sf g to a b->Hs (Sz u5 r8 r9 (x6:Int) u false) λz=>∃ u',z= .inl (u',((x6+1:Nat):Int))/\((Sf g to a b->RH u' (VQ to a b))/\(¬ Sf g to a b->RH u' to)):=λhna=>(Apo hR hn h5 ha0 ha1 haa hb0 hb1 hbb hne hx6 e8 e9 false).mono λz ⟨u',h1,h2⟩=>⟨u',h1,λh=>(hna h).elim,λ_=>by simp_all⟩
 refine Hs.loop (λi=>∃ k:Nat,i=(k:Int)/\k<=xs.length/\∀ x∈xs.take k,∀ row,g[x.toNat]? =some row->∀ y∈ys,y∉row) (λi=>xs.length-i.toNat) ⟨0,rfl,aAD _,λx h=>by simp at h⟩ ?_
 rintro _ ⟨k,rfl,hk,hall⟩;refine .dec (λhlt=>?_) λhge=>.lft ?_
 ·have hlt:k<xs.length:=by omega
  have hgx:xs[k]? =some xs[k]:=aAA _;have hxm:=aAE hlt;have htk:xs.take (k+1)=xs.take k++[xs[k]]:=by simp_all
  generalize xs[k]=x at hgx hxm htk;obtain⟨jx,hjx,rfl,hja⟩:=(hx x).1 hxm;have hrow:g[jx]? =some (g[jx]'(by omega)):=aAA _
  generalize g[jx]'(by omega)=row at hrow
  have hrl:=(hg.2 jx row hrow).1.1.length_le;refine .chk (by omega) ?_
  rw[aAB,hgx,aA,Pp,hrow,aA];refine Hs.loop (λi=>∃ m:Nat,i=(m:Int)/\m<=row.length/\∀ y∈row.take m,y∉ys) (λi=>row.length-i.toNat) ⟨0,rfl,aAD _,λx h=>by simp at h⟩ ?_
  rintro _ ⟨p,rfl,hp,hno⟩;refine .dec (λhlt2=>?_) λhge2=>.lft ?_
  ·have hlt2:p<row.length:=by omega
   have hgy:row[p]? =some row[p]:=aAA _;have htm:row.take (p+1)=row.take p++[row[p]]:=by grind [aAV]
   have hym:=aAE hlt2;generalize row[p]=y at hgy htm hym;rw[Pp,hgy,aA,hm,OZ (by omega)]
   refine .dec (λh=>.lft ?_) λh=>.cnt ⟨⟨p+1,rfl,hlt2,λz hz=>?_⟩,by grind⟩
   ·unfold SA;rw[decide_eq_true (by omega),cond_true]
    refine .lft (no λhA=>?_)
    grind
   grind
  ·have hpp:p=row.length:=by omega
   subst hpp;rw[aAG]at hno;unfold SA;rw[decide_eq_false (by omega),cond_false,OZ (by omega)]
   refine .cnt ⟨⟨k+1,rfl,hlt,λz hz row' hr y hy' hyr=>?_⟩,by simp only;omega⟩
   rw[htk]at hz;rcases aAP.1 hz with hz|hz
   ·exact hall z hz row' hr y hy' hyr
   ·rw[aAM.1 hz,aAB,hrow]at hr;cases hr;exact hno y hyr hy'
 ·have hkk:k=xs.length:=by omega
  subst hkk;rw[aAG]at hall;have hA:Sf g to a b:=hap.2 hall;exact(Apo hR hn h5 ha0 ha1 haa hb0 hb1 hbb hne hx6 e8 e9 true).mono λz ⟨u',h1,h2⟩=>⟨u',h1,λ_=>by simp_all,λh=>(h hA).elim⟩
theorem ArN (hg:PR n g Q) (htn:to.length=n) {u5:List Int} (hR:RH u to) (hn:to.length<=500) (h5:u5.length=to.length) {b:Int} (ha0:0<=a) (ha1:a<to.length) (haa:Pc to a=a) (hb0:0<=b) (hb1:b<to.length) (hbb:Pc to b=b) (hne:a≠b) (hx6:x6<1000000) {r8 r9:List Int×Int} (e8:r8.2=a) (e9:r9.2=b) :
  Hs (Pe (λs=>UA u5 r9 r8 g (x6:Int) s.1 s.2.1 s.2.2) (u,([]:List Int),0)) λz=>∃ u',z= .inl (u',((x6+1:Nat):Int))/\((Sf g to a b->RH u' (VQ to a b))/\(¬ Sf g to a b->RH u' to)):=by
 refine Hs.loop (λs=>∃ k:Nat,s.2.2=(k:Int)/\k<=to.length/\RH s.1 to/\s.2.1.length<=k/\Wz to b k s.2.1) (λs=>to.length-s.2.2.toNat) ⟨0,rfl,aAD _,hR,aAL _,Wz.zero to b⟩ ?_
 rintro⟨u1,ys,_⟩ ⟨k,rfl,hk,R1,hyl,hy⟩;replace R1:RH u1 to:=R1;replace hyl:ys.length<=k:=hyl;have l1:=R1.len;refine .dec (λhlt=>?_) λhge=>.lft ?_
 ·have hlt:k<to.length:=by simp_all
  obtain⟨u2,f2,R2⟩:=Adl R1 (s:=(k:Int)) (by omega) (by omega)
  refine .chk (by grind) ?_
  simp only[f2,aA,e9,OZ (show k<9223372036854775807 by omega)]
  refine .beq (λh=>.chk (by simp;omega) (.cnt ⟨⟨k+1,rfl,hlt,R2,by simp;omega,hy.yes h⟩,by grind⟩)) λh=>.cnt ⟨⟨k+1,rfl,hlt,R2,by grind,hy.no h⟩,by grind⟩
 have hkk:k=to.length:=by grind
 subst hkk;refine .chk (by simp_all) ?_
 refine Hs.loop (λs=>∃ i:Nat,s.2=(i:Int)/\i<=ys.length/\∀ y,Qz false y s.1=decide (y∈ys.take i)) (λs=>ys.length-s.2.toNat) ⟨0,rfl,aAD _,λy=>by simp[Qz]⟩ ?_
 rintro⟨m,_⟩ ⟨i,rfl,hi,hm⟩;refine .dec (λhlt=>?_) λhge=>.lft ?_
 ·have hlt:i<ys.length:=by simp_all
  have hgy:ys[i]? =some ys[i]:=aAA _;have htm:ys.take (i+1)=ys.take i++[ys[i]]:=by simp_all
  generalize ys[i]=x at hgy htm;refine .chk (by omega) ?_
  simp only[aAB,hgy,aA];rw[OZ (by omega)]
  refine .cnt ⟨⟨i+1,rfl,hlt,λy=>?_⟩,by grind⟩
  show Qz false y (RN x true m)=_;rw[AhP,hm,htm]
  grind
 have hii:i=ys.length:=by grind
 subst hii;rw[aAG]at hm;refine Hs.loop (λs=>∃ k:Nat,s.2.2=(k:Int)/\k<=to.length/\RH s.1 to/\s.2.1.length<=k/\Wz to a k s.2.1) (λs=>to.length-s.2.2.toNat) ⟨0,rfl,aAD _,R1,aAL _,Wz.zero to a⟩ ?_
 rintro⟨u3,xs,_⟩ ⟨k,rfl,hk,R3,hxl,hx⟩;replace R3:RH u3 to:=R3;replace hxl:xs.length<=k:=hxl;have l3:=R3.len;refine .dec (λhlt=>?_) λhge=>.lft ?_
 ·have hlt:k<to.length:=by simp_all
  obtain⟨u2,f2,R2⟩:=Adl R3 (s:=(k:Int)) (by omega) (by omega)
  refine .chk (by grind) ?_
  simp only[f2,aA,e8,OZ (show k<9223372036854775807 by omega)]
  refine .beq (λh=>.chk (by simp;omega) (.cnt ⟨⟨k+1,rfl,hlt,R2,by simp;omega,hx.yes h⟩,by grind⟩)) λh=>.cnt ⟨⟨k+1,rfl,hlt,R2,by grind,hx.no h⟩,by grind⟩
 have hkk:k=to.length:=by grind
 subst hkk;exact AtI hg htn R3 hn h5 ha0 ha1 haa hb0 hb1 hbb hne hx6 e8 e9 hx hxl hy hm
theorem AoU (hf:Ps f) (hml:AbK f) (hg:PR f.Slots.length g Q):Hs (UZ f g) λto=>to=AnG f.Slots.length g (SD f.Code []):=by
 have hlen:=hf.len';have hsl:=hf.slots;obtain⟨mv,hmv0,hmvl,hmv⟩:=Ami hlen;rw[Ajt f (by omega)]at hmv0
 cases hmv0;refine Hs.bind (P:=λu=>u=(aAW f.Slots.length).map λi:Nat=>(i:Int)) ?_ λu hu=>?_
 ·refine .chk (by omega) ?_
  refine Hs.loop (λs=>∃ k:Nat,s.2=(k:Int)/\k<=f.Slots.length/\s.1.length=f.Slots.length/\∀ j:Nat,j<k->s.1[j]? =some (j:Int)) (λs=>f.Slots.length-s.2.toNat) ⟨0,rfl,aAD _,by simp,λj hj=>absurd hj (aAK _)⟩ ?_
  rintro⟨u,_⟩ ⟨k,rfl,hk,hul,hu⟩;replace hul:u.length=f.Slots.length:=hul;refine .dec (λhlt=>?_) λhge=>.lft (.pure ?_)
  ·have hlt:k<f.Slots.length:=by simp_all
   refine .chk (by simp_all) ?_
   simp only[aAB];rw[aAA (by omega),aA,OZ (by omega)]
   refine .cnt ⟨⟨k+1,rfl,hlt,by simp[hul],λj hj=>?_⟩,by grind⟩
   grind
  ·have hkk:k=f.Slots.length:=by grind
   subst hkk;show u=_;refine aAr λj=>?_
   grind
 subst hu;rw[Ase f (by omega),aA]
 have hmvs:∀ p∈SD f.Code [],0<=p.a0/\p.a0<f.Slots.length/\0<=p.a1/\p.a1<f.Slots.length:=λp hp=>by
  obtain⟨x,hx,hop,rfl⟩:=hmv p hp;obtain⟨a0,a1,b0,b1,_⟩:=hml x hx hop;simp_all
 unfold AnG;generalize SD f.Code []=mv at hmvs hmvl;have hR0:=RH.Apn f.Slots.length;have hi0:((aAW f.Slots.length).map λi:Nat=>(i:Int)).length=f.Slots.length:=by simp
 generalize((aAW f.Slots.length).map λi:Nat=>(i:Int))=id0 at hR0 hi0
 have fl:∀ k,((mv.take k).foldl (RW g) id0).length=f.Slots.length:=by
  intro k;generalize mv.take k=l;clear hR0
  induction l generalizing id0<;>grind [Arv]
 refine Hs.loop (λs=>∃ k:Nat,s.2=(k:Int)/\k<=mv.length/\RH s.1 ((mv.take k).foldl (RW g) id0)) (λs=>mv.length-s.2.toNat) ⟨0,rfl,aAD _,hR0⟩ ?_
 rintro⟨u,_⟩ ⟨k,rfl,hk,hR⟩;replace hR:RH u ((mv.take k).foldl (RW g) id0):=hR;refine .dec (λhlt=>?_) λhge=>.lft ?_
 ·have hlt:k<mv.length:=by omega
  have hgp:mv[k]? =some mv[k]:=aAA _;have htk:mv.take (k+1)=mv.take k++[mv[k]]:=by simp_all
  have hpm:=hmvs _ (aAE hlt);generalize mv[k]=p at hgp htk hpm;have hfs:(mv.take (k+1)).foldl (RW g) id0=RW g ((mv.take k).foldl (RW g) id0) p:=by simp_all
  have hto:=fl k;generalize(mv.take k).foldl (RW g) id0=to at hR hfs hto;have hW:=AoB hR;have hul:=hR.len;obtain⟨a0,a1,b0,b1⟩:=hpm;refine .chk (by omega) ?_
  simp only[aAB,hgp,aA];obtain⟨u1,f1,R1⟩:=Adl hR a0 (by omega)
  obtain⟨u2,f2,R2⟩:=Adl R1 b0 (by omega)
  have l1:=R1.len;refine .chk (by omega) ?_
  rw[f1,aA];refine .chk (by grind) ?_
  rw[f2,aA];have nat:∀ {s:Int},0<=s->s<f.Slots.length->0<=Pc to s/\Pc to s<to.length/\Pc to (Pc to s)=Pc to s:=fun{s} h0 h1=>by
   obtain⟨j,rfl⟩:∃ j:Nat,s=(j:Int):=⟨s.toNat,by omega⟩
   obtain⟨w1,w2,w3⟩:=hW.at_ j (by omega)
   omega
  obtain⟨qa1,qa2,qa3⟩:=nat a0 a1;obtain⟨qb1,qb2,qb3⟩:=nat b0 b1;refine .bne (λhne=>?_) λhe=>?_
  ·refine(ArN (x6:=k) hg (by omega) R2 (by omega) (by omega) qa1 qa2 qa3 qb1 qb2 qb3 hne (by omega) rfl rfl).mono λz ⟨u',h1,h2,h3⟩=>?_
   subst h1;refine⟨⟨k+1,rfl,hlt,?_⟩,by grind⟩
   grind [Sf,AkV,Aot]
  ·rw[AkW he]at hfs;rw[OZ (by omega)]
   refine .cnt ⟨⟨k+1,rfl,hlt,?_⟩,by grind⟩
   simp_all
 ·have hkk:k=mv.length:=by omega
  subst hkk;have hto:=fl mv.length;rw[aAG]at hR hto;generalize mv.foldl (RW g) id0=to at hR hto;refine Hs.loop (λs=>∃ k:Nat,s.2.2=(k:Int)/\k<=to.length/\RH s.2.1 to/\s.1=to.take k) (λs=>to.length-s.2.2.toNat) ⟨0,rfl,aAD _,hR,rfl⟩ ?_
  rintro⟨_,u1,_⟩ ⟨k,rfl,hk,R1,rfl⟩;replace R1:RH u1 to:=R1;have l1:=R1.len;have hul:=hR.len;refine .dec (λhlt=>?_) λhge=>.lft (.pure ?_)
  ·have hlt:k<to.length:=by simp_all
   obtain⟨u2,f2,R2⟩:=Adl R1 (s:=(k:Int)) (by omega) (by omega)
   refine .chk (by grind) ?_
   simp only[f2,aA,OZ (show k<9223372036854775807 by omega)]
   refine .chk (by simp;omega) (.cnt ⟨⟨k+1,rfl,hlt,R2,?_⟩,by grind⟩)
   grind [Qn,aAB,aAV]
  ·have hkk:k=to.length:=by grind
   subst hkk;show to.take to.length=to
   grind
end
open Go Go.Dw Go.Proofs
section
variable {n:Nat} {g:List (List Int)} {Q:Nat->Int->Prop} {to:List Int}
theorem Are (hg:PR n g Q) (htn:to.length=n) (hl:n<=500) (a b:Int):Hs (AdH g to a b) λr=>(r=true↔Sf g to a b):=by
 unfold AdH;refine(AeX (by omega) a).bind λxs hx=>(AeX (by omega) b).bind λys hy=>?_
 have hxl:=hx.1;have hyl:=hy.1;have hap:=AjY hg htn (xs:=xs) (ys:=ys) hx.2 hy.2;refine Hs.loop (λi=>∃ k:Nat,i=(k:Int)/\k<=xs.length/\∀ x∈xs.take k,∀ row,g[x.toNat]? =some row->∀ y∈ys,y∉row) (λi=>xs.length-i.toNat) ⟨0,rfl,aAD _,λx h=>by simp at h⟩ ?_
 rintro _ ⟨k,rfl,hk,hall⟩;unfold Ahj;refine .dec (λhlt=>?_) λhge=>.lft (.pure ⟨λ_=>hap.2 ?_,λ_=>rfl⟩)
 rotate_left
 ·rw[List.take_of_length_le (by omega)]at hall;exact hall
 have hlt:k<xs.length:=by omega
 have hgx:xs[k]? =some xs[k]:=aAA _;have hxm:=aAE hlt;have htk:xs.take (k+1)=xs.take k++[xs[k]]:=by rw[aAV,hgx];rfl
 generalize xs[k]=x at hgx hxm htk;obtain⟨jx,hjx,rfl,_⟩:=(hx.2 x).1 hxm;have hgl:=hg.1;have hrow:g[jx]? =some (g[jx]'(by omega)):=aAA _
 generalize g[jx]'(by omega)=row at hrow
 have hset:=(hg.2 jx row hrow).1;have hrl:=hset.1.length_le;refine Hs.loop (λi=>∃ m:Nat,i=(m:Int)/\m<=ys.length/\∀ y∈ys.take m,y∉row) (λi=>ys.length-i.toNat) ⟨0,rfl,aAD _,λx h=>by simp at h⟩ ?_
 rintro _ ⟨m,rfl,hm,hno⟩;unfold Ahk;refine .dec (λhlt2=>?_) λhge2=>.lft ?_
 ·have hlt2:m<ys.length:=by omega
  have hgy:ys[m]? =some ys[m]:=aAA _;have hym:=aAE hlt2;have htm:ys.take (m+1)=ys.take m++[ys[m]]:=by rw[aAV,hgy];rfl
  generalize ys[m]=y at hgy htm hym;refine .chk (by omega) ?_
  simp only[aAB,hgx,aA,Pp,hrow];refine .chk (by omega) ?_
  rw[hgy,aA,XV _ _ (by omega),aA,OZ (by omega)]
  refine .dec (λh=>.lft (.lft (.pure ⟨λh=>(by cases h),λhA=>(hap.1 hA _ hxm row (by rw[aAB];exact hrow) y hym h).elim⟩))) λh=>.cnt ⟨⟨m+1,rfl,hlt2,λz hz=>?_⟩,by simp only;omega⟩
  rw[htm]at hz;rcases aAP.1 hz with hz|hz
  ·exact hno z hz
  ·rw[aAM.1 hz];exact h
 ·have hmm:m=ys.length:=by omega
  subst hmm;rw[aAG]at hno;unfold Adv;rw[OZ (by omega)]
  refine .cnt ⟨⟨k+1,rfl,hlt,λz hz row' hr y hy'=>?_⟩,by simp only;omega⟩
  rw[htk]at hz;rcases aAP.1 hz with hz|hz
  ·exact hall z hz row' hr y hy'
  ·rw[aAM.1 hz,aAB,hrow]at hr;cases hr;exact hno y hy'
theorem AkM (a b:Int):SO a b=min a b:=by unfold SO;split<;>omega
theorem Aki (hf:Ps f) (hml:AbK f) (hg:PR f.Slots.length g Q):Hs (Tw f g) λto=>to=AnG f.Slots.length g (SD f.Code []):=by
 have hlen:=hf.len';have hsl:=hf.slots;obtain⟨mv,hmv0,hmvl,hmv⟩:=Ami hlen;rw[Ajt f (by omega)]at hmv0
 cases hmv0;unfold Tw;refine Hs.loop (λs=>∃ k:Nat,s.2=(k:Int)/\k<=f.Slots.length/\s.1=(aAW k).map λi:Nat=>(i:Int)) (λs=>f.Slots.length-s.2.toNat) ⟨0,rfl,aAD _,rfl⟩ ?_
 rintro⟨_,_⟩ ⟨k,rfl,hk,rfl⟩;unfold AfF;refine .dec (λhlt=>?_) λhge=>.lft ?_
 ·have hlt:k<f.Slots.length:=by simp only at hlt;omega
  refine .chk (by simp;omega) ?_
  rw[OZ (by omega)]
  refine .cnt ⟨⟨k+1,rfl,hlt,?_⟩,by simp only;omega⟩
  show _++[(k:Int)]=_;rw[aAy,List.map_append];rfl
 have hkk:k=f.Slots.length:=by simp only at hge;omega
 subst hkk;have hmvs:∀ p∈SD f.Code [],0<=p.a0/\p.a0<f.Slots.length/\0<=p.a1/\p.a1<f.Slots.length:=λp hp=>by
  obtain⟨x,hx,hop,rfl⟩:=hmv p hp;obtain⟨a0,a1,b0,b1,_⟩:=hml x hx hop;exact⟨a0,a1,b0,b1⟩
 rw[Ajt f (by omega),aA]
 unfold AnG;generalize SD f.Code []=mv at hmvs hmvl;have hW0:Whole f.Slots.length ((aAW f.Slots.length).map λi:Nat=>(i:Int)):=by
  have:=AoB (RH.Apn f.Slots.length);simpa using this
 generalize((aAW f.Slots.length).map λi:Nat=>(i:Int))=id0 at hW0
 refine Hs.loop (λs=>∃ k:Nat,s.2=(k:Int)/\k<=mv.length/\s.1=(mv.take k).foldl (RW g) id0/\Whole f.Slots.length s.1) (λs=>mv.length-s.2.toNat) ⟨0,rfl,aAD _,rfl,hW0⟩ ?_
 rintro⟨to,_⟩ ⟨k,rfl,hk,hto,hW⟩;replace hto:to=(mv.take k).foldl (RW g) id0:=hto;replace hW:Whole f.Slots.length to:=hW;have htl:=hW.len;unfold Abc;refine .dec (λhlt=>?_) λhge=>.lft (.pure ?_)
 rotate_left
 ·have hkk:k=mv.length:=by simp only at hge;omega
  subst hkk;rw[aAG]at hto;exact hto
 have hlt:k<mv.length:=by simp only at hlt;omega
 have hgp:mv[k]? =some mv[k]:=aAA _;have htk:mv.take (k+1)=mv.take k++[mv[k]]:=by rw[aAV,hgp];rfl
 have hpm:=hmvs _ (aAE hlt);generalize mv[k]=p at hgp htk hpm;have hfs:(mv.take (k+1)).foldl (RW g) id0=RW g to p:=by rw[htk,aAS,<- hto];rfl
 obtain⟨a0,a1,b0,b1⟩:=hpm;have hA:=Qn (to:=to) (s:=p.a0) a0 (by omega)
 have hB:=Qn (to:=to) (s:=p.a1) b0 (by omega)
 simp only[aAB,hgp,aA,hA,hB];have skip:RW g to p=to->Hs (Ru (k:Int) to) (Rnd (λs:List Int×Int=>∃ k:Nat,s.2=(k:Int)/\k<=mv.length/\s.1=(mv.take k).foldl (RW g) id0/\Whole f.Slots.length s.1) (λs=>mv.length-s.2.toNat) (to,(k:Int)) λt=>t=mv.foldl (RW g) id0):=λh=>by
  unfold Ru;rw[OZ (by omega)]
  exact .cnt ⟨⟨k+1,rfl,hlt,by rw[hfs,h],hW⟩,by simp only;omega⟩
 refine .chk (by omega) (.chk (by omega) (.chk (by omega) (.chk (by omega) (.beq (λh=>skip (AkW h)) λhne=>?_))))
 refine(Are hg htl hsl (Pc to p.a0) (Pc to p.a1)).bind λr hr=>.cond (λh=>skip (Aot λhA=>by rw[hr.2 hA]at h;cases h)) λhrt=>?_
 have hap:=hr.1 (by simpa using hrt)
 have hst:=AkV hne hap;have nat:∀ {s:Int},0<=s->s<f.Slots.length->0<=Pc to s/\Pc to s<to.length/\Pc to (Pc to s)=Pc to s:=fun{s} h0 h1=>by
  obtain⟨j,rfl⟩:∃ j:Nat,s=(j:Int):=⟨s.toNat,by omega⟩
  obtain⟨w1,w2,w3⟩:=hW.at_ j (by omega)
  exact⟨w1,by omega,w3⟩
 obtain⟨qa1,qa2,qa3⟩:=nat a0 a1;obtain⟨qb1,qb2,qb3⟩:=nat b0 b1;rw[hst]at hfs;generalize Pc to p.a0=a at *;generalize Pc to p.a1=b at *;unfold Abe;refine Hs.loop (λs=>∃ k:Nat,s.2=(k:Int)/\k<=to.length/\s.1.length=to.length/\∀ j:Nat,j<to.length->Pc s.1 j=if j<k then Qr a b (Pc to j)else Pc to j) (λs=>to.length-s.2.toNat) ⟨0,rfl,aAD _,rfl,λj _=>(by simp)⟩ ?_
 rintro⟨t2,_⟩ ⟨m,rfl,hm,h2l,h2⟩;replace h2l:t2.length=to.length:=h2l;replace h2:∀ j:Nat,j<to.length->Pc t2 j=if j<m then Qr a b (Pc to j)else Pc to j:=h2
 unfold Abd;refine .dec (λhlt2=>?_) λhge2=>.lft ?_
 ·have hlt2:m<to.length:=by simp only at hlt2;omega
  have hgk:=Qn (to:=t2) (s:=(m:Int)) (by omega) (by omega)
  rw[h2 m hlt2,if_neg (Nat.lt_irrefl _)]at hgk;refine .chk (by omega) ?_
  rw[hgk,aA];have fin:∀ q:Bool,(q=true↔Pc to m=a\/Pc to m=b)->Hs (TL (m:Int) t2 a b q) (Rnd (λs:List Int×Int=>∃ k:Nat,s.2=(k:Int)/\k<=to.length/\s.1.length=to.length/\∀ j:Nat,j<to.length->Pc s.1 j=if j<k then Qr a b (Pc to j)else Pc to j) (λs=>to.length-s.2.toNat) (t2,(m:Int)) (Rnd (λs:List Int×Int=>∃ k:Nat,s.2=(k:Int)/\k<=mv.length/\s.1=(mv.take k).foldl (RW g) id0/\Whole f.Slots.length s.1) (λs=>mv.length-s.2.toNat) (to,(k:Int)) λt=>t=mv.foldl (RW g) id0)):=by
   intro q hq;unfold TL;rw[OZ (by omega)]
   refine .cond (λh=>.chk (by omega) ?_) λh=>.cnt ⟨⟨m+1,rfl,hlt2,h2l,λj hj=>?_⟩,by simp only;omega⟩
   ·rw[hgk,aA];refine .cnt ⟨⟨m+1,rfl,hlt2,by simp[h2l],λj hj=>?_⟩,by simp only;omega⟩
    show Pc (t2.set ((m:Nat):Int).toNat (SO a b)) j=_
    by_cases e:j=m
    ·subst e;rw[if_pos (Nat.lt_succ_self _)];simp only[Pc,aAB];rw[aAc (by omega)]
     have:=hq.1 h;simp only[Pc,aAB]at this;simp only[Qr,if_pos this,Option.getD_some]
    ·have:=h2 j hj;simp only[Pc,aAB]at this ⊢;rw[aAY (by omega),this]
     by_cases h':j<m
     ·rw[if_pos h',if_pos (by omega)]
     ·rw[if_neg h',if_neg (by omega)]
   ·show Pc t2 j=_;rw[h2 j hj]
    by_cases e:j=m
    ·subst e;have:¬ (Pc to j=a\/Pc to j=b):=λh'=>by rw[hq.2 h']at h;cases h
     rw[if_neg (Nat.lt_irrefl _),if_pos (Nat.lt_succ_self _),Qr,if_neg this]
    ·by_cases h':j<m
     ·rw[if_pos h',if_pos (by omega)]
     ·rw[if_neg h',if_neg (by omega)]
  refine .beq (λh=>fin true ⟨λ_=>.inl h,λ_=>rfl⟩) λh=>.chk (by omega) ?_
  rw[aA];exact fin _ ⟨λh'=>.inr (by simpa using h'),λh'=>by simpa using h'.resolve_left h⟩
 ·have hkk:m=to.length:=by simp only at hge2;omega
  subst hkk;have e:t2=VQ to a b:=by
   refine aAr λj=>?_
   by_cases hj:j<to.length
   ·have:=h2 j hj;rw[if_pos hj]at this;have g1:=Qn (to:=t2) (s:=(j:Int)) (by omega) (by omega)
    have g2:=Qn (to:=to) (s:=(j:Int)) (by omega) (by omega)
    rw[aAB]at g1 g2;rw[g1,AdZ g2,this,Qr,AkM]
   ·rw[aAd (by omega),aAd (by rw[Amr];omega)]
  unfold Ru;rw[OZ (by omega)]
  refine .cnt ⟨⟨k+1,rfl,hlt,by rw[hfs];exact e,?_⟩,by simp only;omega⟩
  show Whole _ t2;refine⟨by omega,λs hs=>?_⟩
  obtain⟨w1,w2,w3⟩:=hW.at_ s hs;have key:∀ j:Int,0<=j->j<to.length->Pc t2 j=Qr a b (Pc to j):=λj h0 h1=>by
   have:=h2 j.toNat (by omega)
   rw[if_pos (by omega)]at this
   rw[show((j.toNat:Nat):Int)=j by omega]at this
   exact this
  rw[key s (by omega) (by omega)]
  have jm:Qr a b (min a b)=min a b:=by
   unfold Qr;rw[if_pos (by omega),AkM]
  by_cases ec:Pc to s=a\/Pc to s=b
  ·have ej:Qr a b (Pc to s)=min a b:=by unfold Qr;rw[if_pos ec,AkM]
   rw[ej,key _ (by omega) (by omega)]
   have:Pc to (min a b)=min a b:=by
    rcases Int.le_total a b with h|h
    ·rw[Int.min_eq_left h];exact qa3
    ·rw[Int.min_eq_right h];exact qb3
   rw[this,jm];exact⟨by omega,by omega,rfl⟩
  ·have ej:Qr a b (Pc to s)=Pc to s:=by unfold Qr;rw[if_neg ec]
   rw[ej,key _ w1 (by omega),w3,ej]
   exact⟨w1,w2,rfl⟩
theorem Anz (hf:Ps f) (hml:AbK f) (hg:PR f.Slots.length g Q):∃ to,UZ f g=some to/\Tw f g=some to:=by
 obtain⟨a,h1,rfl⟩:=AoU hf hml hg;obtain⟨b,k1,rfl⟩:=Aki hf hml hg;exact⟨_,h1,k1⟩
end
open Go Go.Dw Go.Proofs
def Ra (a:OY):Prop:=0<=a.Off/\a.Off<=2147483647/\0<=a.Size/\a.Size<=2147483647/\a.Off+a.Size<=2147483647
def WA (a b:OY):Prop:=Ra a/\Ra b/\0<a.Size/\0<b.Size/\a.Off<b.Off+b.Size/\b.Off<a.Off+a.Size
def InI (a:OY) (n:Int):Prop:=Ra a/\a.Off+a.Size<=n
instance (a:OY):Decidable (Ra a):=by unfold Ra;infer_instance
instance (a b:OY):Decidable (WA a b):=by unfold WA;infer_instance
instance (a:OY) (n:Int):Decidable (InI a n):=by unfold InI;infer_instance
theorem Abn (a:OY):UM a=some (decide (Ra a)):=by
 unfold UM;simp only[YL,aA]
 by_cases h1:0<=a.Off/\a.Off<=2147483647
 ·rw[decide_eq_true h1,cond_true]
  by_cases h2:0<=a.Size/\a.Size<=2147483647
  ·rw[decide_eq_true h2,cond_true,wrap64 (by omega) (by omega)]
   congr 1;unfold Ra;exact decide_eq_decide.2 ⟨λh=>⟨h1.1,h1.2,h2.1,h2.2,h⟩,λh=>h.2.2.2.2⟩
  ·rw[decide_eq_false h2,cond_false,decide_eq_false (λh=>h2 ⟨h.2.2.1,h.2.2.2.1⟩)]
 ·rw[decide_eq_false h1,cond_false,decide_eq_false (λh=>h1 ⟨h.1,h.2.1⟩)]
theorem AeQ {m:Nat} (hm:m<=24):Rh ((2 ^ m:Nat):Int)=some true:=by
 have:Hs (Rh ((2 ^ m:Nat):Int)) λb=>b=true:=by
  unfold Rh;have hp:2 ^ m<=2 ^ 24:=aAJ (by omega) hm
  refine Hs.loop (λk=>∃ j:Nat,k=((2 ^ j:Nat):Int)/\j<=m) (λk=>2 ^ m-k.toNat) ⟨0,rfl,aAD _⟩ ?_
  rintro _ ⟨j,rfl,hj⟩;have hjp:2 ^ j<=2 ^ m:=aAJ (by omega) hj
  have hj0:0<2 ^ j:=aAb j;unfold Sj;refine .dec (λ_=>.beq (λ_=>.lft (.pure rfl)) λhne=>?_) λh=>(h (by omega)).elim
  have hlt:j<m:=by
   rcases Nat.lt_or_ge j m with h|h
   ·exact h
   ·exact(hne (by rw[show j=m by omega])).elim
  have h2:2 ^ (j+1)<=2 ^ m:=aAJ (by omega) hlt
  have h3:2 ^ (j+1)=2 ^ j*2:=Nat.pow_succ 2 j;refine .cnt ⟨⟨j+1,?_,hlt⟩,?_⟩
  ·rw[wrap64 (by omega) (by omega),h3];push_cast;rfl
  ·simp only;rw[wrap64 (by omega) (by omega)]
   omega
 obtain⟨r,h,rfl⟩:=this;exact h
def upN (n a:Int):Int:=n+(-n) % a
theorem Sd {n:Int} (ha:0<a):n<=upN n a/\upN n a<n+a/\upN n a % a=0:=by
 have h1:=aAm (-n) (show a≠0 by omega)
 have h2:=aAh (-n) ha;refine⟨by unfold upN;omega,by unfold upN;omega,?_⟩
 unfold upN;rw[aAt (-n) a];have:n+(-n-a*(-n / a))=a*(-(-n / a)):=by rw[Int.mul_neg];omega
 rw[this];exact aAp a _
def Te (a:Int):Prop:=∃ m:Nat,m<=24/\a=((2 ^ m:Nat):Int)
theorem Te.rng (h:Te a):1<=a/\a<=16777216:=by
 obtain⟨m,hm,rfl⟩:=h;have hp:2 ^ m<=2 ^ 24:=aAJ (by omega) hm
 have h0:0<2 ^ m:=aAb m;omega
theorem Aom {n:Int} (h0:0<=n) (h1:n<=1000000000) (ha:Te a):AhT n a=some (upN n a,0):=by
 obtain⟨a1,a2⟩:=ha.rng;obtain⟨m,hm,rfl⟩:=ha;obtain⟨p1,p2,_⟩:=Sd (n:=n) (a:=((2 ^ m:Nat):Int)) (by omega)
 unfold AhT;rw[YL,aA,decide_eq_true (show 0<=n/\n<=2147483647 by omega)]
 simp only[aAR,cond_false,AeQ hm,aA];generalize((2 ^ m:Nat):Int)=a at *;unfold Akj AgC;have ht:n.tmod a=n % a:=aAO h0;have e1:=aAm n (show a≠0 by omega)
 have e2:=aAh n (show 0<a by omega)
 have e3:=aAm (-n) (show a≠0 by omega)
 have e4:=aAh (-n) (show 0<a by omega)
 have d1:=Int.mul_ediv_add_emod n a;have d2:=Int.mul_ediv_add_emod (-n) a;rw[PK (by omega),ht]
 have key:(n % a=0->upN n a=n)/\(n % a≠0->upN n a=n-n % a+a):=by
  unfold upN;constructor
  ·intro h;have:(-n) % a=0:=Int.emod_eq_zero_of_dvd (Int.dvd_neg.2 (aAZ h));omega
  ·intro h;have hs:(n % a+(-n) % a) % a=0:=by
    rw[aAt n a,aAt (-n) a];have:n-a*(n / a)+(-n-a*(-n / a))=a*(-(n / a)+ -(-n / a)):=by rw[aB,Int.mul_neg,Int.mul_neg];omega
    rw[this];exact aAp a _
   have hlt:0<n % a+(-n) % a/\n % a+(-n) % a<2*a:=by omega
   have hq:n % a+(-n) % a=a:=by
    obtain⟨q,hq⟩:=aAZ hs;have q1:0<q:=by
     rcases aAi 0 q with h|h
     ·exact h
     ·have:=aAU h (show 0<=a by omega)
      omega
    have q2:q<2:=by
     rcases aAi q 2 with h|h
     ·exact h
     ·have:=aAU h (show 0<=a by omega)
      omega
    have:q=1:=by omega
    subst this;omega
   omega
 by_cases h:n % a=0
 ·have:=key.1 h;simp only[h,bne_self_eq_false,cond_false];rw[this,decide_eq_false (by omega),cond_false]
 ·have:=key.2 h;rw[show(n % a != 0)=true by simpa using h,cond_true,PK (by omega),wrap64 (n:=n-n % a) (by omega) (by omega),wrap64 (by omega) (by omega),<- this,decide_eq_false (by omega),cond_false]
theorem Aqh (a b:OY):Aeu a b=some (decide (WA a b)):=by
 unfold Aeu;simp only[Abn,aA]
 by_cases h1:Ra a
 ·by_cases h2:Ra b
  ·have e1:IntKind.i64.wrap (b.Off+b.Size)=b.Off+b.Size:=by unfold Ra at h2;exact wrap64 (by omega) (by omega)
   have e2:IntKind.i64.wrap (a.Off+a.Size)=a.Off+a.Size:=by unfold Ra at h1;exact wrap64 (by omega) (by omega)
   simp only[h1,h2,decide_true,cond_true,e1,e2,WA,true_and]
   by_cases h3:a.Size>0<;>by_cases h4:b.Size>0<;>by_cases h5:a.Off<b.Off+b.Size<;>by_cases h6:b.Off<a.Off+a.Size<;>simp[h3,h4,h5,h6]<;>omega
  ·simp[h1,h2,WA]
 ·simp[h1,WA]
def rowAt (g:List (List Int)) (y:Int):List Int:=(g[y.toNat]?).getD []
def AeJ (n:Int) (x:Nat) (s:List Int):Prop:=PQ s/\(∀ y∈s,y<n)/\(x:Int)∉s
def Sg (g:List (List Int)) (n:Int):Prop:=(g.length:Int)=n/\(∀ (x:Nat) s,g[x]? =some s->AeJ n x s)/\∀ (x:Nat) s,g[x]? =some s->∀ y∈s,(x:Int)∈rowAt g y
attribute [local simp] PK aAj
section
variable {g:List (List Int)} {n:Int}
theorem Aun (hn:(g.length:Int)=n) (hg:g.length<=1000) (hq:∀ s∈g,s.length<=9223372036854775807) {x:Nat} {row:List Int} (hx:g[x]? =some row) (hset:PQ row) (a b:List Int) (d:Bool) :
  ∃ r,Ads g (x:Int) n a b d=some r/\((∀ y∈row,y<n/\(x:Int)∈rowAt g y)/\r= .inl ((x+1:Nat):Int)\/(¬ ∀ y∈row,y<n/\(x:Int)∈rowAt g y)/\r= .inr false):=by
 have hxl:=(aAC.1 hx).1;have hlen:=hset.length_le;have wx:=OZ (show x<9223372036854775807 by omega)
 unfold Ads
 open Classical in
 have:=QT (body:=λs=>US g (x:Int) n a b d s) row (λ(_:Unit) i=>i) (λ_ _=>True) (λ_ l=>some (if ∀ y∈l,y<n/\(x:Int)∈rowAt g y then(.inl ((x+1:Nat):Int):Int⊕Bool)else .inr false))
  (λ_ _=>⟨.inl ((x+1:Nat):Int),by simp[US,Ahh,hx,wx],by simp⟩) (λ_ i y r _ hd hi hy=>by
   have hym:y∈row:=aAF hy;have h0:=hset.2 y hym;have w:=OZ (show i<9223372036854775807 by omega)
   by_cases hyn:y<n
   ·have hyl:y.toNat<g.length:=by omega
    have hgy:g[y.toNat]? =some g[y.toNat]:=aAA hyl;have hs:=hq _ (aAE hyl);have hra:rowAt g y=g[y.toNat]:=by simp[rowAt,hgy]
    by_cases hin:(x:Int)∈g[y.toNat]
    ·refine .inl ⟨(),trivial,?_,?_⟩
     ·obtain⟨_,rfl⟩:=aAC.1 hy;simp[US,hx,hi,show ¬ n<=row[i]by omega,QB _ h0.1,hgy,XV _ _ hs,hin,w]
     ·simp[hra,hin,hyn]
    ·refine .inr ⟨.inr false,?_,?_⟩
     ·obtain⟨_,rfl⟩:=aAC.1 hy;simp[US,hx,hi,show ¬ n<=row[i]by omega,QB _ h0.1,hgy,XV _ _ hs,hin]
     ·simp[hra,hin]
   ·refine .inr ⟨.inr false,?_,?_⟩
    ·obtain⟨_,rfl⟩:=aAC.1 hy;simp[US,hx,hi,show n<=row[i]by omega]
    ·simp[hyn]) () trivial
 refine⟨_,this,?_⟩
 by_cases h:∀ y∈row,y<n/\(x:Int)∈rowAt g y
 ·exact .inl ⟨h,if_pos h⟩
 ·exact .inr ⟨h,if_neg h⟩
theorem AmA (hg:g.length<=1000) (hq:∀ s∈g,s.length<=9223372036854775807):∃ b,AgI g n=some b/\(b=true↔Sg g n):=by
 unfold AgI
 by_cases hn:(g.length:Int)=n
 ·simp only[hn,bne_self_eq_false,cond_false];refine AdN (body:=λs=>Sk n g s) (s:=0) (λs=>∃ x:Nat,s=(x:Int)/\x<=g.length/\∀ (k:Nat) s,k<x->g[k]? =some s->AeJ n k s/\∀ y∈s,(k:Int)∈rowAt g y)
   (λb=>b=true↔Sg g n) (λs=>g.length-s.toNat) ⟨0,rfl,aAD _,λk s hk=>absurd hk (aAK _)⟩ (λs hI=>?_)
  obtain⟨x,rfl,hx,hall⟩:=hI
  by_cases hlt:x<g.length
  ·have hgx:g[x]? =some g[x]:=aAA hlt;have hxn:(x:Int)<n:=by omega
   have hl:=hq _ (aAE hlt);have bad:¬ (AeJ n x g[x]/\∀ y∈g[x],(x:Int)∈rowAt g y)->Sk n g x=some (.inr false)->(∃ r,Sk n g x=some (.inr r)/\(r=true↔Sg g n)):=λh1 h2=>⟨false,h2,λh=>(by cases h),λh=>(h1 ⟨h.2.1 x _ hgx,h.2.2 x _ hgx⟩).elim⟩
   by_cases hset:PQ g[x]
   ·have hb:SX none g[x]=true:=(Abq _).2 hset
    by_cases hc:(x:Int)∈g[x]
    ·exact .inr (bad (λh=>h.1.2.2 hc) (by simp[Sk,hxn,hlt,Afl _ hl,hb,XV _ _ hl,hc]))
    ·obtain⟨r,h1,⟨h2,rfl⟩|⟨h2,rfl⟩⟩:=Aun hn hg hq hgx hset g[x] g[x] false
     ·refine .inl ⟨((x+1:Nat):Int),by simp[Sk,hxn,hlt,Afl _ hl,hb,XV _ _ hl,hc,h1],⟨x+1,rfl,hlt,λk s hk hks=>?_⟩,by omega⟩
      by_cases hkx:k=x
      ·subst hkx;rw[hgx]at hks;cases hks;exact⟨⟨hset,λy hy=>(h2 y hy).1,hc⟩,λy hy=>(h2 y hy).2⟩
      ·exact hall k s (by omega) hks
     ·exact .inr (bad (λh=>h2 λy hy=>⟨h.1.2.1 y hy,h.2 y hy⟩) (by simp[Sk,hxn,hlt,Afl _ hl,hb,XV _ _ hl,hc,h1]))
   ·have hb:SX none g[x]=false:=by
     cases h:SX none g[x]
     ·rfl
     ·exact(hset ((Abq _).1 h)).elim
    exact .inr (bad (λh=>hset h.1.1) (by simp[Sk,hxn,hlt,Afl _ hl,hb]))
  ·right;have hxn:¬ (x:Int)<n:=by omega
   refine⟨true,by simp[Sk,hxn],λ_=>?_,λ_=>rfl⟩
   exact⟨hn,λk s hks=>(hall k s (by have:=(aAC.1 hks).1;omega) hks).1,λk s hks=>(hall k s (by have:=(aAC.1 hks).1;omega) hks).2⟩
 ·refine⟨false,by simp[hn],λh=>(by cases h),λh=>(hn h.1).elim⟩
end
open Go Go.Dw Go.Proofs
theorem WA.symm {a b:OY} (h:WA a b):WA b a:=⟨h.2.1,h.1,h.2.2.2.1,h.2.2.1,h.2.2.2.2.2,h.2.2.2.2.1⟩
theorem Ape (l:List OY) (hl:l.length<=1000000) (x:OY):Hs (AhU l x) λb=>b=true↔∀ u∈l,¬ WA u x:=by
 unfold AhU;refine Hs.loop (λi=>∃ k:Nat,i=(k:Int)/\k<=l.length/\∀ u∈l.take k,¬ WA u x) (λi=>l.length-i.toNat) ⟨0,rfl,aAD _,λu hu=>by simp at hu⟩ ?_
 rintro _ ⟨k,rfl,hk,hno⟩;unfold Ain;refine .dec (λhlt=>?_) λhge=>.lft (.pure ⟨λ_ u hu=>hno u (by grind),λ_=>rfl⟩)
 have hlt:k<l.length:=by omega
 rw[Pp,aAA hlt,aA,Aqh,aA];refine .dec (λh=>.lft (.pure ⟨λh=>(by cases h),λh'=>(h' _ (aAE hlt) h).elim⟩)) λh=>?_
 rw[OZ (by omega)]
 refine .cnt ⟨⟨k+1,rfl,hlt,λu hu=>?_⟩,by grind⟩
 grind [aAV]
theorem Aqr:∀ l:List OY,l=[]\/∃ (k:Nat) (x:OY),l[k]? =some x/\∀ u∈l,u.Off+u.Size<=x.Off+x.Size
 | []=>.inl rfl
 | a::l=>by
  refine .inr ?_;rcases Aqr l with rfl|⟨k,x,hk,hx⟩
  ·exact⟨0,a,rfl,λu hu=>by simp_all⟩
  ·by_cases h:a.Off+a.Size<=x.Off+x.Size
   ·exact⟨k+1,x,hk,λu hu=>(aAa.1 hu).elim (λe=>e▸h) (hx u)⟩
   ·refine⟨0,a,rfl,λu hu=>?_⟩
    grind
def Fits (l:List OY) (frm size align M b:Int):Prop:=frm<=b/\b<=M+63/\b.tmod align=0/\∀ u∈l,¬ WA u ⟨b,size⟩
theorem AtX {align M:Int} (hl:l.length<=1000) (hM:M<=100000) (hf:0<=frm/\frm<=M) (hs:1<=size/\size<=16) (ha:Te align) (ha':align<=64) (hu:∀ u∈l,Ra u/\u.Off+u.Size<=M) :
  Hs (Zi l frm size align) λr=>r.2=0/\Fits l frm size align M r.1:=by
 have ep:Rh align=some true:=by obtain⟨m,hm,rfl⟩:=ha;exact AeQ hm
 have har:=ha.rng;obtain⟨m,hm0,hm1,hmx⟩:∃ m:Int,-1<=m/\m<l.length/\∀ c:Int,((0<=m/\∃ x,l[m.toNat]? =some x/\c=PF frm (x.Off+x.Size))\/(m<0/\c=frm))->∀ u∈l,u.Off+u.Size<=c:=by
  rcases Aqr l with rfl|⟨k,x,hk,hx⟩
  ·exact⟨-1,by omega,by simp,λc _ u hu=>by cases hu⟩
  ·have hkl:=(aAC.1 hk).1;refine⟨(k:Int),by omega,by omega,λc hc u hu=>?_⟩
   grind [PF]
 unfold Zi;simp only[YL,aA,ep];rw[decide_eq_true (p:=0<=frm/\frm<=2147483647) (by omega),decide_eq_true (p:=0<=size/\size<=2147483647) (by omega)]
 refine Hs.loop (λi=>∃ k:Nat,i=(k:Int)/\k<=l.length) (λi=>l.length-i.toNat) ⟨0,rfl,aAD _⟩ ?_
 rintro _ ⟨k,rfl,hk⟩;refine .dec (λhlt=>?_) λ_=>.lft ?_
 ·have hlt:k<l.length:=by omega
  rw[Pp,aAA hlt,aA,Abn,aA,decide_eq_true (hu _ (aAE hlt)).1];rw[OZ (by omega)]
  exact .cnt ⟨⟨k+1,rfl,by omega⟩,by grind⟩
 refine Hs.loop (λs=>-1<=s.2.2/\s.2.2<=l.length/\(s.2.1=true->Fits l frm size align M s.1)/\(s.2.1=true\/s.2.2<=m)) (λs=>((l.length:Int)-s.2.2).toNat) ⟨by simp,by simp_all,λh=>(by cases h),.inr hm0⟩ ?_
 rintro⟨best,found,i⟩ ⟨h0,h1,h2,h3⟩;replace h0: -1<=i:=h0;replace h3:found=true\/i<=m:=h3;have j4:∀ c:Int,i<l.length->frm<=c->c<=M->(i=m->∀ u∈l,u.Off+u.Size<=c)->Hs (Xi align size l found i best c) (Rnd (λs:Int×Bool×Int=>-1<=s.2.2/\s.2.2<=l.length/\(s.2.1=true->Fits l frm size align M s.1)/\(s.2.1=true\/s.2.2<=m)) (λs=>((l.length:Int)-s.2.2).toNat) (best,found,i) λr=>r.2=0/\Fits l frm size align M r.1):=by
  intro c hi c0 c1 hc;unfold Xi;have w:IntKind.i64.wrap (i+1)=i+1:=wrap64 (by omega) (by omega)
  obtain⟨u1,u2,u3⟩:=Sd (n:=c) (a:=align) (by omega)
  rw[w,Aom (by omega) (by omega) ha,aA]
  have hR:Ra ⟨upN c align,size⟩:=by refine⟨?_,?_,?_,?_,?_⟩<;>simp only<;>omega
  rw[Abn,aA,decide_eq_true hR,cond_true];have ht:(upN c align).tmod align=0:=by grind
  have fin:∀ (a:Int) (b:Bool),(b=true->Fits l frm size align M a)->(b=true\/i+1<=m)->Hs (cnt (a,b,i+1):Option ((Int×Bool×Int)⊕(Int×Int))) (Rnd (λs:Int×Bool×Int=>-1<=s.2.2/\s.2.2<=l.length/\(s.2.1=true->Fits l frm size align M s.1)/\(s.2.1=true\/s.2.2<=m)) (λs=>((l.length:Int)-s.2.2).toNat) (best,found,i) λr=>r.2=0/\Fits l frm size align M r.1):=λa b g1 g2=>.cnt ⟨⟨by grind,by grind,g1,g2⟩,by grind⟩
  refine(Ape l (by omega) _).bind λb hb=>.cond (λhb'=>?_) λhb'=>?_
  ·have hG:Fits l frm size align M (upN c align):=⟨by omega,by omega,ht,hb.1 hb'⟩
   grind
  ·refine fin _ _ h2 ?_;rcases h3 with h3|h3
   ·simp_all
   ·by_cases e:i=m
    ·have:b=true:=hb.2 λu hu' ho=>by
      have h5:=hc e u hu';have h6:=ho.2.2.2.2.2
      grind
     simp_all
    ·omega
 refine .dec (λhlt=>.dec (λhge=>?_) λhge=>?_) λhge=>.lft ?_
 ·have hge:0<=i:=hge;have hlt:i<l.length:=hlt;have hin:i.toNat<l.length:=by omega
  have hx:l[i.toNat]? =some (l[i.toNat]'hin):=aAA _;have hxu:=hu _ (aAE hin);generalize(l[i.toNat]'hin)=x at hx hxu;obtain⟨x1,x2,x3,x4,x5⟩:=hxu.1;rw[QB _ hge,hx,aA,aA,wrap64 (by omega) (by omega)]
  refine j4 _ hlt (by grind [PF]) (by grind [PF]) λe u hu'=>hmx _ (.inl ⟨by omega,x,by simp_all,rfl⟩) u hu'
 ·have hge:¬ 0<=i:=hge;exact j4 _ hlt (by omega) (by omega) λe u hu'=>hmx _ (.inr ⟨by omega,rfl⟩) u hu'
 ·have hft:found=true:=by
   grind
  subst hft;exact .pure ⟨rfl,h2 rfl⟩
theorem AqW (s:List Pa) (hs:s.length<=1000):Hs (AdI s) λout=>out.length=s.length/\(∀ v∈out,0<=v/\v<s.length)/\∀ j:Nat,j<s.length->(j:Int)∈out:=by
 refine Hs.loop (λq=>∃ k:Nat,q.2=(k:Int)/\k<=s.length/\q.1.length=k/\(∀ v∈q.1,0<=v/\v<s.length)/\∀ j:Nat,j<k->(j:Int)∈q.1) (λq=>s.length-q.2.toNat) ⟨0,rfl,aAD _,rfl,λv hv=>(by cases hv),λj hj=>absurd hj (aAK _)⟩ ?_
 rintro⟨out,_⟩ ⟨k,rfl,hk,hol,hov,hoa⟩;replace hol:out.length=k:=hol;replace hov:∀ v∈out,0<=v/\v<s.length:=hov;dsimp only;refine .dec (λhlt=>?_) λhge=>.lft (.pure ⟨by omega,hov,λj hj=>hoa j (by omega)⟩)
 have hlt:k<s.length:=by omega
 have j3:∀ m:Int,0<=m->m<=out.length->Hs (UW out (k:Int) m) (Rnd (λq:List Int×Int=>∃ k:Nat,q.2=(k:Int)/\k<=s.length/\q.1.length=k/\(∀ v∈q.1,0<=v/\v<s.length)/\∀ j:Nat,j<k->(j:Int)∈q.1) (λq=>s.length-q.2.toNat) (out,(k:Int)) (λout=>out.length=s.length/\(∀ v∈out,0<=v/\v<s.length)/\∀ j:Nat,j<s.length->(j:Int)∈out)):=by
  intro m h0 h1;unfold UW;refine .chk ⟨h0,h1⟩ (.chk (by simp;omega) (.chk (by simp;omega) (.chk ⟨h0,h1⟩ (.chk (by simp;omega) ?_))))
  unfold Adw;rw[OZ (by omega)]
  refine .cnt ⟨⟨k+1,rfl,hlt,by simp;omega,λv hv=>?_,λj hj=>?_⟩,by grind⟩
  all_goals grind [aAk]
 refine Hs.loop (λm=>0<=m/\m<=out.length) (λm=>m.toNat) ⟨by omega,by omega⟩ ?_
 rintro m ⟨h0,h1⟩;refine .dec (λhp=>?_) λ_=>.lft (j3 m h0 h1)
 rw[wrap64 (n:=m-1) (by omega) (by omega)]
 exact(Hs.ix (P:=λ_=>True) (by omega) (by omega) λ_ _=>trivial).bind λx _=>.chk (by omega) ((Hs.get (by omega) (by omega) λv hv=>hov v (aAF hv)).bind λv hv=>(Hs.ix (P:=λ_=>True) hv.1 hv.2 λ_ _=>trivial).bind λy _=>(Aqu x y).bind λb _=>.cond (λ_=>.cnt ⟨⟨by omega,by omega⟩,by grind⟩) λ_=>.lft (j3 m h0 h1))
theorem Ra.wrap {a:OY} (h:Ra a):IntKind.i64.wrap (a.Off+a.Size)=a.Off+a.Size:=by
 unfold Ra at h;exact wrap64 (by omega) (by omega)
theorem Wf (m:Nat) (hm:m<=24):Te ((2 ^ m:Nat):Int):=⟨m,hm,rfl⟩
theorem TV.al {s:Pa} (h:TV s):Te s.Align/\s.Align<=64/\1<=s.Size/\s.Size<=16:=by
 obtain⟨h1,h2⟩:=h;have ha:Te s.Align/\s.Align<=64:=by
  simp only[aAa,aAu,or_false]at h2;rcases h2 with h|h|h|h|h|h|h|h<;>rw[h]
  ·exact⟨Wf 3 (by omega),by omega⟩
  ·exact⟨Wf 2 (by omega),by omega⟩
  ·exact⟨Wf 0 (by omega),by omega⟩
  ·exact⟨Wf 3 (by omega),by omega⟩
  ·exact⟨Wf 4 (by omega),by omega⟩
  ·exact⟨Wf 1 (by omega),by omega⟩
  ·exact⟨Wf 5 (by omega),by omega⟩
  ·exact⟨Wf 6 (by omega),by omega⟩
 refine⟨ha.1,ha.2,?_⟩;simp only[aAa,aAu,or_false]at h1;omega
theorem Agi (h:∀ x∈s,TV x) (hl:s.length<=512):Hs (Tc s) λe=>e=0:=by
 unfold Tc;rw[decide_eq_false (by omega),cond_false]
 refine Hs.loop (λi=>∃ k:Nat,i=(k:Int)/\k<=s.length) (λi=>s.length-i.toNat) ⟨0,rfl,aAD _⟩ ?_
 rintro _ ⟨k,rfl,hk⟩;unfold Adr;refine .dec (λhlt=>?_) λ_=>.lft (.pure rfl)
 have hlt:k<s.length:=by omega
 have hx:=h _ (aAE hlt);rw[Pp,aAA hlt];generalize s[k]=x at hx;have e1:TP x.Size=some true:=by
  have:=hx.1;simp only[aAa,aAu,or_false]at this;unfold TP;rcases this with h|h|h|h|h|h|h<;>rw[h]<;>rfl
 have e2:Rh x.Align=some true:=by
  obtain⟨m,hm,e⟩:=hx.al.1;rw[e];exact AeQ hm
 simp only[aA,e1,e2,aAR,cond_false];rw[OZ (by omega)]
 exact .cnt ⟨⟨k+1,rfl,by omega⟩,by simp only;omega⟩
def SP (p:Pr) (n:Int) (x:OX):Int:=if x.Op=18 then PF n (x.A+1)else if x.Op=22 then PF n (((p.Funcs[x.A.toNat]?).map Lo.Params).getD 0)else n
def Sq (p:Pr) (f:Lo) (k:Nat):Int:=(f.Code.take k).foldl (SP p) 0
def AdD (p:Pr) (f:Lo):Prop:=∀ x∈f.Code,(x.Op=18->0<=x.A/\x.A<4)/\(x.Op=22->0<=x.A/\∃ g,p.Funcs[x.A.toNat]? =some g/\0<=g.Params/\g.Params<4)
theorem YJ {p:Pr} (hk:k<f.Code.length):Sq p f (k+1)=SP p (Sq p f k) f.Code[k]:=by
 unfold Sq;rw[aAN hk,aAS];rfl
theorem Aoc {b c:Int} (h0:0<=a/\a<=c) (h1:b<=c):0<=PF a b/\PF a b<=c:=by unfold PF;split<;>omega
theorem AcX {p:Pr} {f:Lo} (h:AdD p f):∀ {k:Nat},k<=f.Code.length->0<=Sq p f k/\Sq p f k<=4
 | 0,_=>by simp[Sq]
 | k+1,hk=>by
  rw[YJ hk];have ih:=AcX h (k:=k) (by omega)
  obtain⟨h1,h2⟩:=h _ (aAE hk);unfold SP;split
  ·exact Aoc ih (by have:=h1 ‹_›;omega)
  ·split
   ·obtain⟨_,g,hg,hp⟩:=h2 ‹_›;rw[hg];exact Aoc ih (by simp only[Option.map_some,Option.getD_some];omega)
   ·exact ih
theorem Aoh {p:Pr} {i:Int} (hi:ixO p.Funcs i=some f) (hl:f.Code.length<=10000) (h:AdD p f):Acy p i=some (16*Sq p f f.Code.length):=by
 have:Hs (Acy p i) λr=>r=16*Sq p f f.Code.length:=by
  unfold Acy;rw[hi,aA];refine Hs.loop (λq=>∃ k:Nat,q=(Sq p f k,(k:Int))/\k<=f.Code.length) (λq=>f.Code.length-q.2.toNat) ⟨0,rfl,aAD _⟩ ?_
  rintro _ ⟨k,rfl,hk⟩;have hr:=AcX h hk;unfold Aiv;dsimp only;refine .dec (λhlt=>?_) λhge=>.lft (.pure ?_)
  ·have hlt:k<f.Code.length:=by omega
   have e:ixO f.Code (k:Int)=some f.Code[k]:=by rw[Pp];exact aAA hlt
   obtain⟨h1,h2⟩:=h _ (aAE hlt);simp only[e,aA];rw[OZ (by omega)]
   refine .beq (λh18=>?_) λh18=>.beq (λh22=>?_) λh22=>?_
   ·have:=h1 h18;rw[wrap64 (by omega) (by omega)]
    exact .cnt ⟨⟨k+1,by rw[YJ hlt];simp[SP,h18],hlt⟩,by simp only;omega⟩
   ·obtain⟨a0,g,hg,hp⟩:=h2 h22;rw[QB _ a0,hg,aA];exact .cnt ⟨⟨k+1,by rw[YJ hlt];simp[SP,h22,hg],hlt⟩,by simp only;omega⟩
   ·exact .cnt ⟨⟨k+1,by rw[YJ hlt];simp[SP,h18,h22],hlt⟩,by simp only;omega⟩
  ·have:k=f.Code.length:=by omega
   subst this;rw[wrap64 (by omega) (by omega)]
   show Sq p f f.Code.length*16=_;omega
 obtain⟨r,h,rfl⟩:=this;exact h
def WI (s:List Pa):Prop:=s.length<=7/\∀ x∈s,Te x.Align/\x.Align<=64/\1<=x.Size/\x.Size<=16
def oN (off:List Int) (k:Nat):Int:=(off[k]?).getD 0
def szN (s:List Pa) (k:Nat):Int:=((s[k]?).map Pa.Size).getD 0
def alN (s:List Pa) (k:Nat):Int:=((s[k]?).map Pa.Align).getD 0
def ivN (s:List Pa) (off:List Int) (k:Nat):OY:=⟨oN off k,szN s k⟩
def Plc (s:List Pa) (frm B:Int) (off:List Int) (k:Nat):Prop:=frm<=oN off k/\oN off k+szN s k<=B/\(oN off k).tmod (alN s k)=0
structure Asg (s:List Pa) (g:List (List Int)) (frm:Int) (ord:List Int) (k:Nat) (done:List Bool) (off:List Int):Prop where
 dl:done.length=s.length
 fl:off.length=s.length
 pl:∀ y:Nat,done[y]? =some true->Plc s frm (frm+80*k) off y
 ap:∀ y z:Nat,y≠z->done[y]? =some true->done[z]? =some true->(z:Int)∈rowAt g y->¬ WA (ivN s off y) (ivN s off z)
 cov:∀ j<k,∀ v,ord[j]? =some v->done[v.toNat]? =some true
theorem VF {x:Pa} (h:s[k]? =some x):szN s k=x.Size/\alN s k=x.Align:=by simp[szN,alN,h]
theorem Sg.sym {n:Int} (h:Sg g n) {y z:Nat} (hz:(z:Int)∈rowAt g y):(y:Int)∈rowAt g z:=by
 unfold rowAt at hz;rw[aAB]at hz;cases e:g[y]? with
 | none=>rw[e]at hz;cases hz
 | some t=>rw[e]at hz;exact h.2.2 y t e _ hz
theorem Asg.step {ord:List Int} {done:List Bool} {off:List Int} (h:Asg s g frm ord k done off) {n:Int} (hg:Sg g n) {w:Nat} (hk:ord[k]? =some (w:Int)) {x:Pa} (hx:s[w]? =some x) {r:Int} (h1:frm<=r) (h2:r+x.Size<=frm+80*(k+1)) (h3:r.tmod x.Align=0) (h4:∀ y:Nat,done[y]? =some true->(y:Int)∈rowAt g w->¬ WA (ivN s off y) ⟨r,x.Size⟩) :
  Asg s g frm ord (k+1) (done.set w true) (off.set w r):=by
 obtain⟨dl,fl,pl,ap,cov⟩:=h;have hw:=(aAC.1 hx).1;have d1:∀ y:Nat,(done.set w true)[y]? =some true->y=w\/done[y]? =some true:=λy hy=>by
  by_cases e:y=w
  ·exact .inl e
  ·rw[aAY (λh=>e h.symm)]at hy;exact .inr hy
 have o1:oN (off.set w r) w=r:=by unfold oN;rw[aAc (by omega)];rfl
 have o2:∀ y:Nat,y≠w->oN (off.set w r) y=oN off y:=λy hy=>by unfold oN;rw[aAY (λh=>hy h.symm)]
 obtain⟨z1,z2⟩:=VF hx;refine⟨by simp[dl],by simp[fl],λy hy=>?_,λy z hne hy hz hm=>?_,λj hj v hv=>?_⟩
 ·by_cases e:y=w
  ·subst e;refine⟨?_,?_,?_⟩
   ·rw[o1];exact h1
   ·rw[o1,z1];omega
   ·rw[o1,z2];exact h3
  ·rcases d1 y hy with h|h
   ·exact(e h).elim
   obtain⟨p1,p2,p3⟩:=pl y h;refine⟨?_,?_,?_⟩
   ·rw[o2 y e];exact p1
   ·rw[o2 y e];omega
   ·rw[o2 y e];exact p3
 ·unfold ivN at *
  by_cases e:y=w
  ·subst e;have ez:z≠y:=λh=>hne h.symm
   rcases d1 z hz with h|h
   ·exact(ez h).elim
   rw[o1,z1,o2 z ez];exact λho=>h4 z h hm ho.symm
  ·rcases d1 y hy with h|h
   ·exact(e h).elim
   rw[o2 y e]
   by_cases e':z=w
   ·subst e';rw[o1,z1];exact h4 y h (hg.sym hm)
   ·rcases d1 z hz with h'|h'
    ·exact(e' h').elim
    rw[o2 z e'];exact ap y z hne h h' hm
 ·by_cases e:v.toNat=w
  ·rw[e,aAc (by omega)]
  ·rw[aAY (λh=>e h.symm)]
   by_cases ej:j=k
   ·subst ej;rw[hk]at hv;cases hv;simp at e
   ·exact cov j (by omega) v hv
theorem Aqt (hs:WI s) (hso:∀ x∈s,TV x) (hg:Sg g s.length) (hgl:∀ row∈g,row.length<=512) (hf:0<=frm/\frm<=1000) :
  Hs (Xp s g frm) λq=>q.2=0/\q.1.length=s.length/\(∀ y:Nat,y<s.length->Plc s frm (frm+80*s.length) q.1 y)/\∀ y z:Nat,y<s.length->z<s.length->y≠z->(z:Int)∈rowAt g y->¬ WA (ivN s q.1 y) (ivN s q.1 z):=by
 have hsl:=hs.1;have hgg:g.length=s.length:=by have:=hg.1;omega
 obtain⟨b,hb1,hb2⟩:=AmA (g:=g) (n:=(s.length:Int)) (by omega) λr hr=>by have:=hgl r hr;omega
 unfold Xp;refine(Agi hso (by omega)).bind λe he=>?_
 subst he;rw[hb1,hb2.2 hg,aA,YL,aA,decide_eq_true (by omega)]
 simp only[bne_self_eq_false,cond_false,aAR];unfold Agc;refine .chk (by omega) (.chk (by omega) ((AqW s (by omega)).bind λord ⟨ol,ov,oa⟩=>?_))
 refine Hs.loop (λq=>∃ k:Nat,q.2.2=(k:Int)/\k<=ord.length/\Asg s g frm ord k q.1 q.2.1) (λq=>ord.length-q.2.2.toNat) ⟨0,rfl,aAD _,by simp,by simp,λy hy=>?_,λy z _ hy=>?_,λj hj=>absurd hj (aAK _)⟩ ?_
 ·simp[aAw]at hy
 ·simp[aAw]at hy
 rintro⟨done,off,_⟩ ⟨k,rfl,hk,hI⟩;replace hI:Asg s g frm ord k done off:=hI;obtain⟨dl,fl,pl,ap,cov⟩:=id hI;unfold Aga;dsimp only;refine .dec (λhlt=>?_) λhge=>.lft (.pure ?_)
 rotate_left
 ·have hkk:k=s.length:=by omega
  subst hkk;have all:∀ y:Nat,y<s.length->done[y]? =some true:=λy hy=>by
   obtain⟨j,hj⟩:=aAH (oa y hy);have:=(aAC.1 hj).1;simpa using cov j (by omega) _ hj
  exact⟨rfl,fl,λy hy=>pl y (all y hy),λy z hy hz hne hm=>ap y z hne (all y hy) (all z hz) hm⟩
 have hlt:k<ord.length:=by omega
 have hov:ord[k]? =some ord[k]:=aAA hlt;have hvr:=ov _ (aAE hlt);generalize ord[k]=v at hov hvr;refine .chk (by omega) ?_
 rw[aAB,hov,aA];obtain⟨w,rfl⟩:∃ w:Nat,v=(w:Int):=⟨v.toNat,by omega⟩
 have hw:w<s.length:=by omega
 have hgr:ixO g (w:Int)=some (rowAt g w):=by
  rw[Pp];unfold rowAt;rw[aAB,aAA (by omega)];rfl
 have hrl:(rowAt g w).length<=512:=by
  unfold rowAt;rw[aAB,aAA (by omega)]
  exact hgl _ (aAE _)
 refine Hs.loop (λq=>∃ j:Nat,q.2=(j:Int)/\j<=s.length/\q.1.length<=j/\(∀ u∈q.1,∃ y:Nat,done[y]? =some true/\u=ivN s off y)/\∀ y:Nat,y<j->done[y]? =some true->(y:Int)∈rowAt g w->ivN s off y∈q.1) (λq=>s.length-q.2.toNat) ⟨0,rfl,aAD _,by simp,λu hu=>(by cases hu),λy hy=>absurd hy (aAK _)⟩ ?_
 rintro⟨used,_⟩ ⟨j,rfl,hj,hul,hu1,hu2⟩;replace hul:used.length<=j:=hul;replace hu1:∀ u∈used,∃ y:Nat,done[y]? =some true/\u=ivN s off y:=hu1;replace hu2:∀ y:Nat,y<j->done[y]? =some true->(y:Int)∈rowAt g w->ivN s off y∈used:=hu2;unfold Agb;dsimp only;refine .dec (λhlt'=>?_) λhge=>.lft ?_
 ·have hjl:j<s.length:=by omega
  have hdj:done[j]? =some (done[j]'(by omega)):=aAA _
  generalize(done[j]'(by omega))=d at hdj
  refine .chk (by omega) ?_
  rw[aAB,hdj,aA];have no:¬ (d=true/\(j:Int)∈rowAt g w)->∀ y:Nat,y<j+1->done[y]? =some true->(y:Int)∈rowAt g w->ivN s off y∈used:=λhn y hy h1 h2=>by
   by_cases e:y=j
   ·subst e;rw[hdj]at h1;exact(hn ⟨Option.some.inj h1,h2⟩).elim
   ·exact hu2 y (by omega) h1 h2
  have key:∀ d:Bool,(bif d then(ixO g (w:Int)).bind λx=>(VV x (j:Int)).bind λr=>Rj (j:Int) off s used r else Rj (j:Int) off s used false)=Rj (j:Int) off s used (d&&decide ((j:Int)∈rowAt g w)):=λd=>by
   cases d
   ·rfl
   ·rw[cond_true,hgr,aA,XV _ _ (by omega),aA,Bool.true_and]
  rw[key];unfold Rj;rw[OZ (by omega)]
  refine .cond (λhd=>?_) λhd=>.cnt ⟨⟨j+1,rfl,hjl,by simp only;omega,hu1,no λh=>by simp[h.1,h.2]at hd⟩,by simp only;omega⟩
  ·have hd:d=true:=by simp at hd;exact hd.1
   refine .chk (by omega) ?_
   have hoj:off[j]? =some (oN off j):=by unfold oN;rw[aAA (by omega)];rfl
   have hsj:s[j]? =some s[j]:=aAA _;rw[aAB,hoj,aA,Pp,hsj,aA];have hiv:(OY.mk (oN off j) s[j].Size)=ivN s off j:=by unfold ivN;rw[(VF hsj).1]
   rw[hiv];refine .chk (by simp;omega) (.cnt ⟨⟨j+1,rfl,hjl,by simp;omega,λu hu=>?_,λy hy h1 h2=>?_⟩,by simp only;omega⟩)
   ·rcases aAP.1 hu with hu|hu
    ·exact hu1 u hu
    ·simp at hu;subst hu;exact⟨j,by rw[hdj,hd],rfl⟩
   ·by_cases e:y=j
    ·subst e;simp
    ·exact aAn _ (hu2 y (by omega) h1 h2)
 ·have hjj:j=s.length:=by omega
  subst hjj;have hsw:s[w]? =some s[w]:=aAA _;obtain⟨a1,a2,a3,a4⟩:=hs.2 _ (aAE hw);generalize s[w]=x at hsw a1 a2 a3 a4;simp only[Pp,hsw,aA];have hR:∀ u∈used,Ra u/\u.Off+u.Size<=frm+80*(k:Int):=λu hu=>by
   obtain⟨y,hy,rfl⟩:=hu1 u hu;obtain⟨p1,p2,_⟩:=pl y hy;have hyl:y<s.length:=by rw[<- dl];exact(aAC.1 hy).1
   have hsy:s[y]? =some s[y]:=aAA _;obtain⟨_,_,b3,b4⟩:=hs.2 _ (aAE hyl);rw[<- (VF hsy).1]at b3 b4;refine⟨⟨?_,?_,?_,?_,?_⟩,p2⟩<;>simp only[ivN]<;>omega
  refine(AtX (M:=frm+80*(k:Int)) (by omega) (by omega) (by omega) ⟨a3,a4⟩ a1 a2 hR).bind λr ⟨r0,r1,r2,r3,r4⟩=>?_
  rw[r0];simp only[bne_self_eq_false,cond_false];refine .chk (by omega) ?_
  rw[aAB,aAA (by omega),aA]
  refine .chk (by omega) ?_
  rw[aAA (by omega),aA]
  unfold Acw;rw[OZ (by omega)]
  exact .cnt ⟨⟨k+1,rfl,hlt,hI.step hg hov hsw r1 (by omega) r3 λy h1 h2=>r4 _ (hu2 y (by rw[<- dl];exact(aAC.1 h1).1) h1 h2)⟩,by simp only;omega⟩
def Aax (a:OY) (size y:Int):Prop:=a.Off<y+size/\y<a.Off+a.Size
instance (a:OY) (size y:Int):Decidable (Aax a size y):=inferInstanceAs (Decidable (_/\_))
structure RE (l:List OY) (frm size al y:Int):Prop where
 ge:frm<=y
 al0:y % al=0
 free:∀ a∈l,¬ Aax a size y
 least:∀ z,frm<=z->z % al=0->(∀ a∈l,¬ Aax a size z)->y<=z
theorem RE.unique {al y z:Int} (h:RE l frm size al y) (k:RE l frm size al z):y=z:=by
 have:=h.least z k.ge k.al0 k.free;have:=k.least y h.ge h.al0 h.free;omega
theorem RE.Aoe {l':List OY} {al y:Int} (h:RE l frm size al y) (hm:∀ a,a∈l↔a∈l'):RE l' frm size al y :=
 ⟨h.ge,h.al0,λa ha=>h.free a ((hm a).2 ha),λz h1 h2 h3=>h.least z h1 h2 λa ha=>h3 a ((hm a).1 ha)⟩
theorem Ajy {n al z:Int} (ha:0<al) (h1:n<=z) (h2:z % al=0):upN n al<=z:=by
 obtain⟨u1,u2,u3⟩:=Sd (n:=n) ha;have e1:=aAe z al;have e2:=aAe (upN n al) al;rw[h2]at e1;rw[u3]at e2;rcases aAi z (upN n al)with h|h
 ·exfalso;have h3:al*(z / al)<al*(upN n al / al):=by omega
  have h4:z / al<upN n al / al:=aAs h3 (by omega)
  have h5:al*(z / al+1)<=al*(upN n al / al):=aAU h4 (by omega)
  rw[aB,Int.mul_one]at h5;omega
 ·exact h
theorem AoA {n al y:Int} (ha:0<al) (h1:n<=y) (h2:y<n+al) (h3:y % al=0):upN n al=y:=by
 have h:=Ajy ha h1 h3;obtain⟨u1,u2,u3⟩:=Sd (n:=n) ha;have e1:=aAe y al;have e2:=aAe (upN n al) al;rw[h3]at e1;rw[u3]at e2;rcases aAi (upN n al) y with h'|h'
 ·exfalso;have h3:al*(upN n al / al)<al*(y / al):=by omega
  have h4:upN n al / al<y / al:=aAs h3 (by omega)
  have h5:al*(upN n al / al+1)<=al*(y / al):=aAU h4 (by omega)
  rw[aB,Int.mul_one]at h5;omega
 ·omega
def swp (size al y:Int) (a:OY):Int:=if Aax a size y then upN (a.Off+a.Size) al else y
def AmX (l:List OY):Prop:=l.Pairwise λa b=>a.Off<=b.Off
structure SwI (done:List OY) (frm size al y:Int):Prop where
 ge:frm<=y
 al0:y % al=0
 off:∀ a∈done,a.Off+a.Size<=y\/y+size<=a.Off
 least:∀ z,frm<=z->z<y->z % al=0->∃ a∈done,Aax a size z
theorem SwI.step {done:List OY} {al y:Int} {a:OY} (ha:0<al) (h:SwI done frm size al y) (hs:∀ d∈done,d.Off<=a.Off):SwI (done++[a]) frm size al (swp size al y a):=by
 unfold swp;split
 ·rename_i hm;obtain⟨m1,m2⟩:=hm;obtain⟨u1,u2,u3⟩:=Sd (n:=a.Off+a.Size) ha;refine⟨by have:=h.ge;omega,u3,λd hd=>?_,λz z1 z2 z3=>?_⟩
  ·rcases aAP.1 hd with hd|hd
   ·rcases h.off d hd with h1|h1
    ·exact .inl (by omega)
    ·have:=hs d hd;omega
   ·obtain rfl:=aAM.1 hd;exact .inl u1
  ·by_cases hz:z<y
   ·obtain⟨d,hd,k⟩:=h.least z z1 hz z3;exact⟨d,aAn _ hd,k⟩
   ·refine⟨a,List.mem_append_right _ (aAM.2 rfl),by omega,?_⟩
    rcases aAi z (a.Off+a.Size)with h1|h1
    ·exact h1
    ·have:=Ajy ha h1 z3;omega
 ·rename_i hm;refine⟨h.ge,h.al0,λd hd=>?_,λz z1 z2 z3=>?_⟩
  ·rcases aAP.1 hd with hd|hd
   ·exact h.off d hd
   ·obtain rfl:=aAM.1 hd;unfold Aax at hm;omega
  ·obtain⟨d,hd,k⟩:=h.least z z1 z2 z3;exact⟨d,aAn _ hd,k⟩
theorem AsH {frm size al:Int} (ha:0<al):∀ (rest done:List OY) (y:Int),SwI done frm size al y->AmX (done++rest)->SwI (done++rest) frm size al (rest.foldl (swp size al) y)
 | [],done,y,h,_=>by simpa using h
 | a::rest,done,y,h,hs=>by
  have hda:∀ d∈done,d.Off<=a.Off:=λd hd=>(List.pairwise_append.1 hs).2.2 d hd a (List.mem_cons_self ..)
  have:=AsH ha rest (done++[a]) _ (h.step ha hda) (by simpa using hs)
  simpa using this
theorem SwI.AqR {al y:Int} (h:SwI l frm size al y):RE l frm size al y:=by
 refine⟨h.ge,h.al0,λa ha hm=>?_,λz z1 z2 z3=>?_⟩
 ·unfold Aax at hm;rcases h.off a ha with h1|h1<;>omega
 ·rcases aAi z y with h1|h1
  ·obtain⟨a,ha,k⟩:=h.least z z1 h1 z2;exact absurd k (z3 a ha)
  ·exact h1
theorem Akn {al:Int} (ha:0<al) (hs:AmX l):RE l frm size al (l.foldl (swp size al) (upN frm al)):=by
 obtain⟨u1,u2,u3⟩:=Sd (n:=frm) ha;have:=AsH (frm:=frm) (size:=size) ha l [] (upN frm al) ⟨u1,u3,(λa h=>by cases h),λz z1 z2 z3=>(by have:=Ajy ha z1 z3;omega)⟩ hs
 exact SwI.AqR (by simpa using this)
theorem RE.AtU {al y:Int} (ha:0<al) (h:RE l frm size al y):y=upN frm al\/∃ a∈l,y=upN (max frm (a.Off+a.Size)) al:=by
 have hge:=h.ge
 by_cases h1:y-al<frm
 ·exact .inl (AoA ha h.ge (by omega) h.al0).symm
 ·have hz:(y-al) % al=0:=by rw[Int.sub_emod,h.al0];simp
  have:¬ ∀ a∈l,¬ Aax a size (y-al):=λhf=>by have:=h.least (y-al) (by omega) hz hf;omega
  obtain⟨a,ha'⟩:=Classical.not_forall.1 this;obtain⟨hal,hm⟩:=Classical.not_imp.1 ha';have hm:=Classical.not_not.1 hm;have hn:=h.free a hal;unfold Aax at hm hn;exact .inr ⟨a,hal,(AoA ha (by omega) (by omega) h.al0).symm⟩
theorem Aly {u:OY} {b:Int} (hu:Ra u) (hp:0<u.Size) (hs:0<size) (hb:Ra ⟨b,size⟩):WA u ⟨b,size⟩↔Aax u size b :=
 ⟨λh=>⟨h.2.2.2.2.1,h.2.2.2.2.2⟩,λh=>⟨hu,hb,hp,hs,h.1,h.2⟩⟩
theorem Un (a b:Int):PF a b=max a b:=by unfold PF;split<;>omega
theorem AqG {align M y:Int} (hl:l.length<=1000) (hM:M<=100000) (hf:0<=frm/\frm<=M) (hs:1<=size/\size<=16) (ha:Te align) (ha':align<=64) (hu:∀ u∈l,Ra u/\u.Off+u.Size<=M) (hp:∀ u∈l,0<u.Size) (hy:RE l frm size align y) :
  Zi l frm size align=some (y,0):=by
 have ep:Rh align=some true:=by obtain⟨m,hm,rfl⟩:=ha;exact AeQ hm
 have har:=ha.rng;obtain⟨m,hm0,hm1,hmx⟩:∃ m:Int,-1<=m/\m<l.length/\∀ c:Int,((0<=m/\∃ x,l[m.toNat]? =some x/\c=PF frm (x.Off+x.Size))\/(m<0/\c=frm))->y=upN c align:=by
  rcases hy.AtU (by omega)with h|⟨a,ha1,h⟩
  ·refine⟨-1,by omega,by omega,λc hc=>?_⟩
   rcases hc with⟨h0,_⟩|⟨_,rfl⟩
   ·omega
   ·exact h
  ·obtain⟨k,hk⟩:=aAH ha1;have hkl:=(aAC.1 hk).1;refine⟨(k:Int),by omega,by omega,λc hc=>?_⟩
   rcases hc with⟨_,z,hz,rfl⟩|⟨h0,_⟩
   ·rw[aAB,hk]at hz;cases hz;rw[Un];exact h
   ·omega
 have lst:∀ b:Int,Fits l frm size align M b->y<=b:=by
  rintro b ⟨b1,b2,b3,b4⟩;refine hy.least b b1 (by rw[aAO (by omega)]at b3;exact b3) λu hu' hm=>b4 u hu' ((Aly (hu u hu').1 (hp u hu') (by omega) ?_).2 hm)
  refine⟨?_,?_,?_,?_,?_⟩<;>simp only<;>omega
 have key:Hs (Zi l frm size align) λr=>r=(y,0):=by
  unfold Zi;simp only[YL,aA,ep];rw[decide_eq_true (p:=0<=frm/\frm<=2147483647) (by omega),decide_eq_true (p:=0<=size/\size<=2147483647) (by omega)]
  simp only[aAR,cond_false];unfold Ajl;refine Hs.loop (λi=>∃ k:Nat,i=(k:Int)/\k<=l.length) (λi=>l.length-i.toNat) ⟨0,rfl,aAD _⟩ ?_
  rintro _ ⟨k,rfl,hk⟩;unfold Ajj;refine .dec (λhlt=>?_) λ_=>.lft ?_
  ·have hlt:k<l.length:=by omega
   rw[Pp,aAA hlt,aA,Abn,aA,decide_eq_true (hu _ (aAE hlt)).1];simp only[aAR,cond_false];rw[OZ (by omega)]
   exact .cnt ⟨⟨k+1,rfl,by omega⟩,by simp only;omega⟩
  refine Hs.loop (λs=>-1<=s.2.2/\s.2.2<=l.length/\(s.2.1=true->Fits l frm size align M s.1)/\((s.2.1=true/\s.1=y)\/s.2.2<=m)) (λs=>((l.length:Int)-s.2.2).toNat) ⟨by simp,by simp only;omega,λh=>(by cases h),.inr hm0⟩ ?_
  rintro⟨best,found,i⟩ ⟨h0,h1,h2,h3⟩;replace h0: -1<=i:=h0;replace h1:i<=l.length:=h1;replace h2:found=true->Fits l frm size align M best:=h2;replace h3:(found=true/\best=y)\/i<=m:=h3;unfold Ajk;have j4:∀ c:Int,i<l.length->frm<=c->c<=M->(i=m->y=upN c align)->Hs (Xi align size l found i best c) (Rnd (λs:Int×Bool×Int=>-1<=s.2.2/\s.2.2<=l.length/\(s.2.1=true->Fits l frm size align M s.1)/\((s.2.1=true/\s.1=y)\/s.2.2<=m)) (λs=>((l.length:Int)-s.2.2).toNat) (best,found,i) λr=>r=(y,0)):=by
   intro c hi c0 c1 hc;unfold Xi;have w:IntKind.i64.wrap (i+1)=i+1:=wrap64 (by omega) (by omega)
   obtain⟨u1,u2,u3⟩:=Sd (n:=c) (a:=align) (by omega)
   rw[w,Aom (by omega) (by omega) ha,aA]
   simp only[beq_self_eq_true,cond_true];have hR:Ra ⟨upN c align,size⟩:=by refine⟨?_,?_,?_,?_,?_⟩<;>simp only<;>omega
   rw[Abn,aA,decide_eq_true hR,cond_true];have ht:(upN c align).tmod align=0:=by rw[aAO (by omega)];exact u3
   have fin:∀ (a:Int) (b:Bool),(b=true->Fits l frm size align M a)->((b=true/\a=y)\/i+1<=m)->Hs (cnt (a,b,i+1):Option ((Int×Bool×Int)⊕(Int×Int))) (Rnd (λs:Int×Bool×Int=>-1<=s.2.2/\s.2.2<=l.length/\(s.2.1=true->Fits l frm size align M s.1)/\((s.2.1=true/\s.1=y)\/s.2.2<=m)) (λs=>((l.length:Int)-s.2.2).toNat) (best,found,i) λr=>r=(y,0)):=λa b g1 g2=>.cnt ⟨⟨by simp only;omega,by simp only;omega,g1,g2⟩,by simp only;omega⟩
   have bst:found=true->y<=best:=λh=>lst _ (h2 h)
   refine(Ape l (by omega) _).bind λb hb=>.cond (λhb'=>?_) λhb'=>?_
   ·have hG:Fits l frm size align M (upN c align):=⟨by omega,by omega,ht,hb.1 hb'⟩
    have hy1:=lst _ hG;have tk:(found=false\/upN c align<best)->upN c align=y\/i+1<=m:=λh=>by
     by_cases e:i=m
     ·exact .inl (hc e).symm
     ·rcases h3 with⟨h3,rfl⟩|h3
      ·rcases h with h|h
       ·rw[h3]at h;cases h
       ·omega
      ·exact .inr (by omega)
    have tk':(found=false\/upN c align<best)->((true=true/\upN c align=y)\/i+1<=m):=λh=>(tk h).imp (λh=>⟨rfl,h⟩) id
    refine .cond (λhfo=>fin _ _ (λ_=>hG) (tk' (.inl (by simpa using hfo)))) λhfo=>.dec (λhlt=>fin _ _ (λ_=>hG) (tk' (.inr hlt))) λhge=>fin _ _ h2 ?_
    have hft:found=true:=by simpa using hfo
    by_cases e:i=m
    ·have:=hc e;have:=bst hft;exact .inl ⟨hft,by omega⟩
    ·rcases h3 with h3|h3
     ·exact .inl h3
     ·exact .inr (by omega)
   ·refine fin _ _ h2 ?_;rcases h3 with h3|h3
    ·exact .inl h3
    ·refine .inr ?_
     by_cases e:i=m
     ·have:b=true:=hb.2 λu hu' ho=>by
       have h5:=hy.free u hu';rw[hc e]at h5;exact h5 ((Aly (hu u hu').1 (hp u hu') (by omega) hR).1 ho)
      rw[this]at hb';cases hb'
     ·omega
  refine .dec (λhlt=>.dec (λhge=>?_) λhge=>?_) λhge=>.lft ?_
  ·have hge:0<=i:=hge;have hlt:i<l.length:=hlt;have hin:i.toNat<l.length:=by omega
   have hx:l[i.toNat]? =some (l[i.toNat]'hin):=aAA _;have hxu:=hu _ (aAE hin);generalize(l[i.toNat]'hin)=x at hx hxu;obtain⟨x1,x2,x3,x4,x5⟩:=hxu.1;rw[QB _ hge,hx,aA,aA,wrap64 (by omega) (by omega)]
   refine j4 _ hlt (by unfold PF;split<;>omega) (by have:=hxu.2;unfold PF;split<;>omega) λe=>hmx _ (.inl ⟨by omega,x,by rw[<- e];exact hx,rfl⟩)
  ·have hge:¬ 0<=i:=hge;have hlt:i<l.length:=hlt;exact j4 _ hlt (by omega) (by omega) λe=>hmx _ (.inr ⟨by omega,rfl⟩)
  ·have hge:¬ i<(l.length:Int):=hge;rcases h3 with⟨rfl,rfl⟩|h
   ·simp only[aAR,cond_false];exact .pure rfl
   ·omega
 obtain⟨r,h,rfl⟩:=key;exact h
end Go.Proofs.YtilmapojncgflaaGreatDoor
namespace Go.Dw
section
variable {α:Type}
def gap (out:List α) (j:Nat) (e:α) (rest:List α):List α:=out.take j++e::(out.drop j++rest)
theorem AlP (out:List α) (j:Nat) (e:α) (rest:List α):(gap out j e rest).length=out.length+1+rest.length:=by
 unfold gap;have:=congrArg List.length (aAk j out);simp only[List.length_append,List.length_cons]at this ⊢;omega
theorem AnO (out:List α) (e:α) (rest:List α):gap out out.length e rest=out++e::rest:=by simp[gap]
theorem AnQ (out:List α) (j:Nat) (e:α) (rest:List α):gap out j e rest=gap out j e []++rest:=by simp[gap]
theorem AqK {out:List α} {j:Nat} (h:j<=out.length) (e:α) (rest:List α):(gap out j e rest)[j]? =some e:=by
 unfold gap;rw[List.getElem?_append_right (by simp;omega)]
 simp[Nat.min_eq_left h]
theorem AnP {out:List α} {m:Nat} {c:α} (h:out[m]? =some c) (e:α) (rest:List α):(gap out (m+1) e rest)[m]? =some c:=by
 have hl:=(aAC.1 h).1;unfold gap;rw[List.getElem?_append_left (by simp;omega),List.getElem?_take,if_pos (by omega),h]
theorem AnR {out:List α} {m:Nat} {c:α} (h:out[m]? =some c) (e:α) (rest:List α):((gap out (m+1) e rest).set (m+1) c).set m e=gap out m e rest:=by
 obtain⟨hl,rfl⟩:=aAC.1 h;have hlen1:(out.take m).length=m:=by simp;omega
 have e1:out.take (m+1)=out.take m++[out[m]]:=by rw[aAV,h];rfl
 have e2:out.drop m=out[m]::out.drop (m+1):=aAg hl;unfold gap;rw[e1,e2,List.append_assoc,aBA _ _ (by omega),hlen1,show m+1-m=1 by omega,aBA _ _ (by omega),hlen1,Nat.sub_self]
 rfl
def SK (bf:α->α->Bool) (out:List α) (e:α):Nat->Nat
 | 0=>0
 | k+1=>match out[k]? with|some c=>if bf e c=true then SK bf out e k else k+1|none=>k+1
theorem Agk {bf:α->α->Bool} {out:List α} {e c:α} {k:Nat} (h:out[k]? =some c) (hb:bf e c=true):SK bf out e (k+1)=SK bf out e k:=by simp[SK,h,hb]
theorem Aid {bf:α->α->Bool} {out:List α} {e c:α} {k:Nat} (h:out[k]? =some c) (hb:¬ bf e c=true):SK bf out e (k+1)=k+1:=by simp[SK,h,hb]
theorem Aov (bf:α->α->Bool) (out:List α) (e:α):∀ k,SK bf out e k<=k
 | 0=>aAL _
 | k+1=>by
  have:=Aov bf out e k;unfold SK;split
  ·split
   ·omega
   ·exact aAL _
  ·exact aAL _
def Xe (bf:α->α->Bool) (out:List α) (e:α):List α:=gap out (SK bf out e out.length) e []
theorem ArW (bf:α->α->Bool) (out:List α) (e:α):(Xe bf out e).length=out.length+1:=by unfold Xe;rw[AlP];simp
theorem ArX (bf:α->α->Bool) (out:List α) (e x:α):x∈Xe bf out e↔x=e\/x∈out:=by
 unfold Xe gap;have h:x∈out↔x∈out.take (SK bf out e out.length)\/x∈out.drop (SK bf out e out.length):=by
  rw[<- aAP,aAk]
 rw[h];simp only[aAP,aAa,aAz];constructor
 ·rintro(h|h|h)
  ·exact .inr (.inl h)
  ·exact .inl h
  ·exact .inr (.inr h)
 ·rintro(h|h|h)
  ·exact .inr (.inl h)
  ·exact .inl h
  ·exact .inr (.inr h)
def Qv (bf:α->α->Bool) (l:List α):List α:=l.foldl (Xe bf) []
theorem Aib (bf:α->α->Bool) (l:List α) (e:α):Qv bf (l++[e])=Xe bf (Qv bf l) e:=by unfold Qv;rw[aAS];rfl
theorem AgY (bf:α->α->Bool):∀ (l out:List α),(l.foldl (Xe bf) out).length=out.length+l.length
 | [],_=>rfl
 | a::l,out=>by
  show(l.foldl (Xe bf) (Xe bf out a)).length=_;rw[AgY bf l,ArW,List.length_cons];omega
theorem Zm (bf:α->α->Bool) (l:List α):(Qv bf l).length=l.length:=by unfold Qv;rw[AgY];simp
theorem AgZ (bf:α->α->Bool) (x:α):∀ (l out:List α),x∈l.foldl (Xe bf) out↔x∈l\/x∈out
 | [],_=>by simp
 | a::l,out=>by
  show x∈l.foldl (Xe bf) (Xe bf out a)↔_;rw[AgZ bf x l,ArX,aAa];constructor
  ·rintro(h|h|h)
   ·exact .inl (.inr h)
   ·exact .inl (.inl h)
   ·exact .inr h
  ·rintro((h|h)|h)
   ·exact .inr (.inl h)
   ·exact .inl h
   ·exact .inr (.inr h)
theorem Ajv (bf:α->α->Bool) (l:List α) (x:α):x∈Qv bf l↔x∈l:=by unfold Qv;rw[AgZ];simp
theorem AoN {bf:α->α->Bool} {key:α->Int} (hbf:∀ a b,bf a b=true↔key a<key b) {out:List α} (h:out.Pairwise λa b=>key a<=key b) (e:α):(Xe bf out e).Pairwise λa b=>key a<=key b:=by
 have hk:∀ k,k<=out.length->(∀ (j:Nat) c,k<=j->out[j]? =some c->key e<=key c)->(gap out (SK bf out e k) e []).Pairwise λa b=>key a<=key b:=by
  intro k
  induction k with
  | zero =>
   intro _ hall;show(List.take 0 out++e::(List.drop 0 out++[])).Pairwise _;simp only[List.take_zero,aAo,List.drop_zero,aAz];refine List.pairwise_cons.2 ⟨λc hc=>?_,h⟩
   obtain⟨j,hj⟩:=aAH hc;exact hall j c (aAD _) hj
  | succ k ih =>
   intro hk hall;have hg:out[k]? =some (out[k]'(by omega)):=aAA _
   generalize out[k]'(by omega)=c at hg
   by_cases hb:bf e c=true
   ·rw[Agk hg hb];refine ih (by omega) λj d hj hd=>?_
    by_cases ej:j=k
    ·subst ej;rw[hg]at hd;cases hd;have:=(hbf _ _).1 hb;omega
    ·exact hall j d (by omega) hd
   ·rw[Aid hg hb];have hc:key c<=key e:=by
     have:¬ key e<key c:=λh'=>hb ((hbf _ _).2 h')
     omega
    unfold gap;rw[aAz];refine List.pairwise_append.2 ⟨h.sublist (List.take_sublist _ _),List.pairwise_cons.2 ⟨λd hd=>?_,h.sublist (List.drop_sublist _ _)⟩,λa ha b hb'=>?_⟩
    ·obtain⟨j,hj⟩:=aAH hd;rw[List.getElem?_drop]at hj;exact hall _ d (by omega) hj
    ·obtain⟨i,hi⟩:=aAH ha;rw[List.getElem?_take]at hi;split at hi
     ·rename_i hik;have hac:key a<=key c:=by
       by_cases ei:i=k
       ·subst ei;rw[hg]at hi;cases hi;exact Int.le_refl _
       ·obtain⟨i1,i2⟩:=aAC.1 hi;obtain⟨k1,k2⟩:=aAC.1 hg;have:=aAT.1 h i k i1 k1 (by omega)
        rw[i2,k2]at this;exact this
      rcases aAa.1 hb' with rfl|hb'
      ·omega
      ·obtain⟨j,hj⟩:=aAH hb';rw[List.getElem?_drop]at hj;obtain⟨j1,j2⟩:=aAC.1 hj;obtain⟨k1,k2⟩:=aAC.1 hg;have:=aAT.1 h k (k+1+j) k1 j1 (by omega)
       rw[j2,k2]at this;omega
     ·cases hi
 exact hk out.length (aAL _) λj c hj hc=>by have:=(aAC.1 hc).1;omega
theorem AeC {bf:α->α->Bool} {key:α->Int} (hbf:∀ a b,bf a b=true↔key a<key b):∀ (l:List α) {out:List α},out.Pairwise (λa b=>key a<=key b)->(l.foldl (Xe bf) out).Pairwise λa b=>key a<=key b
 | [],_,h=>h
 | a::l,_,h=>AeC hbf l (AoN hbf h a)
theorem Ajw {bf:α->α->Bool} {key:α->Int} (hbf:∀ a b,bf a b=true↔key a<key b) (l:List α):(Qv bf l).Pairwise λa b=>key a<=key b:=AeC hbf l List.Pairwise.nil
end
end Go.Dw
namespace Go.Proofs.YtilmapojncgflaaGreatDoor
open Go Go.Dw Go.Proofs
def alI (s:List Pa) (i:Int):Int:=((s[i.toNat]?).map Pa.Align).getD 0
def szI (s:List Pa) (i:Int):Int:=((s[i.toNat]?).map Pa.Size).getD 0
theorem AjB {s:List Pa} {i:Int} {x:Pa} (h:s[i.toNat]? =some x):alI s i=x.Align/\szI s i=x.Size:=by simp[alI,szI,h]
def bfS (s:List Pa) (i c:Int):Bool:=decide (alI s c<alI s i\/alI s c=alI s i/\szI s c<szI s i)
def idI (n:Nat):List Int:=(aAW n).map λi:Nat=>(i:Int)
theorem AkF (n:Nat):idI (n+1)=idI n++[(n:Int)]:=by simp[idI,aAy]
theorem AeW (n:Nat):(idI n).length=n:=by simp[idI]
theorem Atv {n k:Nat} (h:k<n):(idI n)[k]? =some (k:Int):=by simp[idI,h]
theorem Alk (x y:Int):Tg x y=some (if x<y then -1 else if y<x then 1 else 0):=by
 unfold Tg Tt
 grind
theorem Aub (a b:Int):AbQ [a,b]=some (if a≠0 then a else b):=by
 have key:Hs (AbQ [a,b]) λr=>r=if a≠0 then a else b:=by
  refine Hs.loop (λi=>i=0\/(i=1/\a=0)\/(i=2/\a=0/\b=0)) (λi=>3-i.toNat) (.inl rfl) ?_
  rintro i (rfl|⟨rfl,ha⟩|⟨rfl,ha,hb⟩)
  ·refine .dec (λ_=>?_) λh=>(h (by simp)).elim
   refine .bne (λh=>.lft (.pure (show a=if a≠0 then a else b from by omega))) λh=>.cnt ⟨.inr (.inl ⟨rfl,h⟩),by decide⟩
  ·refine .dec (λ_=>?_) λh=>(h (by simp)).elim
   refine .bne (λh=>.lft (.pure (show b=if a≠0 then a else b from by omega))) λh=>.cnt ⟨.inr (.inr ⟨rfl,ha,h⟩),by decide⟩
  ·refine .dec (λh=>absurd h (by simp)) λ_=>.lft (.pure (show 0=if a≠0 then a else b from by omega))
 obtain⟨r,h,rfl⟩:=key;exact h
section
variable {s:List Pa}
theorem Aty {a b:Int} (ha0:0<=a) (ha1:a<s.length) (hb0:0<=b) (hb1:b<s.length):Hs (Tp a b s) λr=>(r<0↔bfS s a b=true):=by
 unfold Tp;have ga:s[a.toNat]? =some (s[a.toNat]'(by omega)):=aAA _
 have gb:s[b.toNat]? =some (s[b.toNat]'(by omega)):=aAA _
 generalize s[a.toNat]'(by omega)=x at ga
 generalize s[b.toNat]'(by omega)=y at gb
 obtain⟨a1,a2⟩:=AjB ga;obtain⟨b1,b2⟩:=AjB gb;simp only[QB _ ha0,QB _ hb0,ga,gb,aA,Alk,Aub];refine .pure ?_;unfold bfS
 grind
theorem Aql {a b:Int} {x y:Pa} (hx:s[a.toNat]? =some x) (hy:s[b.toNat]? =some y):Acx x y=some (bfS s a b):=by
 obtain⟨a1,a2⟩:=AjB hx;obtain⟨b1,b2⟩:=AjB hy;unfold Acx bfS
 grind
theorem Aic (bf:Int->Int->Bool) {n:Nat} {v:Int} (h:v∈Qv bf (idI n)):0<=v/\v<n:=by
 grind [Ajv,idI]
theorem Arm (hs:s.length<=1000):AdI s=some (Qv (bfS s) (idI s.length)):=by
 have key:Hs (AdI s) λout=>out=Qv (bfS s) (idI s.length):=by
  refine Hs.loop (λq=>∃ k:Nat,q.2=(k:Int)/\k<=s.length/\q.1=Qv (bfS s) (idI k)) (λq=>s.length-q.2.toNat) ⟨0,rfl,aAD _,rfl⟩ ?_
  rintro⟨out,_⟩ ⟨k,rfl,hk,ho⟩;replace ho:out=Qv (bfS s) (idI k):=ho;have hol:out.length=k:=by rw[ho,Zm,AeW]
  have hor:∀ v∈out,0<=v/\v<s.length:=λv hv=>by rw[ho]at hv;have:=Aic _ hv;omega
  dsimp only;refine .dec (λhlt=>?_) λhge=>.lft (.pure ?_)
  rotate_left
  ·have hkk:k=s.length:=by omega
   subst hkk;exact ho
  have hlt:k<s.length:=by omega
  have hsn:Qv (bfS s) (idI (k+1))=Xe (bfS s) out (k:Int):=by rw[AkF,Aib,ho]
  have gk:s[((k:Nat):Int).toNat]? =some (s[k]'hlt):=by simp_all
  have j3:∀ m:Nat,m=SK (bfS s) out (k:Int) out.length->Hs (UW out (k:Int) (m:Int)) (Rnd (λq:List Int×Int=>∃ k:Nat,q.2=(k:Int)/\k<=s.length/\q.1=Qv (bfS s) (idI k)) (λq=>s.length-q.2.toNat) (out,(k:Int)) (λout=>out=Qv (bfS s) (idI s.length))):=by
   intro m hm;have hml:m<=out.length:=by grind [Aov]
   unfold UW;refine .chk (by omega) (.chk (by simp;omega) (.chk (by simp;omega) (.chk (by omega) (.chk (by simp;omega) ?_))))
   unfold Adw;rw[OZ (by omega)]
   refine .cnt ⟨⟨k+1,rfl,hlt,?_⟩,by grind⟩
   grind [Xe,gap]
  refine Hs.loop (λm=>∃ j:Nat,m=(j:Int)/\j<=out.length/\SK (bfS s) out (k:Int) out.length=SK (bfS s) out (k:Int) j) (λm=>m.toNat) ⟨out.length,rfl,aAL _,rfl⟩ ?_
  rintro _ ⟨j,rfl,hj,hst⟩;refine .dec (λhp=>?_) λhp=>.lft (j3 j ?_)
  ·obtain⟨m,rfl⟩:∃ m:Nat,j=m+1:=⟨j-1,by omega⟩
   have hg:out[m]? =some (out[m]'(by omega)):=aAA _
   have hcr:=hor _ (aAE (show m<out.length by omega))
   generalize out[m]'(by omega)=c at hg hcr
   have gc:s[c.toNat]? =some (s[c.toNat]'(by omega)):=aAA _
   have ew:IntKind.i64.wrap ((((m+1:Nat):Int))-1)=(m:Int):=by grind [wrap64]
   rw[ew,QB _ (show(0:Int)<=(k:Int)by omega),gk,aA]
   refine .chk (by omega) ?_
   rw[aAB,hg,aA,QB _ hcr.1,gc,aA,Aql gk gc,aA];refine .cond (λhb=>.cnt ⟨⟨m,rfl,by omega,?_⟩,by simp_all⟩) λhb=>.lft (j3 (m+1) ?_)
   all_goals grind [Agk,Aid]
  ·have hj0:j=0:=by omega
   subst hj0;rw[hst];rfl
 obtain⟨r,h,rfl⟩:=key;exact h
theorem AqZ (hs:s.length<=19):YN s=some (Qv (bfS s) (idI s.length)):=by
 have key:Hs (YN s) λout=>out=Qv (bfS s) (idI s.length):=by
  refine Hs.loop (λq=>∃ k:Nat,q.2=(k:Int)/\k<=s.length/\q.1=idI k) (λq=>s.length-q.2.toNat) ⟨0,rfl,aAD _,rfl⟩ ?_
  rintro⟨_,_⟩ ⟨k,rfl,hk,rfl⟩;refine .dec (λhlt=>?_) λhge=>.lft ?_
  ·have hlt:k<s.length:=by omega
   refine .chk (by grind [AeW]) ?_
   rw[OZ (by omega)]
   exact .cnt ⟨⟨k+1,rfl,hlt,(AkF k).symm⟩,by grind⟩
  have hkk:k=s.length:=by omega
  subst hkk;have hll:=AeW s.length;refine Hs.loop (λq=>q=(idI s.length,(0:Int),(20:Int))) (λ_=>0) rfl ?_
  rintro _ rfl;dsimp only;refine .dec (λh=>by omega) λ_=>.lft ?_
  unfold Yy;have start:∃ i:Nat,1<=i/\((1:Nat):Int)=(i:Int)/\(i<=s.length\/s.length=0)/\idI s.length=Qv (bfS s) (idI (min i s.length))++(idI s.length).drop i:=by
   refine⟨1,aAL _,rfl,by omega,?_⟩
   cases h:s.length with
   | zero=>rfl
   | succ n =>
    rw[show min 1 (n+1)=1 by omega]
    have:idI 1=[0]:=rfl;rw[this];show _=[0]++(idI (n+1)).drop 1
    grind [idI,List.range_succ_eq_map]
  refine Hs.loop (λq=>∃ i:Nat,1<=i/\q.2=(i:Int)/\(i<=s.length\/s.length=0)/\q.1=Qv (bfS s) (idI (min i s.length))++(idI s.length).drop i) (λq=>s.length-q.2.toNat) start ?_
  rintro⟨x,_⟩ ⟨i,hi1,rfl,hi,hx⟩;replace hx:x=Qv (bfS s) (idI (min i s.length))++(idI s.length).drop i:=hx;unfold Yx;dsimp only;refine .dec (λhlt=>?_) λhge=>.lft ?_
  ·have hlt:i<s.length:=by omega
   rw[show min i s.length=i by omega]at hx
   obtain⟨out,ho⟩:∃ out,out=Qv (bfS s) (idI i):=⟨_,rfl⟩;have hol:out.length=i:=by rw[ho,Zm,AeW]
   have hor:∀ v∈out,0<=v/\v<s.length:=λv hv=>by rw[ho]at hv;have:=Aic _ hv;omega
   have hdr:(idI s.length).drop i=(i:Int)::(idI s.length).drop (i+1):=by
    rw[aAg (by omega)]
    congr 1;have:=Atv hlt;simp_all
   have hsn:Qv (bfS s) (idI (i+1))=Xe (bfS s) out (i:Int):=by rw[AkF,Aib,ho]
   rw[<- ho,hdr,<- AnO]at hx;have hrl:((idI s.length).drop (i+1)).length=s.length-(i+1):=by simp_all
   generalize(idI s.length).drop (i+1)=rest at hx hrl hdr;have fin:∀ m:Nat,m=SK (bfS s) out (i:Int) out.length->Hs (lft (Uj (i:Int) (gap out m (i:Int) rest)):Option ((List Int×Int)⊕((List Int×Int)⊕List Int))) (Rnd (λq:List Int×Int=>∃ j:Nat,q.2=(j:Int)/\j<=out.length/\q.1=gap out j (i:Int) rest/\SK (bfS s) out (i:Int) out.length=SK (bfS s) out (i:Int) j) (λq=>q.2.toNat) (gap out m (i:Int) rest,(m:Int)) (Rnd (λq:List Int×Int=>∃ i:Nat,1<=i/\q.2=(i:Int)/\(i<=s.length\/s.length=0)/\q.1=Qv (bfS s) (idI (min i s.length))++(idI s.length).drop i) (λq=>s.length-q.2.toNat) (x,(i:Int)) λout=>out=Qv (bfS s) (idI s.length))):=by
    intro m hm;unfold Uj;rw[OZ (by omega)]
    refine .lft (.cnt ⟨⟨i+1,by omega,rfl,.inl hlt,?_⟩,by grind⟩)
    show gap out m (i:Int) rest=_;rw[show min (i+1) s.length=i+1 by omega,hsn,AnQ,hm]
    unfold Xe;congr 1;have:=congrArg List.tail hdr
    grind [List.tail_drop]
   refine Hs.loop (λq=>∃ j:Nat,q.2=(j:Int)/\j<=out.length/\q.1=gap out j (i:Int) rest/\SK (bfS s) out (i:Int) out.length=SK (bfS s) out (i:Int) j) (λq=>q.2.toNat) ⟨out.length,by rw[hol],aAL _,hx,rfl⟩ ?_
   rintro⟨_,_⟩ ⟨j,rfl,hj,rfl,hst⟩;have hgl:=AlP out j (i:Int) rest;dsimp only;refine .dec (λhp=>?_) λhp=>fin j ?_
   ·obtain⟨m,rfl⟩:∃ m:Nat,j=m+1:=⟨j-1,by omega⟩
    have hg:out[m]? =some (out[m]'(by omega)):=aAA _
    have hcr:=hor _ (aAE (show m<out.length by omega))
    generalize out[m]'(by omega)=c at hg hcr
    have ew:IntKind.i64.wrap ((((m+1:Nat):Int))-1)=(m:Int):=by grind [wrap64]
    have g1:=AqK hj (i:Int) rest;have g2:=AnP hg (i:Int) rest;refine .chk (by omega) ?_
    rw[aAB,g1,aA,ew];refine .chk (by omega) ?_
    rw[aAB,g2,aA];refine(Aty (by omega) (by omega) hcr.1 hcr.2).bind λr hr=>.cond (λhb=>?_) λhb=>fin (m+1) ?_
    ·have hb:=hr.1 (of_decide_eq_true hb);unfold XC;rw[ew];refine .chk (by omega) ?_
     rw[aAB,g2,aA];refine .chk (by omega) ?_
     rw[aAB,g1,aA];refine .chk (by omega) ?_
     refine .chk (by grind) ?_
     rw[aAA (by grind),aA,AnR hg]
     exact .cnt ⟨⟨m,rfl,by omega,rfl,by grind [Agk]⟩,by simp_all⟩
    grind [Aid]
   ·have hj0:j=0:=by omega
    subst hj0;rw[hst];rfl
  ·have hxe:x=Qv (bfS s) (idI s.length):=by
    simp_all
   have hxl:x.length=s.length:=by grind [Zm]
   refine .chk (by omega) ?_
   refine Hs.loop (λb=>b=20) (λ_=>0) rfl ?_
   rintro _ rfl;refine .dec (λh=>by omega) λ_=>.lft ?_
   refine .chk (by omega) (.pure hxe)
 obtain⟨r,h,rfl⟩:=key;exact h
end
end Go.Proofs.YtilmapojncgflaaGreatDoor
namespace Go.Dw
open Go
theorem ArG (x k w:Nat) (hx:x<2 ^ w) (hk:k<=w):x &&& (2 ^ w-1-(2 ^ k-1))=x / 2 ^ k*2 ^ k:=by
 have hle:2 ^ k<=2 ^ w:=aAJ (by omega) hk
 have h0:0<2 ^ k:=aAb k;apply Nat.eq_of_testBit_eq;intro i;rw[Nat.testBit_and,Nat.testBit_mul_two_pow,Nat.testBit_div_two_pow];have e:2 ^ w-1-(2 ^ k-1)=2 ^ w-((2 ^ k-1)+1):=by omega
 rw[e,Nat.testBit_two_pow_sub_succ (by omega),Nat.testBit_two_pow_sub_one]
 by_cases h1:i<k
 ·simp[h1];intro h;omega
 ·by_cases h2:i<w
  ·simp[h1,h2,show k<=i by omega,show i-k+k=i by omega]
  ·have:x.testBit i=false:=Nat.testBit_lt_two_pow (Nat.lt_of_lt_of_le hx (aAJ (by omega) (by omega)))
   simp[h1,show k<=i by omega,show i-k+k=i by omega,this]
theorem AtM (x:Int) (k:Nat) (hk:k<=24) (h0:0<=x) (h1:x<4611686018427387904) :
  IntKind.i64.wrap (((aAX IntKind.i64.bits x &&& ~~~ aAX IntKind.i64.bits ((2 ^ k-1:Nat):Int)).toNat:Nat):Int)=x-x % ((2 ^ k:Nat):Int):=by
 obtain⟨n,rfl⟩:∃ n:Nat,x=(n:Int):=⟨x.toNat,by omega⟩
 have hp:2 ^ k<=2 ^ 24:=aAJ (by omega) hk
 have hp0:0<2 ^ k:=aAb k;have hn:n<2 ^ 64:=by omega
 have hb:IntKind.i64.bits=64:=rfl;rw[hb,aAv,BitVec.toNat_not];have e1:(aAX 64 (n:Int)).toNat=n:=by simp;omega
 have e2:(aAX 64 ((2 ^ k-1:Nat):Int)).toNat=2 ^ k-1:=by
  rw[aAq];generalize 2 ^ k=m at *;omega
 rw[e1,e2,ArG n k 64 hn (by omega)]
 have hm:=Nat.div_add_mod n (2 ^ k);have hq:n / 2 ^ k*2 ^ k=n-n % 2 ^ k:=by rw[Nat.mul_comm];omega
 have hl:n % 2 ^ k<=n:=Nat.mod_le _ _;have this:((n:Int) % ((2 ^ k:Nat):Int))=((n % 2 ^ k:Nat):Int):=(Int.natCast_emod n (2 ^ k)).symm;rw[this,hq];generalize n % 2 ^ k=r at *;clear hq hm this e1 e2 hp hp0;rw[wrap64 (by omega) (by omega)]
 omega
end Go.Dw
namespace Go.Proofs.YtilmapojncgflaaGreatDoor
open Go Go.Dw Go.Proofs
variable {m:List (List Bool)} {l g:List (List Int)} {i:Int} {s:List Pa} {w:Nat} {p:Pr} {f:Lo} {mv:OX->Int->Bool}
theorem AfP (n:Int):SC n=some (decide (0<=n/\n<=2147483647)):=by
 rw[<- YL];rfl
theorem Amo (a:OY):Xc a=some (decide (Ra a)):=by
 rw[<- Abn];unfold Xc UM;simp only[AfP,YL]
theorem Alo {m:Nat} (hm:m<=24):Rf ((2 ^ m:Nat):Int)=some true:=by
 have hp:2 ^ m<=2 ^ 24:=aAJ (by omega) hm
 have h0:0<2 ^ m:=aAb m;have hz:(2 ^ m) &&& (2 ^ m-1)=0:=by rw[Nat.and_two_pow_sub_one_eq_mod];exact Nat.mod_self _
 unfold Rf;generalize 2 ^ m=a at *;rw[decide_eq_true (show((a:Nat):Int)>=1 by omega),cond_true,decide_eq_true (show((a:Nat):Int)<=16777216 by omega),cond_true,wrap64 (n:=(a:Int)-1) (by omega) (by omega)]
 have hb:IntKind.i64.bits=64:=rfl;have e1:(aAX 64 (a:Int)).toNat=a:=by rw[aAq];omega
 have e2:(aAX 64 ((a:Int)-1)).toNat=a-1:=by rw[aAq];omega
 rw[hb,aAv,e1,e2,hz];rfl
theorem AoR {a u v:Int} (ha:0<a) (hu:u % a=0) (hv:v % a=0) (h1:u-v<a) (h2:v-u<a):u=v:=by
 obtain⟨p,rfl⟩:=aAZ hu;obtain⟨q,rfl⟩:=aAZ hv;have key:∀ x y:Int,x<y->a*x+a<=a*y:=λx y h=>by
  have:=aAU (show x+1<=y by omega) (show 0<=a by omega)
  rw[aB,Int.mul_one]at this;exact this
 rcases Int.lt_trichotomy p q with h|h|h
 ·have:=key p q h;omega
 ·rw[h]
 ·have:=key q p h;omega
theorem AlM {n a:Int} (h0:0<=n) (h1:n<=4000000000) (ha:Te a):YU n a=some (upN n a):=by
 obtain⟨a1,a2⟩:=ha.rng;obtain⟨m,hm,rfl⟩:=ha;obtain⟨p1,p2,p3⟩:=Sd (n:=n) (a:=((2 ^ m:Nat):Int)) (by omega)
 have h2:0<2 ^ m:=aAb m;unfold YU;have w1:IntKind.i64.wrap (n+((2 ^ m:Nat):Int))=n+((2 ^ m:Nat):Int):=wrap64 (by omega) (by omega)
 have w2:IntKind.i64.wrap (n+((2 ^ m:Nat):Int)-1)=n+((2 ^ m:Nat):Int)-1:=wrap64 (by omega) (by omega)
 have w3:IntKind.i64.wrap (((2 ^ m:Nat):Int)-1)=((2 ^ m-1:Nat):Int):=by rw[wrap64 (by omega) (by omega)];omega
 rw[w1,w2,w3,AtM _ m hm (by omega) (by omega)]
 have e1:=aAm (n+((2 ^ m:Nat):Int)-1) (show((2 ^ m:Nat):Int)≠0 by omega)
 have e2:=aAh (n+((2 ^ m:Nat):Int)-1) (show(0:Int)<((2 ^ m:Nat):Int)by omega)
 have key:n+((2 ^ m:Nat):Int)-1-(n+((2 ^ m:Nat):Int)-1) % ((2 ^ m:Nat):Int)=upN n ((2 ^ m:Nat):Int):=by
  refine AoR (a:=((2 ^ m:Nat):Int)) (by omega) ?_ p3 (by omega) (by omega)
  have:n+((2 ^ m:Nat):Int)-1-(n+((2 ^ m:Nat):Int)-1) % ((2 ^ m:Nat):Int)=((2 ^ m:Nat):Int)*((n+((2 ^ m:Nat):Int)-1) / ((2 ^ m:Nat):Int)):=by
   rw[aAt];omega
  rw[this];exact aAp _ _
 rw[key]
theorem AtV {n a:Int} (h0:0<=n) (h1:n<=1000000000) (ha:Te a):AdW n a=some (upN n a,0):=by
 have h2:=AlM h0 (by omega) ha
 obtain⟨a1,a2⟩:=ha.rng;obtain⟨p1,p2,p3⟩:=Sd (n:=n) (a:=a) (by omega)
 have hp:Rf a=some true:=by obtain⟨m,hm,rfl⟩:=ha;exact Alo hm
 unfold AdW;rw[AfP,aA,decide_eq_true (show 0<=n/\n<=2147483647 by omega)]
 simp only[aAR,cond_false,hp,aA];unfold Ace UO;rw[h2,aA,decide_eq_false (by omega),cond_false,aA]
theorem Atq {x y:Int} (hx:0<=x/\x<=1000000000) (hy:0<=y/\y<=1000000000):AbY x y=some (x+y,0):=by
 unfold AbY Aaz UO;simp only[AfP,aA];rw[decide_eq_true (show 0<=x/\x<=2147483647 by omega),decide_eq_true (show 0<=y/\y<=2147483647 by omega),wrap64 (by omega) (by omega),decide_eq_false (by omega)]
 rfl
theorem ArS {a:OY} {y size:Int} (ha:Ra a) (hp:0<a.Size) (hs:0<size) (h0: -4611686018427387904<=y/\y<=4611686018427387904) (h1:size<=2147483647):Aan a ⟨y,size⟩=some (decide (Aax a size y)):=by
 obtain⟨a1,a2,a3,a4,a5⟩:=ha;unfold Aan;dsimp only;rw[wrap64 (n:=a.Off+a.Size) (by omega) (by omega),wrap64 (n:=y+size) (by omega) (by omega)]
 congr 1;refine decide_eq_decide.2 ?_
 grind [Aax,PF,SO]
def bfO (a b:OY):Bool:=decide (a.Off<b.Off)
theorem Atu (a b:OY):Hs (YR a b) λr=>(r<0↔bfO a b=true):=by
 unfold YR;simp only[Alk,aA];refine .pure ?_;unfold bfO
 grind
theorem AoE {l:List OY} (hl:l.length<=1000) (h:∀ a∈l,Ra a):PJ l=some false:=by
 have key:Hs (Qd l) λr=>r= -1:=by
  refine Hs.loop (λi=>∃ k:Nat,i=(k:Int)/\k<=l.length) (λi=>l.length-i.toNat) ⟨0,rfl,aAD _⟩ ?_
  rintro _ ⟨k,rfl,hk⟩;refine .dec (λhlt=>?_) λ_=>.lft (.pure rfl)
  have hlt:k<l.length:=by omega
  rw[Pp,aAA hlt,aA];unfold AbZ;rw[Amo,aA,aA,decide_eq_true (h _ (aAE hlt)),OZ (by omega)]
  exact .cnt ⟨⟨k+1,rfl,hlt⟩,by grind⟩
 obtain⟨r,h1,rfl⟩:=key
 grind [PJ]
section
variable {l:List OY} {frm size align M:Int}
theorem AqH {x:List OY} (hx:∀ a∈x,Ra a/\a.Off+a.Size<=M) (hxp:∀ a∈x,0<a.Size) (hxl:x.length<=1000) (hM:M<=100000) (hf:0<=frm/\frm<=M) (hs:1<=size/\size<=16) (ha:Te align) (ha':align<=64) (y0:Int) (h0:0<=y0/\y0<=M+63) :
  Hs (Pe (λs=>AaA x size align s.1 s.2) (y0,0)) λr=>r=(x.foldl (swp size align) y0,0):=by
 have har:=ha.rng;refine Hs.loop (λs=>∃ k:Nat,s.2=(k:Int)/\k<=x.length/\s.1=(x.take k).foldl (swp size align) y0/\0<=s.1/\s.1<=M+63) (λs=>x.length-s.2.toNat) ⟨0,rfl,aAD _,rfl,h0.1,h0.2⟩ ?_
 rintro⟨y,_⟩ ⟨k,rfl,hk,hy,y1,y2⟩;replace hy:y=(x.take k).foldl (swp size align) y0:=hy;refine .dec (λhlt=>?_) λhge=>.lft ?_
 ·have hlt:k<x.length:=by omega
  have hg:x[k]? =some x[k]:=aAA _;have htk:x.take (k+1)=x.take k++[x[k]]:=by simp_all
  have hm:=aAE hlt;generalize x[k]=a at hg htk hm;obtain⟨⟨a1,a2,a3,a4,a5⟩,a6⟩:=hx a hm;obtain⟨u1,u2,_⟩:=Sd (n:=a.Off+a.Size) (a:=align) (by omega)
  have hst:(x.take (k+1)).foldl (swp size align) y0=swp size align y a:=by simp_all
  refine .chk (by omega) ?_
  rw[aAB,hg,aA,ArS ⟨a1,a2,a3,a4,a5⟩ (hxp a hm) (by omega) (by omega) (by omega),aA,OZ (by omega)]
  refine .dec (λh=>?_) λh=>.cnt ⟨⟨k+1,rfl,hlt,?_,y1,y2⟩,by grind⟩
  ·rw[wrap64 (by omega) (by omega),AlM (by omega) (by omega) ha,aA]
   refine .cnt ⟨⟨k+1,rfl,hlt,?_,by omega,by omega⟩,by grind⟩
   simp_all[swp]
  simp_all[swp]
 ·have hkk:k=x.length:=by omega
  subst hkk;rw[aAG]at hy;rw[wrap64 (by omega) (by omega),decide_eq_false (by omega),cond_false]
  exact .pure (show(y,(0:Int))=_ by rw[hy])
theorem Aqj {y:Int} (hl:l.length<=12) (hM:M<=100000) (hf:0<=frm/\frm<=M) (hs:1<=size/\size<=16) (ha:Te align) (ha':align<=64) (hu:∀ u∈l,Ra u/\u.Off+u.Size<=M) (hp:∀ u∈l,0<u.Size) (hy:RE l frm size align y) :
  XF l frm size align=some (y,0):=by
 have har:=ha.rng;have ep:Rf align=some true:=by obtain⟨m,hm,rfl⟩:=ha;exact Alo hm
 have key:Hs (XF l frm size align) λr=>r=(y,0):=by
  unfold XF;simp only[AfP,aA,ep];rw[decide_eq_true (p:=0<=frm/\frm<=2147483647) (by omega),decide_eq_true (p:=0<=size/\size<=2147483647) (by omega),AoE (by omega) λa h=>(hu a h).1]
  simp only[aAR,cond_false,aA];unfold AaC AnC XS AaF Afv;rw[PK (by omega),aA,PK ?_,aA,aA]
  rotate_left
  ·have:=Apr (l.length:Int);omega
  refine Hs.loop (λ_=>True) (λ_=>0) trivial ?_
  rintro _ -;unfold AaB;rw[wrap64 (by omega) (by omega)]
  refine .dec (λ_=>?_) λh=>by omega
  have start:∃ i:Nat,1<=i/\((1:Nat):Int)=(i:Int)/\(i<=l.length\/l.length=0)/\l=Qv bfO (l.take (min i l.length))++l.drop i:=by
   refine⟨1,aAL _,rfl,by omega,?_⟩
   cases l<;>grind [Qv,Xe,gap]
  refine Hs.loop (λq=>∃ i:Nat,1<=i/\q.2=(i:Int)/\(i<=l.length\/l.length=0)/\q.1=Qv bfO (l.take (min i l.length))++l.drop i) (λq=>l.length-q.2.toNat) start ?_
  rintro⟨x,_⟩ ⟨i,hi1,rfl,hi,hx⟩;replace hx:x=Qv bfO (l.take (min i l.length))++l.drop i:=hx;dsimp only;refine .dec (λhlt=>?_) λhge=>.lft ?_
  ·have hlt:i<l.length:=by omega
   rw[show min i l.length=i by omega]at hx
   obtain⟨out,ho⟩:∃ out,out=Qv bfO (l.take i):=⟨_,rfl⟩;have hol:out.length=i:=by grind [Zm]
   have hdr:l.drop i=l[i]::l.drop (i+1):=aAg hlt;have htk:l.take (i+1)=l.take i++[l[i]]:=by grind
   have hrl:(l.drop (i+1)).length=l.length-(i+1):=by simp
   generalize l[i]=e at hdr htk;have hsn:Qv bfO (l.take (i+1))=Xe bfO out e:=by grind [Aib]
   rw[<- ho,hdr,<- AnO]at hx;obtain⟨rest,hrest⟩:∃ rest,rest=l.drop (i+1):=⟨_,rfl⟩;rw[<- hrest]at hx hrl;have fin:∀ m:Nat,m=SK bfO out e out.length->Hs (lft (VC (i:Int) (gap out m e rest)):Option ((List OY×Int)⊕((List OY×Int)⊕(Unit⊕(Int×Int))))) (Rnd (λq:List OY×Int=>∃ j:Nat,q.2=(j:Int)/\j<=out.length/\q.1=gap out j e rest/\SK bfO out e out.length=SK bfO out e j) (λq=>q.2.toNat) (gap out m e rest,(m:Int)) (Rnd (λq:List OY×Int=>∃ i:Nat,1<=i/\q.2=(i:Int)/\(i<=l.length\/l.length=0)/\q.1=Qv bfO (l.take (min i l.length))++l.drop i) (λq=>l.length-q.2.toNat) (x,(i:Int)) (Rnd (λ_:Unit=>True) (λ_=>0) () λr=>r=(y,0)))):=by
    intro m hm;unfold VC;rw[OZ (by omega)]
    refine .lft (.cnt ⟨⟨i+1,by omega,rfl,.inl hlt,?_⟩,by grind⟩)
    rw[show min (i+1) l.length=i+1 by omega,hsn,AnQ,hm,<- hrest]
    rfl
   refine Hs.loop (λq=>∃ j:Nat,q.2=(j:Int)/\j<=out.length/\q.1=gap out j e rest/\SK bfO out e out.length=SK bfO out e j) (λq=>q.2.toNat) ⟨out.length,by rw[hol],aAL _,hx,rfl⟩ ?_
   rintro⟨_,_⟩ ⟨j,rfl,hj,rfl,hst⟩;have hgl:=AlP out j e rest;dsimp only;refine .dec (λhp=>?_) λhp=>fin j ?_
   ·obtain⟨m,rfl⟩:∃ m:Nat,j=m+1:=⟨j-1,by omega⟩
    have hg:out[m]? =some (out[m]'(by omega)):=aAA _
    generalize out[m]'(by omega)=c at hg
    have ew:IntKind.i64.wrap ((((m+1:Nat):Int))-1)=(m:Int):=by grind [wrap64]
    have g1:=AqK hj e rest;have g2:=AnP hg e rest;refine .chk (by omega) ?_
    rw[aAB,g1,aA,ew];refine .chk (by omega) ?_
    rw[aAB,g2,aA];refine(Atu e c).bind λr hr=>.cond (λhb=>?_) λhb=>fin (m+1) ?_
    ·have hb:=hr.1 (of_decide_eq_true hb);unfold AaD;rw[ew];refine .chk (by omega) ?_
     rw[aAB,g2,aA];refine .chk (by omega) ?_
     rw[aAB,g1,aA];refine .chk (by omega) ?_
     refine .chk (by grind) ?_
     rw[aAA (by grind),aA,AnR hg]
     exact .cnt ⟨⟨m,rfl,by omega,rfl,by grind [Agk]⟩,by simp_all⟩
    grind [Aid]
   ·have hj0:j=0:=by omega
    subst hj0;rw[hst];rfl
  ·have hxe:x=Qv bfO l:=by
    simp_all
   have hxl:x.length=l.length:=by rw[hxe,Zm]
   have hmem:∀ a,a∈x↔a∈l:=λa=>by rw[hxe,Ajv]
   have hso:AmX x:=by rw[hxe];exact Ajw (key:=OY.Off) (λa b=>by unfold bfO;grind) l
   obtain⟨u1,u2,_⟩:=Sd (n:=frm) (a:=align) (by omega)
   refine .lft ?_;refine .chk (by omega) ?_
   rw[AlM (by omega) (by omega) ha,aA]
   refine(AqH (frm:=frm) (λa h=>hu a ((hmem a).1 h)) (λa h=>hp a ((hmem a).1 h)) (by omega) hM hf hs ha ha' _ ⟨by omega,by omega⟩).mono λr hr=>?_
   subst hr;have:=(Akn (frm:=frm) (size:=size) (al:=align) (by omega) hso).Aoe hmem
   show(_,(0:Int))=_;rw[this.unique hy]
 obtain⟨r,h,rfl⟩:=key;exact h
theorem Asb (ha:Te align) (l:List OY) (frm size:Int):∃ y,RE l frm size align y:=by
 have har:=ha.rng;have hso:AmX (Qv bfO l):=Ajw (key:=OY.Off) (λa b=>by simp_all[bfO]) l
 exact⟨_,(Akn (frm:=frm) (size:=size) (al:=align) (by omega) hso).Aoe λa=>Ajv bfO l a⟩
end
open Go Go.Dw Go.Proofs
theorem Asu:∀ k:Fin 17,ZK ((k:Nat):Int)=TP ((k:Nat):Int)/\(TP ((k:Nat):Int)).isSome=true:=by decide +kernel
theorem AmB (n:Int):∃ b,ZK n=some b/\TP n=some b:=by
 by_cases h:1<=n/\n<=16
 ·have:=Asu ⟨n.toNat,by omega⟩
  grind [Option.isSome_iff_exists]
 ·refine⟨false,?_,?_⟩
  ·grind [ZK]
  ·unfold TP;have e1:(n==1)=false:=by simp;omega
   have e2:(n==2)=false:=by simp;omega
   have e3:(n==4)=false:=by simp;omega
   have e4:(n==8)=false:=by simp;omega
   have e5:(n==16)=false:=by simp;omega
   grind
def Pw (n:Int):Prop:=∃ i:Nat,i<=24/\n=(2 ^ i:Nat)
theorem Aju (n:Int) (j:Nat) (hj:j<=24):Sj n ((2 ^ j:Nat):Int)=if n=(2 ^ j:Nat)then some (.inr true)else some (.inl ((2 ^ (j+1):Nat):Int)):=by
 have h1:2 ^ j<=2 ^ 24:=aAJ (by decide) hj
 have h2:(2 ^ j:Nat)<=16777216:=by omega
 have w:IntKind.i64.wrap (((2 ^ j:Nat):Int)*2)=((2 ^ (j+1):Nat):Int):=by
  grind [wrap64]
 unfold Sj;have hd:decide (((2 ^ j:Nat):Int)<=16777216)=true:=by grind
 simp_all
theorem Arn (n:Int):∀ (d j:Nat),j+d<=24->n=(2 ^ (j+d):Nat)->Pe (λs=>Sj n s) ((2 ^ j:Nat):Int)=some true:=by
 intro d
 induction d with
 | zero =>
  intro j hj hn;rw[YI];rw[Aju n j (by omega),if_pos (by omega)]
 | succ d ih =>
  intro j hj hn;rw[YI];rw[Aju n j (by omega),if_neg]
  ·grind
  ·have:2 ^ j<2 ^ (j+(d+1)):=Nat.pow_lt_pow_right (by decide) (by omega)
   omega
theorem AlD (n:Int) (h:¬ Pw n):∀ (d j:Nat),j+d=25->Pe (λs=>Sj n s) ((2 ^ j:Nat):Int)=some false:=by
 intro d
 induction d with
 | zero =>
  simp_all[YI,Sj]
 | succ d ih =>
  intro j hj;rw[YI];rw[Aju n j (by omega),if_neg (λe=>h ⟨j,by omega,e⟩)]
  grind
theorem AtC {i:Nat} (h:2 ^ i<=16777216):i<=24:=by
 by_cases hi:i<=24
 ·exact hi
 ·have:2 ^ 25<=2 ^ i:=aAJ (by decide) (by omega)
  omega
theorem Alz (n:Int):∃ b,Rf n=some b/\Rh n=some b:=by
 have hr:Rh n=Pe (λs=>Sj n s) ((2 ^ 0:Nat):Int):=rfl
 by_cases h:1<=n/\n<=16777216
 ·obtain⟨m,rfl⟩:∃ m:Nat,n=m:=⟨n.toNat,by omega⟩
  have e1:Rf (m:Int)=some (decide (m &&& (m-1)=0)):=by
   unfold Rf;have h1:((m:Int)>=1):=h.1;have h2:((m:Int)<=16777216):=h.2;have w:IntKind.i64.wrap ((m:Int)-1)=((m-1:Nat):Int):=by grind [wrap64]
   have t1:(aAX IntKind.i64.bits (m:Int)).toNat=m:=by
    show(aAX 64 (m:Int)).toNat=m
    grind
   have t2:(aAX IntKind.i64.bits ((m-1:Nat):Int)).toNat=m-1:=by
    grind
   have hle:m &&& (m-1)<=m:=Nat.and_le_left;have w2:IntKind.i64.wrap ((m &&& (m-1):Nat):Int)=((m &&& (m-1):Nat):Int):=wrap64 (by omega) (by omega)
   rw[decide_eq_true h1,cond_true,decide_eq_true h2,cond_true,w,aAv,t1,t2,w2];congr 1
   grind
  by_cases hp:m &&& (m-1)=0
  ·obtain⟨i,hi⟩:=(aAf (show m≠0 by omega)).1 hp
   refine⟨true,by simp_all,?_⟩
   exact Arn _ i 0 (by have:=AtC (i:=i) (by omega);omega) (by simp_all)
  ·refine⟨false,by simp_all,?_⟩
   refine AlD _ (λ⟨i,_,hi⟩=>hp ?_) 25 0 (by omega)
   exact(aAf (show m≠0 by omega)).2 ⟨i,by omega⟩
 ·refine⟨false,?_,?_⟩
  ·grind [Rf]
  ·rw[hr];refine AlD _ (λ⟨i,hi24,hi⟩=>h ?_) 25 0 (by omega)
   have h1:2 ^ i<=2 ^ 24:=aAJ (by decide) hi24
   grind
noncomputable def AaL (x:Pa):Bool:=(TP x.Size).getD false&&(Rh x.Align).getD false
theorem AqE (x:Pa):Xa x=some (!AaL x):=by
 obtain⟨a,a1,a2⟩:=AmB x.Size;obtain⟨b,b1,b2⟩:=Alz x.Align
 grind [Xa,AaL]
def AiE (s:List Pa) (e:Int):Prop:=(512<s.length/\e=3)\/(s.length<=512/\(∀ x∈s,AaL x=true)/\e=0)\/(s.length<=512/\(∃ x∈s,AaL x=false)/\e=5)
theorem AiE.one {a b:Int} (h:AiE s a) (k:AiE s b):a=b:=by
 rcases h with⟨h1,h2⟩|⟨h1,h2,h3⟩|⟨h1,⟨x,h2,h3⟩,h4⟩<;>rcases k with⟨k1,k2⟩|⟨k1,k2,k3⟩|⟨k1,⟨y,k2,k3⟩,k4⟩<;>first
  | omega
  | (simp_all)
  | simp_all
theorem AnL (s:List Pa):Hs (WZ s) (AiE s):=by
 refine .dec (λh=>.pure (.inl ⟨by omega,rfl⟩)) λh=>?_
 have hl:s.length<=512:=by omega
 have key:Hs (Pe (λst=>Qm s st) 0) λr=>(r= -1/\∀ x∈s,AaL x=true)\/(0<=r/\∃ x∈s,AaL x=false):=by
  refine Hs.loop (λi=>0<=i/\i<=s.length/\∀ (j:Nat) x,(j:Int)<i->s[j]? =some x->AaL x=true) (λi=>s.length-i.toNat) ⟨by omega,by omega,λj x h=>by omega⟩ ?_
  rintro i ⟨h0,h1,h2⟩;refine .dec (λhlt=>?_) λhlt=>?_
  ·refine(Hs.ix h0 hlt λx hx=>hx).bind λx hx=>?_
   rw[AqE,aA];refine .cond (λhb=>.lft (.pure (.inr ⟨h0,x,aAF hx,by simp_all⟩))) λhb=>?_
   have w:IntKind.i64.wrap (i+1)=i+1:=wrap64 (by omega) (by omega)
   rw[w];refine .cnt ⟨⟨by omega,by omega,λj y hj hy=>?_⟩,by grind⟩
   grind
  ·refine .lft (.pure (.inl ⟨rfl,λx hx=>?_⟩))
   grind [aBB]
 refine Hs.bind (P:=λb=>(b=false/\∀ x∈s,AaL x=true)\/(b=true/\∃ x∈s,AaL x=false)) (key.bind λr hr=>.pure ?_) λb hb=>?_
 ·grind
 ·rcases hb with⟨rfl,h⟩|⟨rfl,h⟩
  ·exact .pure (.inr (.inl ⟨hl,h,rfl⟩))
  ·exact .pure (.inr (.inr ⟨hl,h,rfl⟩))
theorem Arh (s:List Pa):Hs (Tc s) (AiE s):=by
 refine .dec (λh=>.pure (.inl ⟨by omega,rfl⟩)) λh=>?_
 have hl:s.length<=512:=by omega
 refine Hs.loop (λi=>0<=i/\i<=s.length/\∀ (j:Nat) x,(j:Int)<i->s[j]? =some x->AaL x=true) (λi=>s.length-i.toNat) ⟨by omega,by omega,λj x h=>by omega⟩ ?_
 rintro i ⟨h0,h1,h2⟩;refine .dec (λhlt=>?_) λhlt=>?_
 ·refine(Hs.ix h0 hlt λx hx=>hx).bind λx hx=>?_
  obtain⟨a,a1,a2⟩:=AmB x.Size;obtain⟨b,b1,b2⟩:=Alz x.Align;have hg:AaL x=(a&&b):=by grind [AaL]
  rw[a2,aA];have hx':ixO s i=some x:=by grind [QB]
  cases a
  ·exact .lft (.pure (.inr (.inr ⟨hl,⟨x,aAF hx,hg⟩,rfl⟩)))
  ·rw[hx',aA,b2,aA];cases b
   ·exact .lft (.pure (.inr (.inr ⟨hl,⟨x,aAF hx,hg⟩,rfl⟩)))
   ·simp only[aAR,cond_false];have w:IntKind.i64.wrap (i+1)=i+1:=wrap64 (by omega) (by omega)
    rw[w];refine .cnt ⟨⟨by omega,by omega,λj y hj hy=>?_⟩,by grind⟩
    grind
 ·refine .lft (.pure (.inr (.inl ⟨hl,λx hx=>?_,rfl⟩)))
  grind [aBB]
theorem AlF (s:List Pa):∃ e,WZ s=some e/\Tc s=some e/\(e=0->s.length<=512):=by
 obtain⟨a,a1,a2⟩:=AnL s;obtain⟨b,b1,b2⟩:=Arh s;obtain rfl:=a2.one b2;exact⟨a,a1,b1,λh=>by rcases a2 with h1|h1|h1<;>omega⟩
attribute [local simp] PK aAj
theorem contains_eq (s:List Int) (v:Int) (hs:s.length<=9223372036854775807):Rs s v=some (decide (v∈s)):=by
 simp[Rs,AnV s v hs,Akd]
theorem Apj (x y:Int):YM x y=some (decide (x<y)):=by simp[YM,Tt]
theorem Ars (s:List Int) (t:Int) (hp:s.Pairwise (· <·)) (hs:s.length<=1000000):∃ i,Rq s t=some (i,decide (t∈s)):=by
 unfold Rq;have key:=AdN (body:=λs_1:Int×Int=>PL s t s_1.1 s_1.2) (s:=(0,(s.length:Int)))
  (λst=>∃ i j:Nat,st=((i:Int),(j:Int))/\i<=j/\j<=s.length/\(∀ (k:Nat) x,k<i->s[k]? =some x->x<t)/\∀ (k:Nat) x,j<=k->s[k]? =some x->t<=x)
  (λr=>r.2=decide (t∈s)) (λst=>(st.2-st.1).toNat) ⟨0,s.length,rfl,aAD _,aAL _,λk x hk=>absurd hk (aAK _),λk x hk hx=>by
   have:=(aAC.1 hx).1
   omega⟩ (λst hI=>by
   obtain⟨i,j,rfl,hij,hj,h1,h2⟩:=hI
   by_cases hlt:i<j
   ·left;have hm:=AtZ (a:=(i:Int)+j) (by omega) (by omega)
    have hmid:((i:Int)+j) / 2=(((i+j) / 2:Nat):Int):=by omega
    rw[hmid]at hm;have hm1:i<=(i+j) / 2:=by omega
    have hm2:(i+j) / 2<j:=by omega
    clear hmid;generalize(i+j) / 2=m at *;have hml:m<s.length:=by omega
    have w:=OZ (show m<9223372036854775807 by omega)
    by_cases hx:s[m]<t
    ·refine⟨(((m+1:Nat):Int),(j:Int)),?_,⟨m+1,j,rfl,by omega,hj,λk x hk hkx=>?_,h2⟩,by simp only;omega⟩
     ·simp only[PL,hm];simp[hlt,hml,Apj,hx,w]
     ·by_cases hk':k=m
      ·subst hk';rw[aAA hml]at hkx;cases hkx;exact hx
      ·obtain⟨hkl,rfl⟩:=aAC.1 hkx;have:=aAT.1 hp k (m) hkl hml (by omega)
       omega
    ·refine⟨((i:Int),(m:Int)),?_,⟨i,m,rfl,by omega,by omega,h1,λk x hk hkx=>?_⟩,by simp only;omega⟩
     ·simp only[PL,hm];simp[hlt,hml,Apj,hx]
     ·obtain⟨hkl,rfl⟩:=aAC.1 hkx
      by_cases hk':k=m
      ·subst hk';omega
      ·have:=aAT.1 hp (m) k hml hkl (by omega)
       omega
   ·right;have e:i=j:=by omega
    subst e;have hmem:t∈s↔s[i]? =some t:=by
     constructor
     ·intro ht;obtain⟨k,hk⟩:=aAH ht;rcases Nat.lt_trichotomy k i with h|h|h
      ·have:=h1 k t h hk;omega
      ·subst h;exact hk
      ·obtain⟨hkl,hkt⟩:=aAC.1 hk;have h3:=h2 i s[i] (aAL _) (aAA (by omega))
       have:=aAT.1 hp i k (by omega) hkl h
       omega
     ·exact aAF
    by_cases hil:i<s.length
    ·by_cases hx:s[i]=t
     ·have ht:t∈s:=hmem.2 (by rw[aAA hil,hx])
      exact⟨((i:Int),true),by simp[PL,Qs,hil,hx],by simp[ht]⟩
     ·have ht:¬ t∈s:=λh=>by
       have:=hmem.1 h;rw[aAA hil]at this;exact hx (Option.some.inj this)
      exact⟨((i:Int),false),by simp[PL,Qs,Vi,hil,hx],by simp[ht]⟩
    ·have ht:¬ t∈s:=λh=>by
      have:=hmem.1 h;exact hil (aAC.1 this).1
     exact⟨((i:Int),false),by simp[PL,Qs,hil],by simp[ht]⟩)
 obtain⟨⟨i,b⟩,h1,h2⟩:=key;simp only at h2;exact⟨i,by rw[h1,h2]⟩
section
variable {g:List (List Int)} {n:Int}
theorem Aul (hn:(g.length:Int)=n) (hg:g.length<=1000) (hr:∀ (x:Nat) s,g[x]? =some s->AeJ n x s) {x:Nat} {row:List Int} (hx:g[x]? =some row) :
  ∃ r,Pe (λs=>Rp row g (x:Int) s) 0=some r/\((∀ y∈row,(x:Int)∈rowAt g y)/\r= .inl ((x+1:Nat):Int)\/(¬ ∀ y∈row,(x:Int)∈rowAt g y)/\r= .inr false):=by
 have hrow:=hr x row hx;have hxl:=(aAC.1 hx).1;have hlen:=hrow.1.length_le;have wx:=OZ (show x<9223372036854775807 by omega)
 open Classical in
 have:=QT (body:=λs=>Rp row g (x:Int) s) row (λ(_:Unit) i=>i) (λ_ _=>True) (λ_ l=>some (if ∀ y∈l,(x:Int)∈rowAt g y then(.inl ((x+1:Nat):Int):Int⊕Bool)else .inr false))
  (λ_ _=>⟨.inl ((x+1:Nat):Int),by simp[Rp,wx],by simp⟩) (λ_ i y r _ hd hi hy=>by
   have hym:y∈row:=aAF hy;have h0:=hrow.1.2 y hym;have h1:=hrow.2.1 y hym;have hyl:y.toNat<g.length:=by omega
   have hgy:g[y.toNat]? =some g[y.toNat]:=aAA hyl;have hs:=hr _ _ hgy;obtain⟨q,hq⟩:=Ars g[y.toNat] (x:Int) hs.1.1 (by have:=hs.1.length_le;omega)
   have w:=OZ (show i<9223372036854775807 by omega)
   have hra:rowAt g y=g[y.toNat]:=by simp[rowAt,hgy]
   by_cases hin:(x:Int)∈g[y.toNat]
   ·refine .inl ⟨(),trivial,?_,?_⟩
    ·obtain⟨_,rfl⟩:=aAC.1 hy;simp[Rp,hi,QB _ h0.1,hgy,hq,hin,w]
    ·simp[hra,hin]
   ·refine .inr ⟨.inr false,?_,?_⟩
    ·obtain⟨_,rfl⟩:=aAC.1 hy;simp[Rp,hi,QB _ h0.1,hgy,hq,hin]
    ·simp[hra,hin]) () trivial
 refine⟨_,this,?_⟩
 by_cases h:∀ y∈row,(x:Int)∈rowAt g y
 ·exact .inl ⟨h,if_pos h⟩
 ·exact .inr ⟨h,if_neg h⟩
theorem Auk (hn:(g.length:Int)=n) (hg:g.length<=1000) (hr:∀ (x:Nat) s,g[x]? =some s->AeJ n x s):∃ b,Pe (λs=>Ro g s) 0=some b/\(b=true↔Sg g n):=by
 have key:=AdN (body:=λs=>Ro g s) (s:=0) (λs=>∃ x:Nat,s=(x:Int)/\x<=g.length/\∀ (k:Nat) s,k<x->g[k]? =some s->∀ y∈s,(k:Int)∈rowAt g y)
  (λb=>b=true↔Sg g n) (λs=>g.length-s.toNat) ⟨0,rfl,aAD _,λk s hk=>absurd hk (aAK _)⟩ (λs hI=>by
   obtain⟨x,rfl,hx,hall⟩:=hI
   by_cases hlt:x<g.length
   ·have hgx:g[x]? =some g[x]:=aAA hlt;obtain⟨r,h1,⟨h2,rfl⟩|⟨h2,rfl⟩⟩:=Aul hn hg hr hgx
    ·refine .inl ⟨((x+1:Nat):Int),?_,⟨x+1,rfl,hlt,λk s hk hks=>?_⟩,by omega⟩
     ·simp[Ro,hlt,h1]
     ·by_cases hkx:k=x
      ·subst hkx;rw[hgx]at hks;cases hks;exact h2
      ·exact hall k s (by omega) hks
    ·refine .inr ⟨false,by simp[Ro,hlt,h1],?_⟩
     constructor
     ·intro h;cases h
     ·intro h;exact(h2 (h.2.2 x _ hgx)).elim
   ·refine .inr ⟨true,by simp[Ro,hlt],?_⟩
    constructor
    ·intro _;exact⟨hn,hr,λk s hks=>hall k s (by have:=(aAC.1 hks).1;omega) hks⟩
    ·intro _;rfl)
 exact key
theorem Atw {s:List Int} (h:PQ s) (hs:0<s.length):(∀ y∈s,y<n)↔s[s.length-1]<n:=by
 constructor
 ·intro h1;exact h1 _ (aAE _)
 ·intro h1 y hy;obtain⟨k,hk⟩:=aAH hy;obtain⟨hkl,rfl⟩:=aAC.1 hk
  by_cases e:k=s.length-1
  ·subst e;exact h1
  ·have:=aAT.1 h.1 k (s.length-1) hkl (by omega) (by omega)
   omega
theorem AqN (hg:g.length<=1000) (hq:∀ s∈g,s.length<=9223372036854775807):∃ b,VN g n=some b/\(b=true↔Sg g n):=by
 unfold VN
 by_cases hn:(g.length:Int)=n
 ·simp only[hn,bne_self_eq_false,cond_false];refine AdN (body:=λs=>PU g n s) (s:=0) (λs=>∃ x:Nat,s=(x:Int)/\x<=g.length/\∀ (k:Nat) s,k<x->g[k]? =some s->AeJ n k s)
   (λb=>b=true↔Sg g n) (λs=>g.length-s.toNat) ⟨0,rfl,aAD _,λk s hk=>absurd hk (aAK _)⟩ (λs hI=>?_)
  obtain⟨x,rfl,hx,hall⟩:=hI
  by_cases hlt:x<g.length
  ·have hgx:g[x]? =some g[x]:=aAA hlt;have hl:=hq _ (aAE hlt);have w:=OZ (show x<9223372036854775807 by omega)
   have bad:¬ AeJ n x g[x]->PU g n x=some (.inr false)->(∃ r,PU g n x=some (.inr r)/\(r=true↔Sg g n)):=λh1 h2=>⟨false,h2,λh=>(by cases h),λh=>(h1 (h.2.1 x _ hgx)).elim⟩
   have good:AeJ n x g[x]->PU g n x=some (.inl ((x+1:Nat):Int))->(∃ s',PU g n x=some (.inl s')/\(∃ x:Nat,s'=(x:Int)/\x<=g.length/\∀ (k:Nat) s,k<x->g[k]? =some s->AeJ n k s)/\g.length-s'.toNat<g.length-((x:Int)).toNat) :=
    λh1 h2=>⟨_,h2,⟨x+1,rfl,hlt,λk s hk hks=>by
     by_cases hkx:k=x
     ·subst hkx;rw[hgx]at hks;cases hks;exact h1
     ·exact hall k s (by omega) hks⟩,by omega⟩
   by_cases hset:PQ g[x]
   ·have hb:SX none g[x]=true:=(Abq _).2 hset
    by_cases h0:0<g[x].length
    ·have wl:IntKind.i64.wrap ((g[x].length:Int)-1)=((g[x].length-1:Nat):Int):=by rw[wrap64 (by omega) (by omega)];omega
     have hlast:g[x][g[x].length-1]? =some (g[x][g[x].length-1]'(by omega)):=aAA _
     by_cases hm:g[x][g[x].length-1]'(by omega)<n
     ·have hall':=(Atw (n:=n) hset h0).2 hm
      by_cases hc:(x:Int)∈g[x]
      ·exact .inr (bad (λh=>h.2.2 hc) (by simp[PU,hlt,Abr _ hl,hb,h0,wl,hlast,show ¬ n<=g[x][g[x].length-1]'(by omega)by omega,contains_eq _ _ hl,hc]))
      ·exact .inl (good ⟨hset,hall',hc⟩ (by simp[PU,hlt,Abr _ hl,hb,h0,wl,hlast,show ¬ n<=g[x][g[x].length-1]'(by omega)by omega,contains_eq _ _ hl,hc,w]))
     ·exact .inr (bad (λh=>hm (h.2.1 _ (aAE _))) (by simp[PU,hlt,Abr _ hl,hb,h0,wl,hlast,show n<=g[x][g[x].length-1]'(by omega)by omega]))
    ·have hnil:g[x]=[]:=List.eq_nil_of_length_eq_zero (by omega)
     exact .inl (good (by rw[hnil];exact⟨PQ.nil,λy hy=>(by cases hy),by simp⟩) (by simp[PU,hlt,hnil,Abr [] (by simp),SX,contains_eq [] _ (by simp),w]))
   ·have hb:SX none g[x]=false:=by
     cases h:SX none g[x]
     ·rfl
     ·exact(hset ((Abq _).1 h)).elim
    exact .inr (bad (λh=>hset h.1) (by simp[PU,hlt,Abr _ hl,hb]))
  ·right;obtain⟨b,h1,h2⟩:=Auk hn hg (λk s hks=>hall k s (by have:=(aAC.1 hks).1;omega) hks)
   exact⟨b,by simp[PU,hlt,h1],h2⟩
 ·refine⟨false,by simp[hn],?_⟩
  constructor
  ·intro h;cases h
  ·intro h;exact(hn h.1).elim
end
open Go Go.Dw Go.Proofs
def AjA (s:List Pa) (g:List (List Int)) (done:List Bool) (off:List Int) (w:Nat) (l:List OY):Prop:=∀ u,u∈l↔∃ y:Nat,done[y]? =some true/\(y:Int)∈rowAt g w/\u=ivN s off y
open Classical in
noncomputable def Aja (s:List Pa) (g:List (List Int)) (frm:Int) (done:List Bool) (off:List Int) (w:Nat):Int :=
 if h:∃ y l,AjA s g done off w l/\RE l frm (szN s w) (alN s w) y then aBJ h else 0
theorem Amv {frm:Int} {done:List Bool} {off:List Int} {l:List OY} {y:Int} (hl:AjA s g done off w l) (hy:RE l frm (szN s w) (alN s w) y):Aja s g frm done off w=y:=by
 unfold Aja;have h:∃ y l,AjA s g done off w l/\RE l frm (szN s w) (alN s w) y:=⟨y,l,hl,hy⟩;rw[dif_pos h];obtain⟨l',h1,h2⟩:=aBC h;exact(h2.Aoe λa=>(h1 a).trans (hl a).symm).unique hy
noncomputable def AlG (s:List Pa) (g:List (List Int)) (frm:Int) (q:List Bool×List Int) (v:Int):List Bool×List Int:=(q.1.set v.toNat true,q.2.set v.toNat (Aja s g frm q.1 q.2 v.toNat))
noncomputable def Ahr (s:List Pa) (g:List (List Int)) (frm:Int) (ord:List Int):List Bool×List Int:=ord.foldl (AlG s g frm) (aAI s.length false,aAI s.length 0)
theorem Amk {frm:Int} {ord:List Int} {k:Nat} {v:Int} (h:ord[k]? =some v):Ahr s g frm (ord.take (k+1))=AlG s g frm (Ahr s g frm (ord.take k)) v:=by
 grind [aAV,Ahr]
section
variable {s:List Pa} {g:List (List Int)} {frm:Int} {ord:List Int} {k:Nat} {done:List Bool} {off:List Int}
theorem AnN (hs:WI s) (hg:Sg g s.length) (hf:0<=frm/\frm<=1000) (hI:Asg s g frm ord k done off) (hk:k<=7) (hov:ord[k]? =some (w:Int)) {x:Pa} (hsw:s[w]? =some x) {l:List OY} (hl:l.length<=12) (hu:AjA s g done off w l) :
  ∃ y,Aja s g frm done off w=y/\Zi l frm x.Size x.Align=some (y,0)/\XF l frm x.Size x.Align=some (y,0)/\Asg s g frm ord (k+1) (done.set w true) (off.set w y):=by
 obtain⟨dl,fl,pl,ap,cov⟩:=id hI;obtain⟨a1,a2,a3,a4⟩:=hs.2 _ (aAF hsw);have har:=a1.rng;have hR:∀ u∈l,(Ra u/\u.Off+u.Size<=frm+80*(k:Int))/\0<u.Size:=λu hu'=>by
  obtain⟨y,hy,_,rfl⟩:=(hu u).1 hu';obtain⟨p1,p2,_⟩:=pl y hy;have hyl:y<s.length:=by grind
  have hsy:s[y]? =some s[y]:=aAA _;obtain⟨_,_,b3,b4⟩:=hs.2 _ (aAE hyl);rw[<- (VF hsy).1]at b3 b4;refine⟨⟨⟨?_,?_,?_,?_,?_⟩,p2⟩,?_⟩<;>simp only[ivN]<;>omega
 obtain⟨y,hy⟩:=Asb a1 l frm x.Size;obtain⟨z1,z2⟩:=VF hsw;have e1:=AqG (M:=frm+80*(k:Int)) (by omega) (by omega) (by omega) ⟨a3,a4⟩ a1 a2 (λu h=>(hR u h).1) (λu h=>(hR u h).2) hy
 have e2:=Aqj (M:=frm+80*(k:Int)) hl (by omega) (by omega) ⟨a3,a4⟩ a1 a2 (λu h=>(hR u h).1) (λu h=>(hR u h).2) hy
 have hle:y<=frm+80*(k:Int)+63:=by
  rcases hy.AtU (by omega)with h|⟨a,ha,h⟩
  ·have:=Sd (n:=frm) (a:=x.Align) (by omega);omega
  ·have:=Sd (n:=max frm (a.Off+a.Size)) (a:=x.Align) (by omega)
   grind
 have hge:=hy.ge;refine⟨y,Amv hu (by simp_all),e1,e2,hI.step hg hov hsw hge (by omega) (by rw[aAO (by omega)];exact hy.al0) λz h1 h2 ho=>?_⟩
 exact hy.free _ ((hu _).2 ⟨z,h1,h2,rfl⟩) ⟨ho.2.2.2.2.1,ho.2.2.2.2.2⟩
theorem Anp:Asg s g frm ord 0 (aAI s.length false) (aAI s.length 0):=by
 refine⟨by simp,by simp,λy hy=>?_,λy z _ hy=>?_,λj hj=>absurd hj (aAK _)⟩
 all_goals grind
theorem AjG (hg:Sg g s.length) (hw:w<s.length):g[w]? =some (rowAt g w):=by
 have hgg:g.length=s.length:=by have:=hg.1;omega
 grind [rowAt]
theorem Ahb {y:Nat} (h:y<off.length):off[y]? =some (oN off y):=by grind [oN]
theorem AlA (hs:WI s) (hso:∀ x∈s,TV x) (hg:Sg g s.length) (hgl:∀ row∈g,row.length<=512) (hf:0<=frm/\frm<=1000) :
  Hs (Xp s g frm) λq=>q=((Ahr s g frm (Qv (bfS s) (idI s.length))).2,0):=by
 have hsl:=hs.1;have hgg:g.length=s.length:=by have:=hg.1;omega
 obtain⟨b,hb1,hb2⟩:=AmA (g:=g) (n:=(s.length:Int)) (by omega) λr hr=>by grind
 refine(Agi hso (by omega)).bind λe he=>?_
 subst he;rw[hb1,hb2.2 hg,aA,YL,aA,decide_eq_true (by omega)]
 refine .chk (by omega) (.chk (by omega) ?_)
 rw[Arm (by omega),aA]
 obtain⟨ord,ho⟩:∃ ord,ord=Qv (bfS s) (idI s.length):=⟨_,rfl⟩;have ol:ord.length=s.length:=by rw[ho,Zm,AeW]
 have ov:∀ v∈ord,0<=v/\v<s.length:=λv hv=>by rw[ho]at hv;exact Aic _ hv
 rw[<- ho];refine Hs.loop (λq=>∃ k:Nat,q.2.2=(k:Int)/\k<=ord.length/\Asg s g frm ord k q.1 q.2.1/\(q.1,q.2.1)=Ahr s g frm (ord.take k)) (λq=>ord.length-q.2.2.toNat) ⟨0,rfl,aAD _,Anp,rfl⟩ ?_
 rintro⟨done,off,_⟩ ⟨k,rfl,hk,hI,he⟩;replace hI:Asg s g frm ord k done off:=hI;obtain⟨dl,fl,pl,ap,cov⟩:=id hI;dsimp only;refine .dec (λhlt=>?_) λhge=>.lft (.pure ?_)
 rotate_left
 ·have hkk:k=ord.length:=by omega
  subst hkk;rw[aAG]at he;show(off,(0:Int))=_;rw[<- he]
 have hlt:k<ord.length:=by omega
 have hov:ord[k]? =some ord[k]:=aAA hlt;have hvr:=ov _ (aAE hlt);generalize ord[k]=v at hov hvr;refine .chk (by omega) ?_
 rw[aAB,hov,aA];obtain⟨w,rfl⟩:∃ w:Nat,v=(w:Int):=⟨v.toNat,by omega⟩
 have hw:w<s.length:=by omega
 have hgr:ixO g (w:Int)=some (rowAt g w):=by grind [Pp,AjG]
 have hrl:(rowAt g w).length<=512:=hgl _ (aAF (AjG hg hw));refine Hs.loop (λq=>∃ j:Nat,q.2=(j:Int)/\j<=s.length/\q.1.length<=j/\∀ u,u∈q.1↔∃ y:Nat,y<j/\done[y]? =some true/\(y:Int)∈rowAt g w/\u=ivN s off y) (λq=>s.length-q.2.toNat) ⟨0,rfl,aAD _,by simp,λu=>⟨λh=>(by cases h),λ⟨y,h,_⟩=>absurd h (aAK _)⟩⟩ ?_
 rintro⟨used,_⟩ ⟨j,rfl,hj,hul,hu⟩;replace hul:used.length<=j:=hul;refine .dec (λhlt'=>?_) λhge=>.lft ?_
 ·have hjl:j<s.length:=by omega
  have hdj:done[j]? =some (done[j]'(by omega)):=aAA _
  generalize(done[j]'(by omega))=d at hdj
  refine .chk (by omega) ?_
  rw[aAB,hdj,aA];have key:∀ d:Bool,(bif d then(ixO g (w:Int)).bind λx=>(VV x (j:Int)).bind λr=>Rj (j:Int) off s used r else Rj (j:Int) off s used false)=Rj (j:Int) off s used (d&&decide ((j:Int)∈rowAt g w)):=λd=>by
   cases d
   ·rfl
   ·rw[cond_true,hgr,aA,XV _ _ (by omega),aA,Bool.true_and]
  rw[key];have split:∀ u,(∃ y:Nat,y<j+1/\done[y]? =some true/\(y:Int)∈rowAt g w/\u=ivN s off y)↔u∈used\/(d=true/\(j:Int)∈rowAt g w/\u=ivN s off j):=λu=>by
   grind
  unfold Rj;rw[OZ (by omega)]
  refine .cond (λhd=>?_) λhd=>.cnt ⟨⟨j+1,rfl,hjl,by grind,λu=>?_⟩,by grind⟩
  ·simp only[Bool.and_eq_true,decide_eq_true_eq]at hd;refine .chk (by omega) ?_
   have hoj:=Ahb (off:=off) (y:=j) (by omega)
   have hsj:s[j]? =some s[j]:=aAA _;rw[aAB,hoj,aA,Pp,hsj,aA];have hiv:(OY.mk (oN off j) s[j].Size)=ivN s off j:=by grind [ivN,VF]
   rw[hiv];refine .chk (by simp;omega) (.cnt ⟨⟨j+1,rfl,hjl,by simp;omega,λu=>?_⟩,by grind⟩)
   simp_all
  simp_all
 ·have hjj:j=s.length:=by omega
  subst hjj;have hsw:s[w]? =some s[w]:=aAA _;generalize s[w]=x at hsw;simp only[Pp,hsw,aA];have hUI:AjA s g done off w used:=λu=>by
   grind
  obtain⟨y,f1,f2,f3,f4⟩:=AnN hs hg hf hI (by omega) hov hsw (by omega) hUI
  rw[f2,aA];simp only[bne_self_eq_false,cond_false];refine .chk (by omega) ?_
  rw[aAB,aAA (by omega),aA]
  refine .chk (by omega) ?_
  rw[aAA (by omega),aA]
  unfold Acw;rw[OZ (by omega)]
  refine .cnt ⟨⟨k+1,rfl,hlt,f4,?_⟩,by grind⟩
  rw[Amk hov,<- he]
  grind [AlG]
theorem Aqi (hs:WI s) (hso:∀ x∈s,TV x) (hg:Sg g s.length) (hgl:∀ row∈g,row.length<=512) (hf:0<=frm/\frm<=1000) :
  Hs (VB s g frm) λq=>q=((Ahr s g frm (Qv (bfS s) (idI s.length))).2,0):=by
 have hsl:=hs.1;have hgg:g.length=s.length:=by have:=hg.1;omega
 obtain⟨b,hb1,hb2⟩:=AqN (g:=g) (n:=(s.length:Int)) (by omega) λr hr=>by grind
 obtain⟨e,he1,he2,_⟩:=AlF s;obtain⟨e',he3,he4⟩:=Agi hso (by omega)
 rw[he2]at he3;cases he3;subst he4;unfold VB;rw[he1,aA,hb1,hb2.2 hg,aA];simp only[bne_self_eq_false,cond_false,aAR];rw[decide_eq_false (by omega),cond_false,decide_eq_false (by omega),cond_false]
 refine .chk (by omega) (.chk (by omega) ?_)
 rw[AqZ (by omega),aA]
 obtain⟨ord,ho⟩:∃ ord,ord=Qv (bfS s) (idI s.length):=⟨_,rfl⟩;have ol:ord.length=s.length:=by rw[ho,Zm,AeW]
 have ov:∀ v∈ord,0<=v/\v<s.length:=λv hv=>by rw[ho]at hv;exact Aic _ hv
 rw[<- ho];simp only[aAB];refine Hs.loop (λq=>∃ k:Nat,q.2.2=(k:Int)/\k<=ord.length/\Asg s g frm ord k q.1 q.2.1/\(q.1,q.2.1)=Ahr s g frm (ord.take k)) (λq=>ord.length-q.2.2.toNat) ⟨0,rfl,aAD _,Anp,rfl⟩ ?_
 rintro⟨done,off,_⟩ ⟨k,rfl,hk,hI,he⟩;replace hI:Asg s g frm ord k done off:=hI;replace he:(done,off)=Ahr s g frm (ord.take k):=he;obtain⟨dl,fl,pl,ap,cov⟩:=id hI;unfold XA;dsimp only;refine .dec (λhlt=>?_) λhge=>.lft (.pure ?_)
 rotate_left
 ·have hkk:k=ord.length:=by omega
  subst hkk;rw[aAG]at he;show(off,(0:Int))=_;rw[<- he]
 have hlt:k<ord.length:=by omega
 have hov:ord[k]? =some ord[k]:=aAA hlt;have hvr:=ov _ (aAE hlt);generalize ord[k]=v at hov hvr;refine .chk (by omega) ?_
 rw[aAB,hov,aA];obtain⟨w,rfl⟩:∃ w:Nat,v=(w:Int):=⟨v.toNat,by omega⟩
 have hw:w<s.length:=by omega
 have hgr:ixO g (w:Int)=some (rowAt g w):=by grind [Pp,AjG]
 have hrow:=hg.2.1 w _ (AjG hg hw);rw[hgr,aA];generalize hrw:rowAt g w=row at hrow;have hrlen:row.length<=7:=by
  have:=AjC (l:=row) (a:=0) (n:=(s.length:Int)) hrow.1.1 λx hx=>⟨(hrow.1.2 x hx).1,hrow.2.1 x hx⟩
  omega
 refine Hs.loop (λq=>∃ j:Nat,q.2=(j:Int)/\j<=row.length/\q.1.length<=j/\∀ u,u∈q.1↔∃ y:Nat,done[y]? =some true/\(y:Int)∈row.take j/\u=ivN s off y) (λq=>row.length-q.2.toNat) ⟨0,rfl,aAD _,by simp,λu=>⟨λh=>(by cases h),λ⟨y,_,h,_⟩=>(by simp at h)⟩⟩ ?_
 rintro⟨used,_⟩ ⟨j,rfl,hj,hul,hu⟩;replace hul:used.length<=j:=hul;replace hu:∀ u,u∈used↔∃ y:Nat,done[y]? =some true/\(y:Int)∈row.take j/\u=ivN s off y:=hu;unfold XB;dsimp only;refine .dec (λhlt'=>?_) λhge=>.lft ?_
 ·have hjl:j<row.length:=by omega
  have hgz:row[j]? =some row[j]:=aAA _;have htk:row.take (j+1)=row.take j++[row[j]]:=by simp_all
  have hzm:=aAE hjl;generalize row[j]=z at hgz htk hzm;have z0:=(hrow.1.2 z hzm).1;have z1:=hrow.2.1 z hzm;obtain⟨zn,rfl⟩:∃ k:Nat,z=(k:Int):=⟨z.toNat,by omega⟩
  have hdj:done[zn]? =some (done[zn]'(by omega)):=aAA _
  generalize(done[zn]'(by omega))=d at hdj
  rw[Pp,hgz,aA];refine .chk (by omega) ?_
  rw[aAB,hdj,aA];have split:∀ u,(∃ y:Nat,done[y]? =some true/\(y:Int)∈row.take (j+1)/\u=ivN s off y)↔u∈used\/(d=true/\u=ivN s off zn):=λu=>by
   rw[hu u,htk];constructor
   ·grind
   grind
  rw[OZ (by omega)]
  refine .cond (λhd=>?_) λhd=>.cnt ⟨⟨j+1,rfl,hjl,by grind,λu=>?_⟩,by grind⟩
  ·have hoj:=Ahb (off:=off) (y:=zn) (by omega)
   have hsj:s[zn]? =some (s[zn]'(by omega)):=aAA _
   generalize(s[zn]'(by omega))=xz at hsj
   unfold Yz;simp only[Pp,hoj,hsj,aA];have hiv:(OY.mk (oN off zn) xz.Size)=ivN s off zn:=by unfold ivN;rw[(VF hsj).1]
   rw[hiv];refine .chk (by simp;omega) (.cnt ⟨⟨j+1,rfl,hjl,by simp;omega,λu=>?_⟩,by simp only;omega⟩)
   show u∈used++[ivN s off zn]↔_;rw[split u,aAP,aAM];exact⟨λh=>h.imp id λh=>⟨hd,h⟩,λh=>h.imp id λh=>h.2⟩
  simp_all
 ·have hjj:j=row.length:=by omega
  subst hjj;have hsw:s[w]? =some s[w]:=aAA _;generalize s[w]=x at hsw;simp only[Pp,hsw,aA];rw[aAG]at hu;have hUI:AjA s g done off w used:=λu=>by simp_all
  obtain⟨y,f1,f2,f3,f4⟩:=AnN hs hg hf hI (by omega) hov hsw (by omega) hUI
  rw[f3,aA];simp only[bne_self_eq_false,cond_false];refine .chk (by omega) ?_
  rw[aAB,aAA (by omega),aA]
  refine .chk (by omega) ?_
  rw[aAA (by omega),aA,OZ (by omega)]
  refine .cnt ⟨⟨k+1,rfl,hlt,f4,?_⟩,by simp only;omega⟩
  rw[Amk hov,<- he]
  grind [AlG]
theorem AoH (hs:WI s) (hso:∀ x∈s,TV x) (hg:Sg g s.length) (hgl:∀ row∈g,row.length<=512) (hf:0<=frm/\frm<=1000):∃ off,VB s g frm=some (off,0)/\Xp s g frm=some (off,0):=by
 obtain⟨a,h1,rfl⟩:=Aqi hs hso hg hgl hf;obtain⟨b,k1,rfl⟩:=AlA hs hso hg hgl hf;simp_all
end
open Go Go.Dw Go.Proofs
theorem Aof (hi:ixO p.Funcs i=some f) (hl:f.Code.length<=10000) (h:AdD p f):Xt p i=some (16*Sq p f f.Code.length):=by
 have:Hs (Xt p i) λr=>r=16*Sq p f f.Code.length:=by
  unfold Xt;rw[hi,aA];refine Hs.loop (λq=>∃ k:Nat,q=((k:Int),Sq p f k)/\k<=f.Code.length) (λq=>f.Code.length-q.1.toNat) ⟨0,rfl,aAD _⟩ ?_
  rintro _ ⟨k,rfl,hk⟩;have hr:=AcX h hk;unfold Aco;dsimp only;refine .dec (λhlt=>?_) λhge=>.lft (.pure ?_)
  ·have hlt:k<f.Code.length:=by omega
   have e:ixO f.Code (k:Int)=some f.Code[k]:=by rw[Pp];exact aAA hlt
   obtain⟨h1,h2⟩:=h _ (aAE hlt);simp only[e,aA];rw[OZ (by omega)]
   refine .beq (λh18=>?_) λh18=>.beq (λh22=>?_) λh22=>?_
   ·have:=h1 h18;rw[wrap64 (by omega) (by omega)]
    exact .cnt ⟨⟨k+1,by rw[YJ hlt];simp[SP,h18],hlt⟩,by simp only;omega⟩
   ·obtain⟨a0,g,hg,hp⟩:=h2 h22;rw[QB _ a0,hg,aA];exact .cnt ⟨⟨k+1,by rw[YJ hlt];simp[SP,h22,hg],hlt⟩,by simp only;omega⟩
   ·exact .cnt ⟨⟨k+1,by rw[YJ hlt];simp[SP,h18,h22],hlt⟩,by simp only;omega⟩
  ·have:k=f.Code.length:=by omega
   subst this;rw[wrap64 (by omega) (by omega)]
   exact rfl
 obtain⟨r,h,rfl⟩:=this;exact h
def ZV (s:List Pa) (off:List Int):Nat->Int
 | 0=>0
 | k+1=>max (ZV s off k) (oN off k+szN s k)
section
variable {s:List Pa} {off:List Int} {B:Int}
theorem Akw (hB:0<=B) (h:∀ y:Nat,y<s.length->0<=oN off y+szN s y/\oN off y+szN s y<=B):∀ {k:Nat},k<=s.length->0<=ZV s off k/\ZV s off k<=B
 | 0,_=>⟨Int.le_refl _,hB⟩
 | k+1,hk=>by
  have ih:=Akw hB h (k:=k) (by omega)
  have:=h k (by omega)
  unfold ZV;omega
theorem AtA (hs:s.length<=1000) (hl:off.length=s.length) (hB:0<=B/\B<=100000) (h:∀ y:Nat,y<s.length->0<=oN off y+szN s y/\oN off y+szN s y<=B):Zs s off=some (ZV s off s.length):=by
 have key:Hs (Zs s off) λe=>e=ZV s off s.length:=by
  unfold Zs;refine Hs.loop (λq=>∃ k:Nat,q.2=(k:Int)/\k<=s.length/\q.1=ZV s off k) (λq=>s.length-q.2.toNat) ⟨0,rfl,aAD _,rfl⟩ ?_
  rintro⟨_,_⟩ ⟨k,rfl,hk,rfl⟩;unfold Aay;dsimp only;refine .dec (λhlt=>?_) λhge=>.lft (.pure ?_)
  ·have hlt:k<s.length:=by omega
   have hsk:s[k]? =some s[k]:=aAA _;have:=h k hlt;rw[Pp,Ahb (by omega),aA,Pp,hsk,aA,<- (VF hsk).1,wrap64 (by omega) (by omega),OZ (by omega),Un]
   exact .cnt ⟨⟨k+1,rfl,hlt,rfl⟩,by simp only;omega⟩
  ·have hkk:k=s.length:=by omega
   subst hkk;rfl
 obtain⟨r,h,rfl⟩:=key;exact h
theorem AtG (hs:s.length<=1000) (hl:off.length=s.length) (hB:0<=B/\B<=100000) (h:∀ y:Nat,y<s.length->0<=oN off y+szN s y/\oN off y+szN s y<=B):Agd s off=some (ZV s off s.length):=by
 have key:Hs (Agd s off) λe=>e=ZV s off s.length:=by
  unfold Agd;refine Hs.loop (λq=>∃ k:Nat,q.2=(k:Int)/\k<=s.length/\q.1=ZV s off k) (λq=>s.length-q.2.toNat) ⟨0,rfl,aAD _,rfl⟩ ?_
  rintro⟨_,_⟩ ⟨k,rfl,hk,rfl⟩;unfold Ajq;dsimp only;refine .dec (λhlt=>.dec (λ_=>?_) λh=>by omega) λhge=>.lft (.pure ?_)
  ·have hlt:k<s.length:=by omega
   have hsk:s[k]? =some s[k]:=aAA _;have:=h k hlt;unfold Ajr;rw[Pp,Ahb (by omega),aA,Pp,hsk,aA,<- (VF hsk).1,wrap64 (by omega) (by omega),OZ (by omega),Un]
   exact .cnt ⟨⟨k+1,rfl,hlt,rfl⟩,by simp only;omega⟩
  ·have hkk:k=s.length:=by omega
   subst hkk;rfl
 obtain⟨r,h,rfl⟩:=key;exact h
def AiU (p:Pr) (f:Lo) (al:Int) (off:List Int):Qe:=⟨16*Sq p f f.Code.length,upN (max (16*Sq p f f.Code.length) (ZV f.Slots off f.Slots.length)) al,off⟩
variable {p:Pr} {i:Int} {f:Lo} {al:Int}
theorem Aoi (hl:off.length=f.Slots.length) (hB:B<=100000) (h:∀ y:Nat,y<f.Slots.length->0<=oN off y/\0<=szN f.Slots y/\oN off y+szN f.Slots y<=B) {k:Nat} (hk:k<f.Slots.length):Ra ⟨oN off k,f.Slots[k].Size⟩:=by
 have hsk:f.Slots[k]? =some f.Slots[k]:=aAA _;have:=h k hk;rw[(VF hsk).1]at this;refine⟨?_,?_,?_,?_,?_⟩<;>simp only<;>omega
theorem AtB (hi:ixO p.Funcs i=some f) (hc:f.Code.length<=10000) (hA:AdD p f) (hs:f.Slots.length<=1000) (hal:Te al) (hl:off.length=f.Slots.length) (hB:0<=B/\B<=100000) (h:∀ y:Nat,y<f.Slots.length->0<=oN off y/\0<=szN f.Slots y/\oN off y+szN f.Slots y<=B) :
  Yg p i al off=some (AiU p f al off,0):=by
 have har:=hal.rng;have hk:=AcX hA (aAL f.Code.length);have h':∀ y:Nat,y<f.Slots.length->0<=oN off y+szN f.Slots y/\oN off y+szN f.Slots y<=B:=λy hy=>by have:=h y hy;omega
 have he:=Akw hB.1 h' (aAL f.Slots.length);have key:Hs (Yg p i al off) λq=>q=(AiU p f al off,0):=by
  unfold Yg;rw[hi,aA];refine .bne (λhne=>(hne (by omega)).elim) λ_=>?_
  refine Hs.loop (λj=>∃ k:Nat,j=(k:Int)/\k<=f.Slots.length) (λj=>f.Slots.length-j.toNat) ⟨0,rfl,aAD _⟩ ?_
  rintro _ ⟨k,rfl,hkl⟩;unfold ZA;refine .dec (λhlt=>?_) λhge=>.lft ?_
  ·have hlt:k<f.Slots.length:=by omega
   have hR:=Aoi hl hB.2 h hlt;rw[Pp,aAA hlt,aA,Pp,Ahb (by omega),aA]
   unfold AaE;rw[Amo,aA,decide_eq_true hR,cond_true,aA];obtain⟨r1,r2,r3,r4,r5⟩:=hR;simp only at r1 r2 r3 r4 r5 ⊢;rw[wrap64 (by omega) (by omega),decide_eq_true r5,OZ (by omega)]
   exact .cnt ⟨⟨k+1,rfl,hlt⟩,by simp only;omega⟩
  ·rw[Aof hi hc hA,aA];unfold AiH XS;rw[PK (by omega),aA,AtA hs hl hB h',aA]
   generalize hE:ZV f.Slots off f.Slots.length=E at he;have em:PF (PF (16*Sq p f f.Code.length) 0) E=max (16*Sq p f f.Code.length) E:=by rw[Un,Un];omega
   rw[em];obtain⟨u1,u2,_⟩:=Sd (n:=max (16*Sq p f f.Code.length) E) (a:=al) (by omega)
   unfold AeN;rw[AtV (by omega) (by omega) hal,aA]
   simp only[beq_self_eq_true,cond_true];rw[Atq (by omega) (by omega),aA]
   unfold XX;simp only[bne_self_eq_false,cond_false,aA];refine .pure ?_;unfold AiU;rw[hE];rfl
 obtain⟨r,h,rfl⟩:=key;exact h
theorem AtH (hi:ixO p.Funcs i=some f) (hc:f.Code.length<=10000) (hA:AdD p f) (hs:f.Slots.length<=1000) (hal:Te al) (hl:off.length=f.Slots.length) (hB:0<=B/\B<=100000) (h:∀ y:Nat,y<f.Slots.length->0<=oN off y/\0<=szN f.Slots y/\oN off y+szN f.Slots y<=B) :
  Acz p i al off=some (AiU p f al off,0):=by
 have har:=hal.rng;have hk:=AcX hA (aAL f.Code.length);have h':∀ y:Nat,y<f.Slots.length->0<=oN off y+szN f.Slots y/\oN off y+szN f.Slots y<=B:=λy hy=>by have:=h y hy;omega
 have he:=Akw hB.1 h' (aAL f.Slots.length);have key:Hs (Acz p i al off) λq=>q=(AiU p f al off,0):=by
  unfold Acz;rw[hi,aA];refine .bne (λhne=>(hne (by omega)).elim) λ_=>?_
  refine Hs.loop (λj=>∃ k:Nat,j=(k:Int)/\k<=f.Slots.length) (λj=>f.Slots.length-j.toNat) ⟨0,rfl,aAD _⟩ ?_
  rintro _ ⟨k,rfl,hkl⟩;unfold Age;refine .dec (λhlt=>?_) λhge=>.lft ?_
  ·have hlt:k<f.Slots.length:=by omega
   have hR:=Aoi hl hB.2 h hlt;rw[Pp,Ahb (by omega),aA,Pp,aAA hlt,aA,Abn,aA,decide_eq_true hR,OZ (by omega)]
   exact .cnt ⟨⟨k+1,rfl,hlt⟩,by simp only;omega⟩
  ·rw[Aoh hi hc hA,aA,AtG hs hl hB h',aA,Un];generalize hE:ZV f.Slots off f.Slots.length=E at he;obtain⟨u1,u2,_⟩:=Sd (n:=max (16*Sq p f f.Code.length) E) (a:=al) (by omega)
   rw[Aom (by omega) (by omega) hal,aA]
   simp only[bne_self_eq_false,cond_false];rw[decide_eq_false (by omega),cond_false]
   refine .chk (by simp;omega) (.pure ?_)
   unfold AiU;rw[hE,aAo];rfl
 obtain⟨r,h,rfl⟩:=key;exact h
end
open Go Go.Dw Go.Proofs
def Xg (s:List Pa):Int:=s.foldl (λa x=>PF a x.Align) 16
theorem Ala (s:List Pa):∃ a,WY s=some a/\SE s=some a:=by
 obtain⟨e,h1,h2,h3⟩:=AlF s;unfold WY SE;rw[h1,h2,aA,aA]
 by_cases he:e=0
 ·subst he;have hl:=h3 rfl;simp only[beq_self_eq_true,cond_true,bne_self_eq_false,cond_false];have p1:Hs (Pe (λq=>VK s q.1 q.2) (0,16)) λa=>a=Xg s:=by
   refine Hs.loop (λq=>∃ k:Nat,q.1=(k:Int)/\k<=s.length/\q.2=Xg (s.take k)) (λq=>s.length-q.1.toNat) ⟨0,rfl,aAD _,rfl⟩ ?_
   rintro⟨_,_⟩ ⟨k,rfl,hk,rfl⟩;unfold VK;dsimp only;refine .dec (λhlt=>?_) λhge=>.lft (.pure ?_)
   ·have hlt:k<s.length:=by omega
    rw[Pp,aAA hlt,aA,OZ (by omega)]
    refine .cnt ⟨⟨k+1,rfl,hlt,?_⟩,by simp only;omega⟩
    show PF (Xg (s.take k)) s[k].Align=Xg (s.take (k+1));rw[aAN hlt];unfold Xg;rw[aAS];rfl
   ·have hkk:k=s.length:=by omega
    subst hkk;show Xg _=_;rw[aAG]
  have p2:Hs (Pe (λq=>Xh s q.1 q.2) (16,0)) λa=>a=Xg s:=by
   refine Hs.loop (λq=>∃ k:Nat,q.2=(k:Int)/\k<=s.length/\q.1=Xg (s.take k)) (λq=>s.length-q.2.toNat) ⟨0,rfl,aAD _,rfl⟩ ?_
   rintro⟨_,_⟩ ⟨k,rfl,hk,rfl⟩;unfold Xh;dsimp only;refine .dec (λhlt=>?_) λhge=>.lft (.pure ?_)
   ·have hlt:k<s.length:=by omega
    rw[Pp,aAA hlt,aA,OZ (by omega)]
    refine .cnt ⟨⟨k+1,rfl,hlt,?_⟩,by simp only;omega⟩
    show PF (Xg (s.take k)) s[k].Align=Xg (s.take (k+1));rw[aAN hlt];unfold Xg;rw[aAS];rfl
   ·have hkk:k=s.length:=by omega
    subst hkk;show Xg _=_;rw[aAG]
  obtain⟨a,q1,rfl⟩:=p1;obtain⟨b,q2,rfl⟩:=p2;exact⟨_,q1,q2⟩
 ·rw[show(e==0)=false by simpa using he,show(e != 0)=true by simpa using he]
  exact⟨16,rfl,rfl⟩
theorem Ard (h:Tc s=some 0) (hl:s.length<=512):SE s=some (Xg s):=by
 have p2:Hs (SE s) λa=>a=Xg s:=by
  unfold SE;rw[h,aA];simp only[bne_self_eq_false,cond_false];refine Hs.loop (λq=>∃ k:Nat,q.2=(k:Int)/\k<=s.length/\q.1=Xg (s.take k)) (λq=>s.length-q.2.toNat) ⟨0,rfl,aAD _,rfl⟩ ?_
  rintro⟨_,_⟩ ⟨k,rfl,hk,rfl⟩;unfold Xh;dsimp only;refine .dec (λhlt=>?_) λhge=>.lft (.pure ?_)
  ·have hlt:k<s.length:=by omega
   rw[Pp,aAA hlt,aA,OZ (by omega)]
   refine .cnt ⟨⟨k+1,rfl,hlt,?_⟩,by simp only;omega⟩
   show PF (Xg (s.take k)) s[k].Align=Xg (s.take (k+1));rw[aAN hlt];unfold Xg;rw[aAS];rfl
  ·have hkk:k=s.length:=by omega
   subst hkk;show Xg _=_;rw[aAG]
 obtain⟨b,q2,rfl⟩:=p2;exact q2
theorem AoT (p:Pr) (hp:p.Funcs.length<=1000000):∃ a,AbG p=some a/\TR p=some a:=by
 have step:∀ k≤p.Funcs.length,∃ a:Int,∀ b:Int,True:=λ_ _=>⟨0,λ_=>trivial⟩
 let al:Lo->Int:=λf=>aBJ (Ala f.Slots)
 have hal:∀ f:Lo,WY f.Slots=some (al f)/\SE f.Slots=some (al f):=λf=>aBC (Ala f.Slots)
 let A:List Lo->Int:=λl=>l.foldl (λa f=>PF a (al f)) 16
 have hA:∀ k (hk:k<p.Funcs.length),A (p.Funcs.take (k+1))=PF (A (p.Funcs.take k)) (al p.Funcs[k]):=λk hk=>by
  show(p.Funcs.take (k+1)).foldl _ _=_;rw[aAN hk,aAS];rfl
 have p1:Hs (AbG p) λa=>a=A p.Funcs:=by
  unfold AbG;refine Hs.loop (λq=>∃ k:Nat,q.2=(k:Int)/\k<=p.Funcs.length/\q.1=A (p.Funcs.take k)) (λq=>p.Funcs.length-q.2.toNat) ⟨0,rfl,aAD _,rfl⟩ ?_
  rintro⟨_,_⟩ ⟨k,rfl,hk,rfl⟩;unfold AcC;dsimp only;refine .dec (λhlt=>?_) λhge=>.lft (.pure ?_)
  ·have hlt:k<p.Funcs.length:=by omega
   rw[Pp,aAA hlt,aA,(hal _).1,aA,OZ (by omega)]
   exact .cnt ⟨⟨k+1,rfl,hlt,(hA k hlt).symm⟩,by simp only;omega⟩
  ·have hkk:k=p.Funcs.length:=by omega
   subst hkk;show A _=_;rw[aAG]
 have p2:Hs (TR p) λa=>a=A p.Funcs:=by
  unfold TR;refine Hs.loop (λq=>∃ k:Nat,q.2=(k:Int)/\k<=p.Funcs.length/\q.1=A (p.Funcs.take k)) (λq=>p.Funcs.length-q.2.toNat) ⟨0,rfl,aAD _,rfl⟩ ?_
  rintro⟨_,_⟩ ⟨k,rfl,hk,rfl⟩;unfold ZB;dsimp only;refine .dec (λhlt=>?_) λhge=>.lft (.pure ?_)
  ·have hlt:k<p.Funcs.length:=by omega
   rw[Pp,aAA hlt,aA,(hal _).2,aA,OZ (by omega)]
   exact .cnt ⟨⟨k+1,rfl,hlt,(hA k hlt).symm⟩,by simp only;omega⟩
  ·have hkk:k=p.Funcs.length:=by omega
   subst hkk;show A _=_;rw[aAG]
 obtain⟨a,q1,rfl⟩:=p1;obtain⟨b,q2,rfl⟩:=p2;exact⟨_,q1,q2⟩
theorem Atz (p:Pr) (f:Lo) (hp:p.Funcs.length<=1000000) (h0:0<=i) (h1:i<p.Funcs.length):XW p i f=some ⟨p.Funcs.set i.toNat f⟩:=by
 unfold XW AnA XS;rw[PK (by omega),aA,PK (by omega),aAA (by omega),aA]
theorem Asr (p:Pr) (f:Lo) (hp:p.Funcs.length<=1000000) (h0:0<=i) (h1:i<p.Funcs.length):Aia p i f=some ⟨p.Funcs.set i.toNat f⟩:=by
 unfold Aia Aiu;simp only[aAo];rw[PK (by simp;omega),PK (by omega),aAA (by omega),aA,aA]
theorem LE.antisymm {a b:List (List Int)} (ha:QA f a) (hb:QA f b) (h1:LE a b) (h2:LE b a):a=b:=by
 apply aAr;intro k
 by_cases hk:k<f.Code.length
 ·obtain⟨p1,p2⟩:=ha.row hk;obtain⟨q1,q2⟩:=hb.row hk;rw[p1,q1,p2.1.ext q2.1 λv=>⟨h1 k _ _ p1 q1 v,h2 k _ _ q1 p1 v⟩]
 ·rw[aAd (by have:=ha.1;omega),aAd (by have:=hb.1;omega)]
theorem LE.refl (a:List (List Int)):LE a a:=λk s t hs ht v hv=>by rw[hs]at ht;cases ht;exact hv
theorem UN.unique {a b:List (List Int)} (ha:UN f a) (hb:UN f b):a=b :=
 ha.ok|>λh=>LE.antisymm h hb.ok (ha.least b hb.ok (by rw[hb.fix];exact LE.refl b)) (hb.least a ha.ok (by rw[ha.fix];exact LE.refl a))
theorem Aqe (x:OX) (v:Int):Uv x v=some (QZ x v):=by
 unfold Uv QZ;cases (x.Op==17)<;>simp
theorem AoS (x:OX) (v:Int):VP x v=some (QV x v):=rfl
def ApA (n:Nat) (m:List (List Bool)) (a:Nat) (v:Int):Prop:=0<=v/\v<n/\Zq m a v.toNat=true
theorem Aod {n:Nat} (hl:m.length=n) (hr:∀ row∈m,row.length=n) (hn:n<=500):Hs (RS m) λout=>PR n out (ApA n m):=by
 unfold RS;refine .chk (by omega) ?_
 refine Hs.loop (λs=>∃ k:Nat,s.2=(k:Int)/\k<=n/\PR n s.1 λa v=>a<k/\ApA n m a v) (λs=>n-s.2.toNat) ⟨0,rfl,aAD _,?_⟩ ?_
 ·rw[aAB,hl];exact PR.nil _ λa v h=>absurd h.1 (aAK _)
 rintro⟨out,_⟩ ⟨k,rfl,hk,hs⟩;replace hs:PR n out _:=hs;unfold Th;refine .dec (λhlt=>?_) λhge=>.lft (.pure (hs.congr λa v ha=>⟨λh=>⟨by simp only at hge;omega,h⟩,λh=>h.2⟩))
 have hlt:k<n:=by simp only at hlt;omega
 have hg:m[k]? =some (m[k]'(by omega)):=aAA _
 have hrl:=hr _ (aAE (show k<m.length by omega))
 generalize m[k]'(by omega)=row at hg hrl
 simp only[Pp,hg,aA];refine Hs.loop (λs=>∃ i:Nat,s.2=(i:Int)/\i<=n/\PR n s.1 λa v=>(a<k\/(a=k/\v<i))/\ApA n m a v) (λs=>n-s.2.toNat) ⟨0,rfl,aAD _,hs.congr λa v _=>?_⟩ ?_
 ·constructor
  ·rintro⟨h|⟨_,h⟩,hc⟩
   ·exact⟨h,hc⟩
   ·have:=hc.1;omega
  ·exact λh=>⟨.inl h.1,h.2⟩
 rintro⟨out2,_⟩ ⟨i,rfl,hi,hs2⟩;replace hs2:PR n out2 _:=hs2;unfold Ti;refine .dec (λhlt2=>?_) λhge2=>?_
 ·have hlt2:i<n:=by simp only at hlt2;omega
  have hb:row[i]? =some (row[i]'(by omega)):=aAA _
  generalize row[i]'(by omega)=bit at hb
  have hcell:Zq m k i=bit:=by simp[Zq,hg,hb]
  have w:=OZ (show i<9223372036854775807 by omega)
  simp only[Pp,hb,aA];refine .cond (λht=>?_) λhf=>?_
  ·have hs0:out2[k]? =some (out2[k]'(by have:=hs2.1;omega)):=aAA _
   generalize out2[k]'(by have:=hs2.1;omega)=s at hs0
   have q:=hs2.2 k s hs0;have hsl:=q.1.1.length_le;have hol:=hs2.1;refine .chk (by omega) ?_
   rw[aAB,hs0,aA];refine .chk (by simp only[aBD];omega) (.chk (by omega) ?_)
   rw[w];refine .cnt ⟨⟨i+1,rfl,hlt2,?_⟩,by simp only;omega⟩
   have hlt':∀ x∈s,x<(i:Int):=λx hx=>by
    rcases((q.2 x).1 hx).1 with h|⟨_,h⟩
    ·omega
    ·exact h
   refine hs2.set hlt ⟨q.1.1.snoc (by omega) hlt',λx hx=>?_⟩ (λv=>?_) λa v ha=>?_
   ·rcases aAP.1 hx with h|h
    ·exact q.1.2 x h
    ·rw[aAM]at h;omega
   ·rw[aAP,aAM,q.2 v];constructor
    ·rintro(⟨h|⟨_,h⟩,hc⟩|rfl)
     ·omega
     ·exact⟨.inr ⟨rfl,by omega⟩,hc⟩
     ·exact⟨.inr ⟨rfl,by omega⟩,by omega,by omega,by rw[aAB,hcell,ht]⟩
    ·rintro⟨h|⟨_,h⟩,hc⟩
     ·omega
     ·by_cases e:v=i
      ·exact .inr e
      ·exact .inl ⟨.inr ⟨rfl,by omega⟩,hc⟩
   ·constructor
    ·rintro⟨h|⟨h,_⟩,hc⟩
     ·exact⟨.inl h,hc⟩
     ·exact(ha h).elim
    ·rintro⟨h|⟨h,_⟩,hc⟩
     ·exact⟨.inl h,hc⟩
     ·exact(ha h).elim
  ·rw[w];refine .cnt ⟨⟨i+1,rfl,hlt2,hs2.congr λa v _=>?_⟩,by simp only;omega⟩
   constructor
   ·rintro⟨h|⟨h,h2⟩,hc⟩
    ·exact⟨.inl h,hc⟩
    ·refine⟨.inr ⟨h,?_⟩,hc⟩;have h3:v≠i:=λe=>by
      have:=hc.2.2;rw[h,e,aAB,hcell,hf]at this;cases this
     omega
   ·rintro⟨h|⟨h,h2⟩,hc⟩
    ·exact⟨.inl h,hc⟩
    ·exact⟨.inr ⟨h,by omega⟩,hc⟩
 ·rw[OZ (by omega)]
  refine .lft (.cnt ⟨⟨k+1,rfl,hlt,hs2.congr λa v _=>?_⟩,by simp only;omega⟩)
  constructor
  ·rintro⟨h,hc⟩;refine⟨?_,hc⟩
   by_cases e:a=k
   ·exact .inr ⟨e,by have:=hc.2.1;simp only at hge2;omega⟩
   ·exact .inl (by omega)
  ·rintro⟨h|⟨h,_⟩,hc⟩
   ·exact⟨by omega,hc⟩
   ·exact⟨by omega,hc⟩
theorem Aln (hf:Ps f) (hd:RU f) (hl:QA f l) {a v:Int} (h:Ed mv f l a v):(0<=a/\a<f.Slots.length)/\(0<=v/\v<f.Slots.length):=by
 obtain⟨j,hj,rfl,h2,_,h4,_⟩:=h;have hx:=hf.at (j:=(j:Int)) (by omega) (by omega)
 have hrow:=hl.at (j:=(j:Int)) (by omega) (by omega)
 rw[aAB]at hrow;exact⟨hd _ hx.2 h2,(hrow.2.1.2 v h4).1,hrow.2.2 v h4⟩
theorem Aob {n:Nat} {P:Int->Int->Prop} (hl:m.length=n) (h:∀ (j:Nat) row,m[j]? =some row->row=aAI n false) (hp:∀ a v,¬ P a v):SF n m P:=by
 refine⟨hl,λrow hr=>?_,λa v ha hv=>?_⟩
 ·obtain⟨j,hj⟩:=aAH hr;rw[h j row hj,aAl]
 ·have e:m[a]? =some (m[a]'(by omega)):=aAA _
  have:=h a _ e;have hc:Zq m a v=false:=by unfold Zq;rw[e,this];simp[hv]
  rw[hc];exact⟨λh=>(by cases h),λh=>by rcases h with h|h<;>exact(hp _ _ h).elim⟩
theorem AqJ {n:Nat} {P:Int->Int->Prop} (hm:SF n m P) {d y:Nat} (hd:d<n) (hy:y<n) (hne:d≠y) (t:Bool) {i:Nat} (hi:i<1000000) :
  ∃ m',Qf m ((d:Int),t) (y:Int) (i:Int) true=some (.inl (m',((i+1:Nat):Int)))/\SF n m' λa b=>P a b\/(a=d/\b=y):=by
 have e1:m[d]? =some (m[d]'(by have:=hm.1;omega)):=aAA _
 have e2:m[y]? =some (m[y]'(by have:=hm.1;omega)):=aAA _
 generalize m[d]'(by have:=hm.1;omega)=r1 at e1
 generalize m[y]'(by have:=hm.1;omega)=r2 at e2
 have l1:=hm.2.1 _ (aAF e1);have l2:=hm.2.1 _ (aAF e2);have hl:=hm.1;have g1:r1[y]? =some (r1[y]'(by omega)):=aAA _
 have g2:r2[d]? =some (r2[d]'(by omega)):=aAA _
 have c1:0<=(d:Int)/\(d:Int)<m.length:=by omega
 have c2:0<=(y:Int)/\(y:Int)<m.length:=by omega
 have c3:0<=(y:Int)/\(y:Int)<r1.length:=by omega
 have c4:0<=(d:Int)/\(d:Int)<r2.length:=by omega
 have w:=OZ (show i<9223372036854775807 by omega)
 exact⟨_,by simp only[Qf,cond_true,aAB,e1,e2,aA,PK hne,PK c1,PK c2,PK c3,PK c4,g1,g2,w,Apa],hm.set hd hy hne e1 e2⟩
theorem AqI (hf:Ps f) (hd:RU f) {l:Ph} (hl:AeI l.Out):Hs (Uk f l) (SB QZ f l.Out):=by
 have hlen:=hf.len';have hsl:=hf.slots;unfold Uk;refine Hs.bind (P:=SB QZ f l.Out) ?_ λr hr=>.pure hr
 unfold TD;refine(Anx hf hl).bind λe he=>.bne (λh=>.pure (.inr ⟨he.1.resolve_left h,λha=>h (he.2.2 ha),rfl⟩)) λh=>?_
 have hacc:Acc f l.Out:=he.2.1 h;refine .chk (by omega) ?_
 refine Hs.loop (λs=>∃ k:Nat,s.2=(k:Int)/\k<=f.Slots.length/\s.1.length=f.Slots.length/\∀ (j:Nat) row,j<k->s.1[j]? =some row->row=aAI f.Slots.length false) (λs=>f.Slots.length-s.2.toNat) ⟨0,rfl,aAD _,by simp,λj row h=>absurd h (aAK _)⟩ ?_
 rintro⟨m,_⟩ ⟨k,rfl,hk,hml,hrows⟩;unfold SI;simp only[aAl,aAB]at hml hrows ⊢;refine .dec (λhlt=>?_) λhge=>.lft ?_
 ·have hlt:k<f.Slots.length:=by omega
  have hg:m[k]? =some (m[k]'(by omega)):=aAA _
  refine .chk (by omega) (.chk (by omega) ?_)
  rw[hg,aA,OZ (by omega)]
  refine .cnt ⟨⟨k+1,rfl,hlt,by simp[hml],λj row hj hr=>?_⟩,by simp only;omega⟩
  by_cases e:j=k
  ·subst e;rw[aAc (by omega)]at hr
   exact(Option.some.inj hr).symm
  ·rw[aAY (λh=>e h.symm)]at hr
   exact hrows j row (by omega) hr
 have hkk:k=f.Slots.length:=by omega
 have hm0:SF f.Slots.length m (Vq QZ f l.Out 0):=Aob hml (λj row hr=>hrows j row (by have:=(aAC.1 hr).1;omega) hr) λa v h=>by rcases h with⟨j,hj,_⟩;omega
 show Hs (Ry f l m) (SB QZ f l.Out);clear hrows hml hge hkk hk k;unfold Ry;refine Hs.loop (λs=>∃ k:Nat,s.2=(k:Int)/\k<=f.Code.length/\SF f.Slots.length s.1 (Vq QZ f l.Out k)) (λs=>f.Code.length-s.2.toNat) ⟨0,rfl,aAD _,hm0⟩ ?_
 clear hm0 m;rintro⟨m,_⟩ ⟨k,rfl,hk,hm⟩;replace hm:SF f.Slots.length m _:=hm;unfold SG;refine .dec (λhlt=>?_) λhge=>.lft ?_
 ·have hlt:k<f.Code.length:=by simp only at hlt;omega
  have hx:=hf.at (j:=(k:Int)) (by omega) (by omega)
  rw[aAB]at hx;have hrow:=hacc.1.at (j:=(k:Int)) (by omega) (by omega)
  rw[aAB]at hrow;have hlo:=hrow.2.1.length_le;simp only[Pp,hx.1,aA,AeV];have w:=OZ (show k<9223372036854775807 by omega)
  by_cases hdef:(OU f k).Op=16\/(OU f k).Op=17
  ·rw[if_pos hdef];simp only[aAR,cond_false];have hA:=hd _ hx.2 hdef;have inner:¬ ((OU f k).Op=17/\(OU f k).A=(OU f k).B)->∀ p q,Hs (QK l (k:Int) ((OU f k).A,true) (OU f k) m p q) (Rnd (λs=>∃ k:Nat,s.2=(k:Int)/\k<=f.Code.length/\SF f.Slots.length s.1 (Vq QZ f l.Out k)) (λs=>f.Code.length-s.2.toNat) (m,(k:Int)) (SB QZ f l.Out)):=by
    intro hnm p q;unfold QK;rw[Pp,hrow.1,aA];refine Hs.loop (λs=>∃ i:Nat,s.2=(i:Int)/\i<=(Pk l.Out k).length/\SF f.Slots.length s.1 (ZN QZ f l.Out k i)) (λs=>(Pk l.Out k).length-s.2.toNat) ⟨0,rfl,aAD _,hm.congr λa v=>AiP⟩ ?_
    rintro⟨m2,_⟩ ⟨i,rfl,hi,hm2⟩;replace hm2:SF f.Slots.length m2 _:=hm2;unfold SH;refine .dec (λhlt2=>?_) λhge2=>?_
    ·have hlt2:i<(Pk l.Out k).length:=by simp only at hlt2;omega
     have hgx:(Pk l.Out k)[i]? =some (Pk l.Out k)[i]:=aAA _;have hxm:=aAE hlt2;generalize(Pk l.Out k)[i]=x at hgx hxm;have hx0:=hrow.2.1.2 x hxm;have hxn:=hrow.2.2 x hxm;simp only[Pp,hgx,aA,Aqe];have w2:=OZ (show i<9223372036854775807 by omega)
     have skip:x=(OU f k).A\/QZ (OU f k) x=true->Hs (Qf m2 ((OU f k).A,true) x (i:Int) false) (Rnd (λs=>∃ i:Nat,s.2=(i:Int)/\i<=(Pk l.Out k).length/\SF f.Slots.length s.1 (ZN QZ f l.Out k i)) (λs=>(Pk l.Out k).length-s.2.toNat) (m2,(i:Int)) (Rnd (λs=>∃ k:Nat,s.2=(k:Int)/\k<=f.Code.length/\SF f.Slots.length s.1 (Vq QZ f l.Out k)) (λs=>f.Code.length-s.2.toNat) (m,(k:Int)) (SB QZ f l.Out))):=by
      intro hh;unfold Qf;rw[cond_false,w2];exact .cnt ⟨⟨i+1,rfl,hlt2,hm2.congr λa v=>AiO hgx hh⟩,by simp only;omega⟩
     refine .bne (λhne=>?_) λhe=>skip (.inl he)
     cases hmf:QZ (OU f k) x
     ·rw[aBE];obtain⟨d,hde⟩:∃ d:Nat,(OU f k).A=(d:Int):=⟨_,(aAQ hA.1).symm⟩;obtain⟨y,rfl⟩:∃ y:Nat,x=(y:Int):=⟨_,(aAQ hx0.1).symm⟩;obtain⟨m',h1,h2⟩:=AqJ hm2 (d:=d) (y:=y) (by omega) (by omega) (by omega) true (i:=i) (by omega)
      rw[hde,h1];refine .pure ⟨⟨i+1,rfl,hlt2,h2.congr λa v=>?_⟩,by simp only;omega⟩
      rw[AfQ hgx,hde];constructor
      ·rintro(h|⟨h1,h2,_⟩)
       ·exact .inl h
       ·exact .inr ⟨h1,h2⟩
      ·rintro(h|⟨h1,h2⟩)
       ·exact .inl h
       ·exact .inr ⟨h1,h2,by omega,hmf⟩
     ·rw[aAR];exact skip (.inr hmf)
    ·have hi:i=(Pk l.Out k).length:=by simp only at hge2;omega
     subst hi;rw[w];exact .lft (.cnt ⟨⟨k+1,rfl,hlt,hm2.congr λa v=>(Akv hdef hnm).symm⟩,by simp only;omega⟩)
   refine .beq (λh17=>.beq (λhab=>?_) λhab=>inner (λhh=>hab hh.2) _ _) λh17=>inner (λhh=>h17 hh.1) _ _
   rw[w];exact .cnt ⟨⟨k+1,rfl,hlt,hm.congr λa v=>Abz (.inr ⟨h17,hab⟩)⟩,by simp only;omega⟩
  ·rw[if_neg hdef];simp only[aBE,cond_true];rw[w];exact .cnt ⟨⟨k+1,rfl,hlt,hm.congr λa v=>Abz (.inl (by omega))⟩,by simp only;omega⟩
 ·have hk:k=f.Code.length:=by simp only at hge;omega
  subst hk;refine(Aod hm.1 hm.2.1 hsl).bind λout ho=>.pure (.inl ⟨rfl,hacc,ho.congr λa v ha=>?_⟩)
  constructor
  ·intro h;have hr:0<=v/\v<f.Slots.length:=by
    rcases h with h|h
    ·exact(Aln hf hd hacc.1 h).2
    ·exact(Aln hf hd hacc.1 h).1
   refine⟨hr.1,hr.2,(hm.2.2 a v.toNat ha (by omega)).2 ?_⟩
   rw[aAQ hr.1];exact h
  ·rintro⟨h0,h1,hc⟩;have:=(hm.2.2 a v.toNat ha (by omega)).1 hc
   rw[aAQ h0]at this;exact this
theorem ApX {n:Nat} {P:Int->Int->Prop} (hm:SF n m P) {d y:Nat} (hd:d<n) (hy:y<n) (hne:d≠y) (t:Bool) {i:Nat} (hi:i<1000000) :
  ∃ m',Qb m ((d:Int),t) (y:Int) (i:Int) true=some (.inl (m',((i+1:Nat):Int)))/\SF n m' λa b=>P a b\/(a=d/\b=y):=by
 have e1:m[d]? =some (m[d]'(by have:=hm.1;omega)):=aAA _
 have e2:m[y]? =some (m[y]'(by have:=hm.1;omega)):=aAA _
 generalize m[d]'(by grind)=r1 at e1
 generalize m[y]'(by grind)=r2 at e2
 have l1:=hm.2.1 _ (aAF e1);have l2:=hm.2.1 _ (aAF e2);have hl:=hm.1;have g1:r1[y]? =some (r1[y]'(by omega)):=aAA _
 have g2:r2[d]? =some (r2[d]'(by omega)):=aAA _
 have c1:0<=(d:Int)/\(d:Int)<m.length:=by omega
 have c2:0<=(y:Int)/\(y:Int)<m.length:=by omega
 have c3:0<=(y:Int)/\(y:Int)<r1.length:=by omega
 have c4:0<=(d:Int)/\(d:Int)<r2.length:=by omega
 have w:=OZ (show i<9223372036854775807 by omega)
 exact⟨_,by simp_all[Qb,PK],hm.set hd hy hne e1 e2⟩
theorem ApW (hf:Ps f) (hd:RU f) {l:Ph} (hl:AeI l.Out):Hs (Vc f l) (SB QV f l.Out):=by
 have hlen:=hf.len';have hsl:=hf.slots;refine Hs.bind (P:=SB QV f l.Out) ?_ λr hr=>.pure hr
 refine(Anx hf hl).bind λe he=>.bne (λh=>.pure (.inr ⟨he.1.resolve_left h,λha=>h (he.2.2 ha),rfl⟩)) λh=>?_
 have hacc:Acc f l.Out:=he.2.1 h;refine .chk (by omega) ?_
 refine Hs.loop (λs=>∃ k:Nat,s.2=(k:Int)/\k<=f.Slots.length/\s.1.length=f.Slots.length/\∀ (j:Nat) row,j<k->s.1[j]? =some row->row=aAI f.Slots.length false) (λs=>f.Slots.length-s.2.toNat) ⟨0,rfl,aAD _,by simp,λj row h=>absurd h (aAK _)⟩ ?_
 rintro⟨m,_⟩ ⟨k,rfl,hk,hml,hrows⟩;unfold Sw;simp only[aAl,aAB]at hml hrows ⊢;refine .dec (λhlt=>?_) λhge=>.lft ?_
 ·have hlt:k<f.Slots.length:=by omega
  have hg:m[k]? =some (m[k]'(by omega)):=aAA _
  refine .chk (by omega) (.chk (by omega) ?_)
  rw[hg,aA,OZ (by omega)]
  refine .cnt ⟨⟨k+1,rfl,hlt,by simp[hml],λj row hj hr=>?_⟩,by grind⟩
  grind
 have hkk:k=f.Slots.length:=by omega
 have hm0:SF f.Slots.length m (Vq QV f l.Out 0):=Aob hml (λj row hr=>hrows j row (by grind) hr) λa v h=>by rcases h with⟨j,hj,_⟩;omega
 show Hs (Sx f l m) (SB QV f l.Out);clear hrows hml hge hkk hk k;refine Hs.loop (λs=>∃ k:Nat,s.2=(k:Int)/\k<=f.Code.length/\SF f.Slots.length s.1 (Vq QV f l.Out k)) (λs=>f.Code.length-s.2.toNat) ⟨0,rfl,aAD _,hm0⟩ ?_
 rintro⟨m,_⟩ ⟨k,rfl,hk,hm⟩;refine .dec (λhlt=>?_) λhge=>.lft ?_
 ·have hlt:k<f.Code.length:=by omega
  have hx:=hf.at (j:=(k:Int)) (by omega) (by omega)
  rw[aAB]at hx;have hrow:=hacc.1.at (j:=(k:Int)) (by omega) (by omega)
  rw[aAB]at hrow;have hlo:=hrow.2.1.length_le;simp only[Pp,hx.1,aA,AeV];have w:=OZ (show k<9223372036854775807 by omega)
  by_cases hdef:(OU f k).Op=16\/(OU f k).Op=17
  ·rw[if_pos hdef];have hA:=hd _ hx.2 hdef;have inner:¬ ((OU f k).Op=17/\(OU f k).A=(OU f k).B)->∀ p q,Hs (QC l (k:Int) ((OU f k).A,true) (OU f k) m p q) (Rnd (λs=>∃ k:Nat,s.2=(k:Int)/\k<=f.Code.length/\SF f.Slots.length s.1 (Vq QV f l.Out k)) (λs=>f.Code.length-s.2.toNat) (m,(k:Int)) (SB QV f l.Out)):=by
    intro hnm p q;unfold QC;rw[Pp,hrow.1,aA];refine Hs.loop (λs=>∃ i:Nat,s.2=(i:Int)/\i<=(Pk l.Out k).length/\SF f.Slots.length s.1 (ZN QV f l.Out k i)) (λs=>(Pk l.Out k).length-s.2.toNat) ⟨0,rfl,aAD _,hm.congr λa v=>AiP⟩ ?_
    rintro⟨m2,_⟩ ⟨i,rfl,hi,hm2⟩;refine .dec (λhlt2=>?_) λhge2=>?_
    ·have hlt2:i<(Pk l.Out k).length:=by omega
     have hgx:(Pk l.Out k)[i]? =some (Pk l.Out k)[i]:=aAA _;have hxm:=aAE hlt2;generalize(Pk l.Out k)[i]=x at hgx hxm;have hx0:=hrow.2.1.2 x hxm;have hxn:=hrow.2.2 x hxm;simp only[Pp,hgx,aA,AoS];have w2:=OZ (show i<9223372036854775807 by omega)
     have skip:x=(OU f k).A\/QV (OU f k) x=true->Hs (Qb m2 ((OU f k).A,true) x (i:Int) false) (Rnd (λs=>∃ i:Nat,s.2=(i:Int)/\i<=(Pk l.Out k).length/\SF f.Slots.length s.1 (ZN QV f l.Out k i)) (λs=>(Pk l.Out k).length-s.2.toNat) (m2,(i:Int)) (Rnd (λs=>∃ k:Nat,s.2=(k:Int)/\k<=f.Code.length/\SF f.Slots.length s.1 (Vq QV f l.Out k)) (λs=>f.Code.length-s.2.toNat) (m,(k:Int)) (SB QV f l.Out))):=by
      intro hh;unfold Qb;rw[cond_false,w2];exact .cnt ⟨⟨i+1,rfl,hlt2,hm2.congr λa v=>AiO hgx hh⟩,by grind⟩
     refine .bne (λhne=>?_) λhe=>skip (.inl he)
     cases hmf:QV (OU f k) x
     ·rw[aBE];obtain⟨d,hde⟩:∃ d:Nat,(OU f k).A=(d:Int):=⟨_,(aAQ hA.1).symm⟩;obtain⟨y,rfl⟩:∃ y:Nat,x=(y:Int):=⟨_,(aAQ hx0.1).symm⟩;obtain⟨m',h1,h2⟩:=ApX hm2 (d:=d) (y:=y) (by omega) (by omega) (by omega) true (i:=i) (by omega)
      rw[hde,h1];refine .pure ⟨⟨i+1,rfl,hlt2,h2.congr λa v=>?_⟩,by grind⟩
      grind [AfQ]
     simp_all
    ·have hi:i=(Pk l.Out k).length:=by omega
     subst hi;rw[w];exact .lft (.cnt ⟨⟨k+1,rfl,hlt,hm2.congr λa v=>(Akv hdef hnm).symm⟩,by grind⟩)
   refine .beq (λh17=>.beq (λhab=>?_) λhab=>inner (λhh=>hab hh.2) _ _) λh17=>inner (λhh=>h17 hh.1) _ _
   rw[w];exact .cnt ⟨⟨k+1,rfl,hlt,hm.congr λa v=>Abz (.inr ⟨h17,hab⟩)⟩,by grind⟩
  ·rw[if_neg hdef];rw[w];exact .cnt ⟨⟨k+1,rfl,hlt,hm.congr λa v=>Abz (.inl (by omega))⟩,by grind⟩
 ·have hk:k=f.Code.length:=by omega
  subst hk;refine(Aod hm.1 hm.2.1 hsl).bind λout ho=>.pure (.inl ⟨rfl,hacc,ho.congr λa v ha=>?_⟩)
  constructor
  ·intro h;have hr:0<=v/\v<f.Slots.length:=by
    rcases h with h|h
    ·exact(Aln hf hd hacc.1 h).2
    ·exact(Aln hf hd hacc.1 h).1
   refine⟨hr.1,hr.2,(hm.2.2 a v.toNat ha (by omega)).2 ?_⟩
   rw[aAQ hr.1];exact h
  ·rintro⟨h0,h1,hc⟩;have:=(hm.2.2 a v.toNat ha (by omega)).1 hc
   rw[aAQ h0]at this;exact this
theorem Aum {a v:Int} (e:Ed mv f l a v):v≠a:=by
 obtain⟨j,hj,h1,h2,h3,h4,h5,_⟩:=e;exact h5
theorem PR.graph (h:PR f.Slots.length g λa v=>Ed mv f l a v\/Ed mv f l v a):Sg g f.Slots.length:=by
 obtain⟨h0,h⟩:=h;refine⟨by rw[h0],λx s hx=>⟨(h x s hx).1.1,(h x s hx).1.2,λhm=>?_⟩,λx s hx y hy=>?_⟩
 ·rcases((h x s hx).2 _).1 hm with e|e<;>exact Aum e rfl
 ·have hr:=(h x s hx).1;have y0:=(hr.1.2 y hy).1;have y1:=hr.2 y hy;have hgy:g[y.toNat]? =some (g[y.toNat]'(by omega)):=aAA _
  have:rowAt g y=g[y.toNat]'(by omega):=by simp[rowAt,hgy]
  rw[this,(h _ _ hgy).2];have e:((y.toNat:Nat):Int)=y:=aAQ y0;show Ed mv f l ((y.toNat:Nat):Int) x\/Ed mv f l x ((y.toNat:Nat):Int);rw[e];exact(((h x s hx).2 y).1 hy).symm
structure Aui (p:Pr) (i:Int) (f:Lo) (al:Int):Prop where
 hi:ixO p.Funcs i=some f
 arg:AdD p f
 slots:WI f.Slots
 alok:Te al
 al16:16<=al
 al64:al<=64
 len':f.Code.length<=10000
section
variable {p:Pr} {i:Int} {f:Lo} {al:Int} (h:Aui p i f al)
 include h
end
open Go Go.Dw Go.Proofs
theorem Te.max {a b:Int} (ha:Te a) (hb:Te b):Te (PF a b):=by unfold PF;split<;>assumption
theorem Arr (h:WI s):Hs (SE s) λa=>Te a/\16<=a/\a<=64:=by
 have a16:Te 16:=Wf 4 (by omega)
 have hl:=h.1;unfold SE;refine(Arp s).bind λe he=>.bne (λ_=>.pure ⟨a16,by omega,by omega⟩) λ_=>?_
 refine Hs.loop (λq=>∃ k:Nat,q.2=(k:Int)/\k<=s.length/\Te q.1/\16<=q.1/\q.1<=64) (λq=>s.length-q.2.toNat) ⟨0,rfl,aAD _,a16,by simp only;omega,by simp only;omega⟩ ?_
 rintro⟨a,_⟩ ⟨k,rfl,hk,h1,h2,h3⟩;replace h2:16<=a:=h2;replace h3:a<=64:=h3;unfold Xh;dsimp only;refine .dec (λhlt=>?_) λ_=>.lft (.pure ⟨h1,h2,h3⟩)
 have hlt:k<s.length:=by omega
 rw[OZ (by omega)]
 refine(Hs.ix (by omega) (by omega) λx hx=>h.2 x (aAF hx)).bind λx hx=>.cnt ⟨⟨k+1,rfl,hlt,h1.max hx.1,?_,?_⟩,by simp only;omega⟩
 ·have:=hx.2.1;simp only;unfold PF;split<;>omega
 ·have:=hx.2.1;simp only;unfold PF;split<;>omega
theorem AqY (hp:p.Funcs.length<=1000) (h:∀ f∈p.Funcs,WI f.Slots):Hs (TR p) λa=>Te a/\16<=a/\a<=64:=by
 have a16:Te 16:=Wf 4 (by omega)
 unfold TR;refine Hs.loop (λq=>∃ k:Nat,q.2=(k:Int)/\k<=p.Funcs.length/\Te q.1/\16<=q.1/\q.1<=64) (λq=>p.Funcs.length-q.2.toNat) ⟨0,rfl,aAD _,a16,by simp only;omega,by simp only;omega⟩ ?_
 rintro⟨a,_⟩ ⟨k,rfl,hk,h1,h2,h3⟩;replace h2:16<=a:=h2;replace h3:a<=64:=h3;unfold ZB;dsimp only;refine .dec (λhlt=>?_) λ_=>.lft (.pure ⟨h1,h2,h3⟩)
 have hlt:k<p.Funcs.length:=by omega
 rw[OZ (by omega)]
 refine(Hs.ix (by omega) (by omega) λx hx=>h x (aAF hx)).bind λx hx=>(Arr hx).bind λb hb=>.cnt ⟨⟨k+1,rfl,hlt,h1.max hb.1,?_,?_⟩,by simp only;omega⟩
 ·simp only;unfold PF;split<;>omega
 ·simp only;unfold PF;split<;>omega
theorem Aam.args {ps:List Int} {most:Int} (h:Aam ps i most f) (hi:0<=i) (hl:p.Funcs.length=ps.length) (hps:AsC ps) (hall:∀ (j:Nat) g,p.Funcs[j]? =some g->Aam ps j most g):AdD p f:=by
 intro x hx;obtain⟨k,hk⟩:=aAH hx;have hkl:=(aAC.1 hk).1
 by_cases hk1:k+1<f.Code.length
 ·have hins:=h.body k x hk hk1;cases hins with
  | call j h0 h1 =>
   refine⟨λe=>by simp at e,λ_=>⟨by simp only;omega,?_⟩⟩
   have hg:p.Funcs[j.toNat]? =some (p.Funcs[j.toNat]'(by omega)):=aAA _
   have:=(hall _ _ hg).par;exact⟨_,hg,hps.1 _ (aAF this)⟩
  | arg a b h0 h1 h2=>exact⟨λ_=>⟨h0,h1⟩,λe=>by simp at e⟩
  | bin op a b c h1 h2 h3 h4 h5 h6=>exact⟨λe=>by simp only at e;omega,λe=>by simp only at e;omega⟩
  | un op a h1 h2=>exact⟨λe=>by simp only at e;omega,λe=>by simp only at e;omega⟩
  | _=>exact⟨λe=>by simp at e,λe=>by simp at e⟩
 ·have he:=h.last x (by rw[show f.Code.length-1=k by omega];exact hk)
  rcases he with rfl|⟨w,_,rfl⟩<;>exact⟨λe=>by simp at e,λe=>by simp at e⟩
structure Opt (p:Pr) (i:Int) (f:Lo):Prop where
 hi:ixO p.Funcs i=some f
 arg:AdD p f
 so:∀ x∈f.Slots,TV x
 sl:f.Slots.length<=7
 ApU:Ps f
 defs:RU f
 ml:AbK f
 last:Aff f
 calls:AcU p.Funcs.length f
 pl:p.Funcs.length<=1000
 all:∀ g∈p.Funcs,WI g.Slots
section
variable {p:Pr} {i:Int} {f:Lo}
theorem XR.slot (hs:∀ x∈f.Slots,TV x) {r:Pj} (htl:r.To.length=f.Slots.length) {used:List Int} {out:List Pa} (h:XR f r used out):∀ y∈out,TV y:=by
 intro y hy;obtain⟨j,hj⟩:=aAH hy;have hjl:=(aAC.1 hj).1;have hu:used[j]? =some (used[j]'(by rw[<- h.len];exact hjl)):=aAA _
 obtain⟨x,l,h1,h2,h3,h4⟩:=h.at_ j _ y hu hj;have hx:=hs x (aAF h1);unfold TV;rw[h2];refine⟨hx.1,?_⟩;rcases h4.2.2 with e|⟨t,ht,e⟩
 ·rw[e];exact hx.2
 ·obtain⟨k,hk,rfl,_⟩:=(h3 t).1 ht;have hs':f.Slots[k]? =some (f.Slots[k]'(by omega)):=aAA _
  have:alS f (k:Int)=(f.Slots[k]'(by omega)).Align:=by grind [alS]
  rw[e,this];exact(hs _ (aAE _)).2
theorem AqU (pl:List Int) (x:OX):(mvI pl x).Op=x.Op:=by
 grind [mvI]
theorem AlV {to pl:List Int} {x:OX} (h:x.Op=18\/x.Op=22):mvI pl (rnI to x)=x:=by
 have e:rnI to x=x:=by
  unfold rnI
  grind
 rw[e];unfold mvI
 grind
theorem AlE {q:Lo} (hi:ixO p.Funcs i=some f) (hq:q.Params=f.Params) (a:Nat):((p.Funcs.set i.toNat q)[a]?).map Lo.Params=(p.Funcs[a]?).map Lo.Params:=by
 obtain⟨i0,i1,h⟩:=AkG hi
 grind
theorem Ann {q:Lo} {r:Pj} {to pl:List Int} (hi:ixO p.Funcs i=some f) (hq:q.Params=f.Params) (hr:We f r):∀ k:Nat,k<=f.Code.length->(TB f r.Keep to pl k).foldl (SP ⟨p.Funcs.set i.toNat q⟩) 0=(f.Code.take k).foldl (SP p) 0
 | 0,_=>by simp[TB]
 | k+1,hk=>by
  have ih:=Ann (to:=to) (pl:=pl) hi hq hr k (by omega)
  have hx:OU f (k:Nat)=f.Code[k]'(by omega):=by grind [OU]
  rw[Ajf,aAS,ih,aAN (by omega),aAS,<- hx]
  generalize(f.Code.take k).foldl (SP p) 0=n
  by_cases hk':Po r.Keep k=true
  ·rw[if_pos hk']
   grind [SP,AlV,AlE,AqU,Aee]
  ·rw[if_neg hk'];have:=hr.2.2 k (by omega) (by simp_all)
   show n=SP p n (OU f (k:Nat));unfold SP;omega
structure Auj (p:Pr) (i:Int) (f:Lo) (x:Rl) (a0:Int) (q:Lo) (off:List Int):Prop where
 live:UN f x.Live.Out
 rw_:We f x.Rename
 cls:∃ g:List (List Int),PR f.Slots.length g (λa v=>Ed QZ f x.Live.Out a v\/Ed QZ f x.Live.Out v a)/\Zp f g x.Rename.To/\Tw f g=some x.Rename.To
 keep:∀ k:Nat,k<f.Code.length->(Po x.Rename.Keep k=true↔¬ TN f x.Live.Out k/\¬ ((OU f k).Op=17/\Pc x.Rename.To (OU f k).A=Pc x.Rename.To (OU f k).B))
 app:Afd f x.Rename (q,0)
 ref:Ri f x.Rename=some (q,0)
 ApU:Ps q
 defs:RU q
 after:UN q x.LiveAfter.Out
 hal:TR p=some a0
 al:Te a0/\16<=a0/\a0<=64
 arg:AdD ⟨p.Funcs.set i.toNat q⟩ q
 args:Sq ⟨p.Funcs.set i.toNat q⟩ q q.Code.length=Sq p f f.Code.length
 slot:∀ x∈q.Slots,TV x
 slots:q.Slots.length<=f.Slots.length
 strict:∃ s:List (List Int),PR q.Slots.length s (λa v=>Ed QV q x.LiveAfter.Out a v\/Ed QV q x.LiveAfter.Out v a)/\Xp q.Slots s (16*Sq p f f.Code.length)=some (off,0)
 lay:x.Layout=AiU ⟨p.Funcs.set i.toNat q⟩ q a0 off
theorem Apk {a b:Ph} (h:a.Out=b.Out):a=b:=by cases a;simp_all
theorem ApZ (hf:Ps f) (hd:RU f) {l:Ph} (hl:Acc f l.Out):∃ g,Uk f l=some (g,0)/\Aaq f l=some (g,0)/\PR f.Slots.length g λa v=>Ed QZ f l.Out a v\/Ed QZ f l.Out v a:=by
 have hlen:=hl.1.len hf;obtain⟨a,h1,h2⟩:=AqI hf hd hlen;have key:Hs (Aaq f l) (SB QZ f l.Out):=by
  exact(Ajs hf hd hlen false).bind λr hr=>.pure hr
 obtain⟨b,k1,k2⟩:=key;obtain rfl:=h2.unique k2;obtain⟨g,e⟩:=a;rcases h2 with⟨q1,_,q3⟩|⟨_,q2,_⟩
 all_goals simp_all
theorem AoW (hf:Ps f) (hd:RU f) {l:Ph} (hl:Acc f l.Out):∃ g,Vc f l=some (g,0)/\AfE f l=some (g,0)/\PR f.Slots.length g λa v=>Ed QV f l.Out a v\/Ed QV f l.Out v a:=by
 have hlen:=hl.1.len hf;obtain⟨a,h1,h2⟩:=ApW hf hd hlen;have key:Hs (AfE f l) (SB QV f l.Out):=by
  exact(Ajs hf hd hlen true).bind λr hr=>.pure hr
 obtain⟨b,k1,k2⟩:=key;obtain rfl:=h2.unique k2;obtain⟨g,e⟩:=a;rcases h2 with⟨q1,_,q3⟩|⟨_,q2,_⟩
 all_goals simp_all
theorem Aji (h:Opt p i f):∃ x al q off,RZ p i=some x/\Aiw p i=some x/\Auj p i f x al q off:=by
 obtain⟨i0,i1,hif⟩:=AkG h.hi;have hf:=h.ApU;have hlen:=hf.len';obtain⟨l,el,hl⟩:=Amw hf;obtain⟨l',el',hl'⟩:=Aop hf;obtain rfl:=Apk (hl'.unique hl);have hacc:=hl.acc hf;obtain⟨g,eg,eg',hg⟩:=ApZ hf h.defs hacc;obtain⟨to,ec,ec'⟩:=Anz hf h.ml hg;have hcls:Zp f g to:=by
  obtain⟨to',e,hto⟩:=Alf hlen hf.slots h.ml hg (λx y r s hr hs hy=>((hg.2 y s hs).2 _).2 (((hg.2 x r hr).2 _).1 hy).symm) λx r hr hx=>by
   rcases((hg.2 x r hr).2 _).1 hx with⟨_,_,_,_,_,_,h',_⟩|⟨_,_,_,_,_,_,h',_⟩<;>exact h' rfl
  simp_all
 obtain⟨keep,ek,ek'⟩:=AqQ hf hacc.1 h.ml hcls.ok.1;have hkeep:keep.length=f.Code.length/\∀ k:Nat,k<f.Code.length->(Po keep k=true↔¬ TN f l'.Out k/\¬ ((OU f k).Op=17/\Pc to (OU f k).A=Pc to (OU f k).B)):=by
  obtain⟨kp,e,hk⟩:=AlR hf hacc.1 h.ml hcls.ok.1;simp_all
 have hr:We f ⟨to,keep⟩:=by
  obtain⟨g2,e1,t2,e2,k2,e3,hr⟩:=ApB hf h.defs h.ml hacc;simp_all
 obtain⟨⟨q,qe⟩,ea,ea',hx⟩:=Apy hf h.defs hr;have qe0:qe=0:=hx.1;subst qe0;obtain⟨qf,qd,qc⟩:Ps q/\RU q/\AcU p.Funcs.length q:=by
  obtain⟨q',e,_,h1,h2,h3⟩:=AoF hf h.defs h.last h.calls hr;simp_all
 obtain⟨l2,e2,hl2⟩:=Amw qf;obtain⟨l2',e2',hl2'⟩:=Aop qf;obtain rfl:=Apk (hl2'.unique hl2);have hacc2:=hl2.acc qf;obtain⟨s,es,es',hs⟩:=AoW qf qd hacc2;have hqp:q.Params=f.Params:=hx.2.1;obtain⟨_,_,used,to',pl,hu,hsx,hn,hpl,hcode⟩:=id hx;have hslot:=XR.slot h.so hr.1.1 hsx;have hul:q.Slots.length<=f.Slots.length:=by
  rw[hsx.len];have:=AjC (l:=used) (a:=0) (n:=(f.Slots.length:Int)) hu.1.1 λv hv=>by
   obtain⟨_,j,hj,hk,hv'⟩:=(hu.2 v).1 hv;exact Aec hf h.defs hr.1 (hf.at (j:=(j:Int)) (by omega) (by omega)).2 v hv'
  omega
 have hargs:Sq ⟨p.Funcs.set i.toNat q⟩ q q.Code.length=Sq p f f.Code.length:=by
  unfold Sq;rw[aAG,aAG,hcode,Ann h.hi hqp hr _ (aAL _),aAG]
 have harg:AdD ⟨p.Funcs.set i.toNat q⟩ q:=by
  intro y hy;rw[hcode]at hy;obtain⟨pn,hp⟩:=aAH hy;obtain⟨j,h1,_,_,rfl⟩:=(Zg (f:=f) (keep:=keep) (to:=to') (pl:=pl) _ (by omega)).2 pn y hp
  have hm:=(hf.at (j:=(j:Int)) (by omega) (by omega)).2
  rw[AqU,Aee];refine⟨λe=>?_,λe=>?_⟩
  ·rw[AlV (.inl e)];exact(h.arg _ hm).1 e
  ·rw[AlV (.inr e)];obtain⟨a0,gg,hgg,hpp⟩:=(h.arg _ hm).2 e;refine⟨a0,?_⟩;have hsp:=AlE (p:=p) h.hi hqp (OU f (j:Nat)).A.toNat
   grind
 have hset:ixO (⟨p.Funcs.set i.toNat q⟩:Pr).Funcs i=some q:=by
  grind [QB]
 have hk4:=AcX h.arg (aAL f.Code.length);have eo:=Atz p q (by have:=h.pl;omega) i0 (by omega)
 have eo':=Asr p q (by have:=h.pl;omega) i0 (by omega)
 have epa:Xt ⟨p.Funcs.set i.toNat q⟩ i=some (16*Sq p f f.Code.length):=by
  rw[Aof hset qf.len' harg,hargs]
 have era:=Aoh h.hi hlen h.arg;have hsl:WI q.Slots:=⟨by have:=h.sl;omega,λx hx=>(hslot x hx).al⟩
 have hG:Sg s q.Slots.length:=hs.graph;have hgl:∀ row∈s,row.length<=512:=λrow hrow=>by
  obtain⟨k,hk⟩:=aAH hrow;exact(hs.2 k row hk).1.1.length_le
 obtain⟨off,eas,eas'⟩:=AoH hsl hslot hG hgl (frm:=16*Sq p f f.Code.length) (by omega)
 obtain⟨al,eal,eal'⟩:=AoT p (by have:=h.pl;omega)
 have hal:Te al/\16<=al/\al<=64:=by
  obtain⟨a,e,ha⟩:=AqY h.pl h.all;simp_all
 obtain⟨hol,hop⟩:off.length=q.Slots.length/\∀ y:Nat,y<q.Slots.length->Plc q.Slots (16*Sq p f f.Code.length) (16*Sq p f f.Code.length+80*q.Slots.length) off y:=by
  obtain⟨r,e,_,h1,h2,_⟩:=Aqt hsl hslot hG hgl (frm:=16*Sq p f f.Code.length) (by omega)
  simp_all
 have hbnd:∀ y:Nat,y<q.Slots.length->0<=oN off y/\0<=szN q.Slots y/\oN off y+szN q.Slots y<=1000:=λy hy=>by
  obtain⟨p1,p2,_⟩:=hop y hy;have hsy:q.Slots[y]? =some q.Slots[y]:=aAA _;obtain⟨_,_,b3,b4⟩:=hsl.2 _ (aAE hy);rw[<- (VF hsy).1]at b3 b4;have:=hsl.1;omega
 have efn:=AtB (p:=⟨p.Funcs.set i.toNat q⟩) (B:=1000) hset qf.len' harg (by have:=hsl.1;omega) hal.1 hol (by omega) hbnd
 have efn':=AtH (p:=⟨p.Funcs.set i.toNat q⟩) (B:=1000) hset qf.len' harg (by have:=hsl.1;omega) hal.1 hol (by omega) hbnd
 refine⟨⟨l',⟨to,keep⟩,l2',AiU ⟨p.Funcs.set i.toNat q⟩ q al off⟩,al,q,off,?_,?_,⟨hl,hr,⟨g,hg,hcls,ec'⟩,hkeep.2,hx,ea',qf,qd,hl2,eal',hal,harg,hargs,hslot,hul,⟨s,hs,eas'⟩,rfl⟩⟩
 ·unfold RZ VT VS Vo Vp;simp only[h.hi,aA,el,eg,ec,ek,ea,e2,eo,es,epa,eas,bne_self_eq_false,cond_false,eal,efn,beq_self_eq_true,cond_true]
 ·unfold Aiw;simp only[h.hi,aA,el',eg',ec',ek',ea',e2',es',era,eas',bne_self_eq_false,cond_false,eo',eal',efn']
end
end Go.Proofs.YtilmapojncgflaaGreatDoor
namespace Go.Dw
end Go.Dw
namespace Go.Proofs.YtilmapojncgflaaGreatDoor
open Go Go.Dw Go.Proofs
variable {k:Nat} {l:List (List Int)}
abbrev Apz:Lo:=Lo.mk 0 ([]) ([(OX.mk 23 0 0 0 0)]:List OX)
theorem ArJ:Opt ⟨[Apz]⟩ 0 Apz:=by
 have one:∀ x∈Apz.Code,x=OX.mk 23 0 0 0 0:=λx hx=>by simpa using hx
 refine⟨rfl,λx hx=>?_,λx hx=>(by cases hx),by simp,⟨by simp,by simp,by simp,λk x hx j hj=>?_,λx hx v hv=>?_⟩,λx hx hop=>?_,λx hx hop=>?_,.inl rfl,λx hx hop=>?_,by simp,λg hg=>?_⟩
 ·rw[one x hx];exact⟨λh=>by simp at h,λh=>by simp at h⟩
 ·have:=one x (aAF hx);subst this;simp[PI]at hj
 ·rw[one x hx]at hv;simp[PT]at hv
 ·rw[one x hx]at hop;simp at hop
 ·rw[one x hx]at hop;simp at hop
 ·rw[one x hx]at hop;simp at hop
 ·have:g=Apz:=by simpa using hg
  subst this;exact⟨by simp,λx hx=>by cases hx⟩
theorem AsJ:Aap=some true:=by
 obtain⟨x,al,q,off,h1,_,h3⟩:=Aji ArJ;have e1:x.Live.Out.length=1:=h3.live.ok.1;have e2:x.Rename.Keep.length=1:=h3.rw_.2.1;unfold Aap;rw[h1,aA,e1,e2];rfl
theorem Aqo.one {funcs most:Int} {p:Pr} (h:Aqo funcs most p):1<=p.Funcs.length:=by
 obtain⟨ps,hps,hz,hp1,hp2,hfl,hall⟩:=h;omega
def iS (k:Nat):OX:=⟨if k=0 then 16 else 17,(k:Int),if k=0 then 1 else(k:Int)-1,0,0⟩
def ldM (n:Nat):OX:=⟨15,0,(n:Int),0,0⟩
def rtM:OX:=⟨23,0,0,0,0⟩
def cdM (n:Nat):List OX:=(aAW (n+1)).map iS++[ldM n,rtM]
def fM (n:Nat) (s:Pa):Lo:=⟨0,aAI (n+1) s,cdM n⟩
theorem Adb (n:Nat):(cdM n).length=n+3:=by simp[cdM]
theorem AjD (k:Nat):(iS k).Op=16\/(iS k).Op=17:=by grind [iS]
section
variable {n:Nat} {s:Pa}
theorem AdO (h:k<=n):OU (fM n s) (k:Int)=iS k:=by
 grind [OU,fM,cdM]
theorem AlL:OU (fM n s) ((n+1:Nat):Int)=ldM n:=by
 grind [OU,fM,cdM]
theorem Anq:OU (fM n s) ((n+2:Nat):Int)=rtM:=by
 grind [OU,fM,cdM]
theorem Alv {x:OX} (h:x∈cdM n):(∃ k≤n,x=iS k)\/x=ldM n\/x=rtM:=by
 unfold cdM at h
 grind
theorem Alb (hk:k<n+3):(k<=n/\OU (fM n s) (k:Int)=iS k)\/(k=n+1/\OU (fM n s) (k:Int)=ldM n)\/(k=n+2/\OU (fM n s) (k:Int)=rtM):=by
 grind [AdO,AlL,Anq]
theorem AfA {x:OX} {k:Int} (h:x.Op=15\/x.Op=16\/x.Op=17):PI x k=[k+1]:=by
 unfold PI
 grind
theorem ApV (hn:n<=6):Ps (fM n s):=by
 have hl:(fM n s).Code.length=n+3:=Adb n;have hsl:(fM n s).Slots.length=n+1:=by simp[fM]
 refine⟨by omega,by omega,by omega,λk x hx j hj=>?_,λx hx v hv=>?_⟩
 ·have hkl:=(aAC.1 hx).1;have he:OU (fM n s) (k:Int)=x:=by grind [OU]
  rcases Alb (n:=n) (s:=s) (k:=k) (by omega)with⟨h1,h2⟩|⟨h1,h2⟩|⟨h1,h2⟩
  ·grind [AfA,AjD]
  ·rw[he]at h2;subst h2;rw[AfA (.inl rfl)]at hj
   grind
  ·rw[he]at h2;subst h2;simp[PI,rtM]at hj
 ·rcases Alv hx with⟨k,hk,rfl⟩|rfl|rfl
  ·grind [PT,iS]
  ·grind [PT,ldM]
  ·simp[PT,rtM]at hv
theorem AuB (hn:n<=6) (hs:TV s):Opt ⟨[fM n s]⟩ 0 (fM n s):=by
 have hl:(fM n s).Code.length=n+3:=Adb n;have hsl:(fM n s).Slots.length=n+1:=by simp[fM]
 have hso:∀ x∈(fM n s).Slots,x=s:=λx hx=>(List.mem_replicate.1 hx).2
 have hop:∀ x∈(fM n s).Code,x.Op=15\/x.Op=16\/x.Op=17\/x.Op=23:=λx hx=>by
  rcases Alv hx with⟨k,hk,rfl⟩|rfl|rfl
  ·grind [AjD]
  ·exact .inl rfl
  ·exact .inr (.inr (.inr rfl))
 have hA:∀ x∈(fM n s).Code,x.Op=16\/x.Op=17->∃ k≤n,x=iS k:=λx hx h=>by
  rcases Alv hx with h'|rfl|rfl
  ·exact h'
  ·grind [ldM]
  ·simp[rtM]at h
 have hz:∀ j:Int,0<=j->j<(n+1:Nat)->RO (fM n s) j=s.Size:=λj h0 h1=>by
  unfold RO fM;simp_all
 refine⟨rfl,λx hx=>?_,λx hx=>(by grind),by omega,ApV hn,λx hx h=>?_,λx hx h=>?_,?_,λx hx h=>?_,by simp,λg hg=>?_⟩
 ·grind
 ·grind [iS]
 ·obtain⟨k,hk,rfl⟩:=hA x hx (.inr h);have hk0:k≠0:=λe=>by grind [iS]
  have eB:(iS k).B=(k:Int)-1:=by grind [iS]
  have eA:(iS k).A=(k:Int):=rfl
  grind
 ·unfold Aff;rw[hl,show n+3-1=n+2 by omega,Anq]
  exact .inl rfl
 ·grind
 ·have:g=fM n s:=by simp_all
  subst this;exact⟨by omega,λx hx=>by rw[hso x hx];exact hs.al⟩
theorem Auo (hn:n<=6) (h:Acc (fM n s) l) (hk:k<=n):(k:Int)∈Pk l (k:Int):=by
 have hl:(fM n s).Code.length=n+3:=Adb n;have hf:=ApV (s:=s) hn;have hin:∀ j:Nat,j<n+3->∀ v,v∈PT (OU (fM n s) (j:Int))->v∈inN (OU (fM n s) (j:Int)) (Pk l (j:Int)):=λj hj v hv =>
  ((Xd hf (hf.at (j:=(j:Int)) (by omega) (by omega)).2 (h.1.at (j:=(j:Int)) (by omega) (by omega)).2).2 v).2 (.inr hv)
 have hnx:((k+1:Nat):Int)∈PI (OU (fM n s) (k:Int)) (k:Int):=by
  grind [AdO,AfA,AjD]
 refine h.mem hf (by omega) hnx (hin (k+1) (by omega) _ ?_)
 by_cases e:k=n
 ·grind [AlL,PT,ldM]
 ·rw[AdO (by omega)]
  simp[PT,iS]
def AfM (n:Nat):List (List Int):=(aAW (n+3)).map λk=>if k<=n then[(k:Int)]else[]
theorem Ahx (hk:k<n+3):Pk (AfM n) (k:Int)=if k<=n then[(k:Int)]else[]:=by
 grind [Pk,AfM]
theorem ArM (hn:n<=6):QA (fM n s) (AfM n):=by
 have hl:(fM n s).Code.length=n+3:=Adb n;have hsl:(fM n s).Slots.length=n+1:=by simp[fM]
 refine⟨by grind [AfM],λt ht=>?_⟩
 obtain⟨k,hk,rfl⟩:=List.mem_map.1 ht;rw[hsl];split
 ·rename_i h;refine⟨⟨aAx _ _,λx hx=>?_⟩,λx hx=>?_⟩
  all_goals grind
 grind [PE.nil]
theorem Aup (hn:n<=6) (h:UN (fM n s) l) (hk:k<n+3) {v:Int} (hv:v∈Pk l (k:Int)):k<=n/\v=(k:Int):=by
 have hl:(fM n s).Code.length=n+3:=Adb n;have hf:=ApV (s:=s) hn;have hc:=ArM (s:=s) hn;have hle:LE (Sp (fM n s) (AfM n)) (AfM n):=by
  intro j a b ha hb u hu;have hj:j<n+3:=by grind [AfM]
  rw[Wc (by omega)]at ha
  cases ha;have hb':b=Pk (AfM n) (j:Int):=by grind [Pk]
  rw[hb',Ahx hj];obtain⟨m,hm,hum⟩:=((Td hf hc (k:=j) (by omega)).2 u).1 hu
  rcases Alb (n:=n) (s:=s) hj with⟨h1,h2⟩|⟨h1,h2⟩|⟨h1,h2⟩
  ·rw[if_pos h1];rw[h2,AfA (by grind [AjD])]at hm
   have hm:m=((j+1:Nat):Int):=by simp_all
   subst hm;rcases((Xd hf (hf.at (j:=((j+1:Nat):Int)) (by omega) (by omega)).2 (hc.at (j:=((j+1:Nat):Int)) (by omega) (by omega)).2).2 u).1 hum with⟨g1,g2⟩|g
   ·rw[Ahx (by omega)]at g1
    split at g1
    ·rename_i hle;have:=aAM.1 g1;subst this;exact(g2 ⟨by rw[AdO hle];exact AjD _,by rw[AdO hle];rfl⟩).elim
    ·cases g1
   ·by_cases e:j=n
    ·grind [AlL,PT,ldM]
    ·rw[AdO (by omega)]at g
     grind [PT,iS]
  ·rw[h2,AfA (.inl rfl)]at hm;have hm:m=((n+2:Nat):Int):=by grind
   subst hm;rcases((Xd hf (hf.at (j:=((n+2:Nat):Int)) (by omega) (by omega)).2 (hc.at (j:=((n+2:Nat):Int)) (by omega) (by omega)).2).2 u).1 hum with⟨g1,_⟩|g
   ·rw[Ahx (by omega),if_neg (by omega)]at g1;cases g1
   ·rw[Anq]at g;simp[PT,rtM]at g
  ·rw[h2]at hm;simp[PI,rtM]at hm
 have hll:=h.least _ hc hle;have e1:=(h.ok.at (j:=(k:Int)) (by omega) (by omega)).1
 have e2:=(hc.at (j:=(k:Int)) (by omega) (by omega)).1
 rw[aAB]at e1 e2;have:=hll k _ _ e1 e2 v hv
 grind [Ahx]
theorem Aua {mv:OX->Int->Bool} (hn:n<=6) (h:UN (fM n s) l) {a v:Int}:¬ Ed mv (fM n s) l a v:=by
 have hl:(fM n s).Code.length=n+3:=Adb n;rintro⟨k,hk,h1,h2,_,h3,h4,_⟩;obtain⟨g1,g2⟩:=Aup hn h (by omega) h3
 rw[AdO g1]at h1;exact h4 (by rw[g2,h1];rfl)
def Ane (to:List Int) (p:Pn):List Int:=if Pc to p.a0=Pc to p.a1 then to else VQ to (Pc to p.a0) (Pc to p.a1)
theorem Aru {g:List (List Int)} (h:∀ to a b,Sf g to a b) (to:List Int) (p:Pn):RW g to p=Ane to p:=by
 grind [Ane,AkW,AkV]
theorem Auw (h1:1<=n) (h2:n<=6):(SD (cdM n) []).foldl Ane ((aAW (n+1)).map λi:Nat=>(i:Int))=aAI (n+1) 0:=by
 have:n=1\/n=2\/n=3\/n=4\/n=5\/n=6:=by omega
 rcases this with rfl|rfl|rfl|rfl|rfl|rfl<;>decide
def Aci (n:Nat):List Bool:=true::(aAI n false++[true,true])
theorem Ams (n:Nat):(Aci n).length=n+3:=by simp[Aci]
theorem Aqb (h1:1<=n) (h2:n<=6):kept (Aci n) (n+3)=3:=by
 have:n=1\/n=2\/n=3\/n=4\/n=5\/n=6:=by omega
 rcases this with rfl|rfl|rfl|rfl|rfl|rfl<;>decide
theorem ArZ (hk:k<n+3):Po (Aci n) k=true↔(OU (fM n s) (k:Int)).Op≠17:=by
 rcases Alb (n:=n) (s:=s) hk with⟨h1,h2⟩|⟨h1,h2⟩|⟨h1,h2⟩
 ·rw[h2];cases k with
  | zero=>simp[Po,Aci,iS]
  | succ k =>
   have e:Po (Aci n) (k+1)=false:=by
    unfold Po Aci
    grind
   grind [iS]
 ·grind [Po,Aci,ldM]
 ·subst h1;have e:Po (Aci n) (n+2)=true:=by
   grind [Po,Aci]
  rw[e,h2];simp[rtM]
theorem AmC (m:Nat) (j:Int):Pc (aAI m 0) j=0:=by
 grind [Pc]
theorem AtS:Sq ⟨[fM n s]⟩ (fM n s) (fM n s).Code.length=0:=by
 unfold Sq;rw[aAG];have:∀ l:List OX,(∀ x∈l,x.Op≠18/\x.Op≠22)->l.foldl (SP ⟨[fM n s]⟩) 0=0:=by
  intro l
  induction l<;>simp_all[SP]
 refine this _ λx hx=>?_
 rcases Alv hx with⟨k,hk,rfl⟩|rfl|rfl
 ·grind [AjD]
 ·simp[ldM]
 ·simp[rtM]
theorem Asd (m:Nat):∀ b:Int,(aAI m s).foldl (λa x=>PF a x.Align) b=if m=0 then b else PF b s.Align:=by
 induction m<;>simp_all[List.replicate_succ,Un]
theorem AtQ (hs:TV s) (hn:n<=6):TR ⟨[fM n s]⟩=some (max 16 s.Align):=by
 have h1:Tc (aAI (n+1) s)=some 0:=by
  obtain⟨e,h,rfl⟩:=Agi (s:=aAI (n+1) s) (λx hx=>by simp_all) (by simp;omega)
  exact h
 have h2:SE (aAI (n+1) s)=some (max 16 s.Align):=by
  rw[Ard h1 (by simp;omega)]
  unfold Xg;rw[Asd,if_neg (by omega),Un]
 have key:Hs (TR ⟨[fM n s]⟩) λa=>a=max 16 s.Align:=by
  refine Hs.loop (λq=>q=(16,(0:Int))\/q=(max 16 s.Align,(1:Int))) (λq=>1-q.2.toNat) (.inl rfl) ?_
  rintro _ (rfl|rfl)
  ·unfold ZB;dsimp only;refine .dec (λ_=>?_) λh=>(h (by simp)).elim
   rw[AkH];show Hs ((SE (aAI (n+1) s)).bind _) _;rw[h2,aA];refine .cnt ⟨.inr ?_,by simp_all⟩
   simp_all[Un]
  ·exact .dec (λh=>absurd h (by simp)) λ_=>.lft (.pure rfl)
 obtain⟨r,h,rfl⟩:=key;exact h
theorem Asn (h1:1<=n) (h2:n<=6) (hs:TV s):∃ x q,RZ ⟨[fM n s]⟩ 0=some x/\Ri (fM n s) x.Rename=some (q,0)/\q.Code.length=3/\q.Slots.length=1/\x.Layout.Off=[0]/\x.Layout.Size=max 16 s.Align:=by
 have hO:=AuB h2 hs;have hf:=hO.ApU;have hl:(fM n s).Code.length=n+3:=Adb n;have hsl:(fM n s).Slots.length=n+1:=by simp[fM]
 obtain⟨x,al,q,off,e1,_,hx⟩:=Aji hO;have hacc:=hx.live.acc hf;refine⟨x,q,e1,hx.ref,?_⟩;obtain⟨g,hg,_,hcl⟩:=hx.cls;have hap:∀ to a b,Sf g to a b:=λto a b u v row _ _ _ _ hrow hv=>by
  rcases((hg.2 u row hrow).2 _).1 hv with h|h
  ·exact Aua h2 hx.live h
  ·exact Aua h2 hx.live h
 have hTo:x.Rename.To=aAI (n+1) 0:=by
  obtain⟨to,e,ht⟩:=Aki hf hO.ml hg;rw[hcl]at e;cases e;rw[ht];unfold AnG;have:RW g=Ane:=by grind [Aru]
  rw[this,hsl];exact Auw h1 h2
 have hKeep:x.Rename.Keep=Aci n:=by
  refine Akg (n:=n+3) (p:=λk=>(OU (fM n s) (k:Int)).Op≠17) ⟨by rw[hx.rw_.2.1,hl],λk hk=>?_⟩ ⟨Ams n,λk hk=>ArZ hk⟩
  rw[hx.keep k (by omega),hTo]
  constructor
  ·grind [AmC]
  ·intro h;refine⟨λhd=>?_,λh'=>h h'.1⟩
   rcases Alb (n:=n) (s:=s) hk with⟨g1,g2⟩|⟨_,g2⟩|⟨_,g2⟩
   ·have:=hd.2;rw[g2]at this;exact this (Auo h2 hacc g1)
   ·have:=hd.1
    grind [ldM]
   ·have:=hd.1;rw[g2]at this;simp[rtM]at this
 obtain⟨_,_,used,to,pl,hu,hsx,hn,hpl,hcode⟩:=hx.app;have hcl3:q.Code.length=3:=by
  simp_all[Zg,Ams,Aqb]
 have hrn:∀ j:Int,0<=j->j<=n->rnS x.Rename.To j=0:=λj h0 h1=>by
  rw[hTo];unfold rnS;rw[if_pos ⟨h0,by simp;omega⟩,AmC]
 have hus:used=[0]:=by
  have z:PQ ([0]:List Int):=⟨aAx _ _,λv hv=>by simp_all⟩
  refine TC.eq (q:=λv=>v=0) hu ⟨z,λv=>?_⟩ λv h0 h1'=>?_
  ·simp_all
  ·constructor
   ·rintro⟨k,hk,_,hv⟩;obtain⟨w,hw,rfl⟩:=(Afz _ _ _).1 hv;have:=Ajd hf hO.defs (hf.at (j:=(k:Int)) (by omega) (by omega)).2 hw
    grind
   ·rintro rfl;refine⟨0,by omega,by rw[hKeep];rfl,(Afz _ _ _).2 ⟨0,?_,(hrn 0 (by omega) (by omega)).symm⟩⟩
    rw[show((0:Nat):Int)=((0:Nat):Int)from rfl,AdO (aAD _)]
    grind [PO,iS]
 subst hus;have hq1:q.Slots.length=1:=hsx.len;refine⟨hcl3,hq1,?_⟩;have hy:q.Slots[0]? =some (q.Slots[0]'(by omega)):=aAA _
 generalize(q.Slots[0]'(by omega))=y at hy
 have hys:y.Size=s.Size:=by
  obtain⟨z,l,z1,z2,_⟩:=hsx.at_ 0 0 y rfl hy;simp_all[fM]
 have hss:=hs.al;obtain⟨st,hst,hasg⟩:=hx.strict;rw[AtS]at hasg;have hqs:WI q.Slots:=⟨by omega,λx h=>(hx.slot x h).al⟩
 have hoff:off=[0]:=by
  obtain⟨r,e,hr⟩:=AlA hqs hx.slot hst.graph (λrow hrow=>by
   obtain⟨j,hj⟩:=aAH hrow
   exact(hst.2 j row hj).1.1.length_le) (frm:=16*0) (by omega)
  rw[hasg]at e;cases e;have hr:=congrArg Prod.fst hr;simp only at hr;rw[hr,hq1];have e1:Qv (bfS q.Slots) (idI 1)=[0]:=rfl;have e2:Aja q.Slots st (16*0) [false] [0] 0=0:=by
   refine Amv (l:=[]) (λu=>⟨λh=>(by cases h),λ⟨y,hy,_⟩=>?_⟩) ⟨by omega,by simp,λa h=>(by cases h),λz hz _ _=>by omega⟩
   grind
  grind [Ahr,AlG]
 have hal:al=max 16 s.Align:=by
  have:=hx.hal
  grind [AtQ]
 rw[hx.lay];refine⟨hoff,?_⟩;show upN (max (16*Sq _ q q.Code.length) (ZV q.Slots off q.Slots.length)) al=_;rw[hx.args,AtS,hoff,hq1];have e3:ZV q.Slots [0] 1=s.Size:=by
  grind [ZV,VF,oN]
 rw[e3,hal];refine AoA (by omega) (by omega) (by omega) (by simp)
end
theorem AcM (size align copies:Int) (h1:RR .u8 size) (h2:RR .u8 align) (h3:RR .u8 copies):Hs (Rz size align copies) λb=>b=true:=by
 obtain⟨s0,s1⟩:0<=size/\size<=255:=by grind [RR,aBH,aBI,aBF,aBG]
 obtain⟨a0,a1⟩:0<=align/\align<=255:=by grind [RR,aBH,aBI,aBF,aBG]
 obtain⟨c0,c1⟩:0<=copies/\copies<=255:=by grind [RR,aBH,aBI,aBF,aBG]
 unfold Rz;rw[AsJ];have hsz:=aAO (b:=5) s0;have hal:=aAO (b:=7) a0;refine .chk (by omega) (.chk (by omega) ?_)
 obtain⟨n,hn1,hn6,hN⟩:∃ n:Nat,1<=n/\n<=6/\IntKind.i64.wrap (1+((IntKind.i64.wrap copies).tmod 6))=(n:Int):=by
  rw[wrap64 (n:=copies) (by omega) (by omega),aAO c0,wrap64 (by omega) (by omega)]
  exact⟨(1+copies % 6).toNat,by omega,by omega,by omega⟩
 have hb:IntKind.i64.bits=64:=rfl;have hS:TV ⟨IntKind.i64.wrap (1*2 ^ (Nat.min (size.tmod 5).toNat IntKind.i64.bits)),IntKind.i64.wrap (1*2 ^ (Nat.min (align.tmod 7).toNat IntKind.i64.bits))⟩:=by
  rw[hsz,hal,hb];have e1:(size % 5).toNat=0\/(size % 5).toNat=1\/(size % 5).toNat=2\/(size % 5).toNat=3\/(size % 5).toNat=4:=by omega
  have e2:(align % 7).toNat=0\/(align % 7).toNat=1\/(align % 7).toNat=2\/(align % 7).toNat=3\/(align % 7).toNat=4\/(align % 7).toNat=5\/(align % 7).toNat=6:=by omega
  refine⟨?_,?_⟩
  ·dsimp only;rcases e1 with e|e|e|e|e<;>rw[e]<;>decide
  ·dsimp only;rcases e2 with e|e|e|e|e|e|e<;>rw[e]<;>decide
 unfold RV;simp only[hN,aAo];generalize IntKind.i64.wrap (1*2 ^ (Nat.min (size.tmod 5).toNat IntKind.i64.bits))=sz at hS ⊢;generalize IntKind.i64.wrap (1*2 ^ (Nat.min (align.tmod 7).toNat IntKind.i64.bits))=a at hS ⊢;refine Hs.loop (λq=>∃ k:Nat,1<=k/\k<=n+1/\q.2.2=(k:Int)/\q.1=aAI k ⟨sz,a⟩/\q.2.1=(aAW k).map iS) (λq=>n+1-q.2.2.toNat) ⟨1,by omega,by omega,rfl,rfl,rfl⟩ ?_
 rintro⟨_,_,_⟩ ⟨k,k1,k2,rfl,rfl,rfl⟩;dsimp only;refine .dec (λhlt=>?_) λhge=>.lft ?_
 ·have hlt:k<=n:=by omega
  refine .chk (by simp;omega) (.chk (by simp;omega) (.chk (by simp;omega) (.chk (by simp;omega) ?_)))
  rw[OZ (by omega),wrap64 (n:=(k:Int)-1) (by omega) (by omega)]
  refine .cnt ⟨⟨k+1,by omega,by omega,rfl,?_,?_⟩,by grind⟩
  all_goals grind [List.replicate_succ',iS,aAy]
 ·have hk:k=n+1:=by omega
  subst hk;obtain⟨x,q,e1,e2,e3,e4,e5,e6⟩:=Asn hn1 hn6 hS;refine .chk (by simp;omega) (.chk (by simp;omega) ?_)
  show Hs ((RZ ⟨[fM n ⟨sz,a⟩]⟩ 0).bind λr8=>(Ri (fM n ⟨sz,a⟩) r8.Rename).bind _) _
  rw[e1,aA,e2,aA];simp only[e3,e4,e5,e6,aBD];simp only[beq_self_eq_true,cond_true,AkH,List.getElem?_cons_zero,aA,Un];exact .pure rfl
theorem AbJ (size align copies:Int) (h1:RR .u8 size) (h2:RR .u8 align) (h3:RR .u8 copies):Rz size align copies=some true:=by
 obtain⟨r,h,rfl⟩:=AcM size align copies h1 h2 h3;exact h
end Go.Proofs.YtilmapojncgflaaGreatDoor
