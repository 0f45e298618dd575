/-
  Plain laws about the typed programs.
-/
import Derived.Test.YtmmchhpdaogopaaGreatDoorDxP
open Bool renaming cond_eq_ite->aAG,not_true->aAd
open Classical renaming byContradiction->aAc
open Int renaming toNat_natCast->aAD,toNat_of_nonneg->aAV,le_refl->aAW,mul_le_mul_of_nonneg_left->aAg,emod_lt_of_pos->aAh,tmod_eq_emod_of_nonneg->aAj,dvd_of_emod_eq_zero->aAn,emod_nonneg->aAp
open Go.IntKind renaming signed->aAs,bits->aAw
open List renaming getElem?_eq_getElem->aAA,mem_of_getElem?->aAB,getElem?_eq_some_iff->aAC,getElem_mem->aAF,getElem?_of_mem->aAH,mem_cons_self->aAJ,mem_cons_of_mem->aAK,mem_append->aAM,take_length->aAN,mem_singleton->aAO,getElem?_eq_none->aAP,getElem?_append_left->aAQ,pairwise_cons->aAS,ext_getElem?->aAT,drop_eq_getElem_cons->aAU,take_of_length_le->aAX,take_add_one->aAY,getElem?_set_ne->aAZ,mem_or_eq_of_mem_set->aAb,take_succ_eq_append_getElem->aAe,mem_filter->aAf,mem_cons->aAi,pairwise_iff_getElem->aAk,foldlM_cons->aAl,length_eq_zero_iff->aAm,append_nil->aAo,getElem?_set_self->aAq,set_getElem_self->aAt,replicate->aAu
open Nat renaming zero_le->aAE,not_lt_zero->aAI,le_refl->aAR,pow_le_pow_right->aAa
open Option renaming bind_some->aA,bind_eq_some_iff->aAL,map_eq_some_iff->aAr,bind_eq_bind->aAv
namespace Go.Dw
section
variable {ι R α:Type} {body:ι->Option (ι⊕R)} {v:R}
theorem Ua {α β:Type} (s:List α) (mk:β->Int->ι) (I:β->Nat->Prop) (F:β->List α->Option R)
  (hnil:∀ acc,I acc s.length->∃ v,body (mk acc s.length)=some (.inr v)/\F acc []=some v)
  (hcons:∀ acc (i:Nat) x r,I acc i->s.drop i=x::r->i<s.length->s[i]? =some x ->
   (∃ acc',I acc' (i+1)/\body (mk acc i)=some (.inl (mk acc' ((i+1:Nat):Int)))/\F acc (x::r)=F acc' r)\/(∃ v,body (mk acc i)=some (.inr v)/\F acc (x::r)=some v))
  (acc:β) (h0:I acc 0):NZ body (mk acc 0)=F acc s:=by
 have:∀ k i acc,i+k=s.length->I acc i->NZ body (mk acc (i:Nat))=F acc (s.drop i):=by
  intro k
  induction k with
  | zero =>
   intro i acc hi hI;simp only[Nat.add_zero]at hi
   grind [PX]
  | succ k ih =>
   grind [aAU,PX]
 have:=this s.length 0 acc (by omega) h0
 simp_all
@[simp] theorem PE (l:List α) (i:Nat):ixO l (i:Int)=l[i]?:=by
 unfold ixO;rw[if_neg (by omega)]
 simp
theorem Py (l:List α) {i:Int} (h:0<=i):ixO l i=l[i.toNat]?:=by
 simp_all[ixO,if_neg]
@[simp] theorem AwQ (l:List α) (i:Nat):ixO l ((i:Int)+1)=l[i+1]?:=by
 have:=PE l (i+1);simpa using this
@[simp] theorem AwR (l:List α):ixO l 0=l[0]?:=Py l (aAW 0)
theorem wrap64 {n:Int} (h0: -9223372036854775808<=n) (h1:n<=9223372036854775807):IntKind.i64.wrap n=n:=AdP h0 h1
@[simp] theorem Axf:IntKind.i64.wrap 0=0:=by decide
@[simp] theorem Axg:IntKind.i64.wrap 1=1:=by decide
@[simp] theorem Axh:IntKind.i64.wrap 2=2:=by decide
@[simp] theorem Axi:IntKind.i64.wrap 3=3:=by decide
theorem NQ {i:Nat} (h:i<9223372036854775807):IntKind.i64.wrap ((i:Int)+1)=((i+1:Nat):Int):=by
 grind [wrap64]
@[simp] theorem Atz (r:R):(lft (some r):Option (ι⊕R))=some (.inr r):=rfl
@[simp] theorem AwS:(lft none:Option (ι⊕R))=none:=rfl
@[simp] theorem ApQ (s:ι):(cnt s:Option (ι⊕R))=some (.inl s):=rfl
theorem ApW (a b:Int):Ph a b=max a b:=by grind [Ph]
theorem AuY (a b:Int):Uc a b=min a b:=by grind [Uc]
end
open Go
variable {i:Int}
def Hs {α:Type} (m:Option α) (P:α->Prop):Prop:=∃ r,m=some r/\P r
section
variable {α β ι R:Type}
theorem Hs.pure {a:α} {P:α->Prop} (h:P a):Hs (some a) P:=⟨a,rfl,h⟩
theorem Hs.bind {m:Option α} {f:α->Option β} {P:α->Prop} {Q:β->Prop} (h:Hs m P) (hf:∀ r,P r->Hs (f r) Q):Hs (m.bind f) Q:=by
 obtain⟨r,rfl,hr⟩:=h;simp_all
theorem Hs.mono {m:Option α} {P Q:α->Prop} (h:Hs m P) (hf:∀ r,P r->Q r):Hs m Q:=by
 obtain⟨r,h1,hr⟩:=h;exact⟨r,h1,hf r hr⟩
theorem Hs.chk {p:Prop} [Decidable p] {m:Option α} {P:α->Prop} (hp:p) (h:Hs m P):Hs (chk p m) P:=by
 grind [Ot]
theorem Hs.cond {b:Bool} {x y:Option α} {P:α->Prop} (h1:b=true->Hs x P) (h2:b=false->Hs y P):Hs (bif b then x else y) P:=by
 grind
theorem Hs.dec {p:Prop} [Decidable p] {x y:Option α} {P:α->Prop} (h1:p->Hs x P) (h2:¬ p->Hs y P):Hs (bif decide p then x else y) P :=
 Hs.cond (λh=>h1 (of_decide_eq_true h)) (λh=>h2 (of_decide_eq_false h))
theorem Hs.beq {a b:Int} {x y:Option α} {P:α->Prop} (h1:a=b->Hs x P) (h2:a≠b->Hs y P):Hs (bif a==b then x else y) P :=
 Hs.cond (λh=>h1 (by simp_all)) (λh=>h2 (by simp_all))
theorem Hs.bne {a b:Int} {x y:Option α} {P:α->Prop} (h1:a≠b->Hs x P) (h2:a=b->Hs y P):Hs (bif a != b then x else y) P :=
 Hs.cond (λh=>h1 (by simp_all)) (λh=>h2 (by simp_all))
theorem Hs.cnt {s:ι} {P:ι⊕R->Prop} (h:P (.inl s)):Hs (Go.Dw.cnt s) P:=⟨_,rfl,h⟩
theorem Hs.lft {m:Option R} {P:ι⊕R->Prop} (h:Hs m λr=>P (.inr r)):Hs (Go.Dw.lft m) P:=by
 obtain⟨r,rfl,h⟩:=h;exact⟨_,rfl,h⟩
def Rnd (I:ι->Prop) (μ:ι->Nat) (s:ι) (Q:R->Prop):ι⊕R->Prop
 | .inl s'=>I s'/\μ s'<μ s
 | .inr r=>Q r
theorem Hs.loop {body:ι->Option (ι⊕R)} {s:ι} {Q:R->Prop} (I:ι->Prop) (μ:ι->Nat) (h0:I s) (hb:∀ s,I s->Hs (body s) (Rnd I μ s Q)):Hs (NZ body s) Q:=by
 refine Arn I Q μ h0 λs hs=>?_
 obtain⟨z,hz,hq⟩:=hb s hs;cases z with
 | inl s'=>exact .inl ⟨s',hz,hq⟩
 | inr r=>exact .inr ⟨r,hz,hq⟩
theorem Hs.get {l:List α} {P:α->Prop} (h0:0<=i) (h1:i<l.length) (h:∀ x,l[i.toNat]? =some x->P x):Hs (l[i.toNat]?) P:=by
 have:l[i.toNat]? =some (l[i.toNat]'(by omega)):=aAA _
 exact⟨_,this,h _ this⟩
theorem Hs.ix {l:List α} {P:α->Prop} (h0:0<=i) (h1:i<l.length) (h:∀ x,l[i.toNat]? =some x->P x):Hs (ixO l i) P:=by
 grind [Py,Hs.get]
end
theorem Ajp (n:Int):0<=IntKind.u64.wrap n/\IntKind.u64.wrap n<18446744073709551616:=by
 grind [IntKind.wrap,aAs,aAw]
end Go.Dw
namespace Go.Proofs.YtmmchhpdaogopaaGreatDoor
open Go Go.Dw Go.Proofs
attribute [local simp] Ot aAG
variable {s l ps:List Int} {i k:Nat} {c:Lo} {f:NI} {sl:List Og} {x:NJ} {code:List NJ} {most:Int} {g:List (List Int)}
theorem Amd (n:Int):Wb n=some (decide (0<=n/\n<512)):=by
 grind [Wb]
theorem AiF {n:Int} (h:0<=n/\n<512):Wb n=some true:=by grind [Amd]
theorem AqI {n:Int} (h:¬ (0<=n/\n<512)):Wb n=some false:=by grind [Amd]
theorem AaN (s:List Int) (n:Int) (hs:s.length<=9223372036854775807):Uf s n=some (decide (n∈s)):=by
 refine Ua s (λ(_:Unit) i=>i) (λ_ _=>True) (λ_ l=>some (decide (n∈l))) (λ_ _=>⟨_,by simp[YA],rfl⟩) (λ_ i x r _ hd hi hx=>?_) () trivial
 have w:=NQ (show i<9223372036854775807 by omega)
 by_cases h:x=n
 ·simp_all[YA]
 ·refine .inl ⟨(),trivial,?_,?_⟩
  ·simp_all[YA]
  grind
def Tm (n:Int):List Int->List Int
 | []=>[n]
 | x::r=>if x<n then x::Tm n r else if x=n then x::r else n::x::r
theorem AjW (n:Int):∀ s,(Tm n s).length<=s.length+1
 | []=>by simp[Tm]
 | x::r=>by
  have:=AjW n r
  grind [Tm]
def Ra (n:Int) (s:List Int):List Int:=if 0<=n/\n<512 then Tm n s else s
theorem add_eq (s:List Int) (n:Int) (hs:s.length<=1000000):Sw s n=some (Ra n s):=by
 unfold Sw Ra;rw[Amd];simp only[aA];have key:∀ d:Bool,NZ (λs_1:List Int×Bool×Int=>Sj s n s_1.1 s_1.2.1 s_1.2.2) ([],d,0)=some (if d then s else Tm n s):=by
  intro d;have:=Ua (body:=λs_1:List Int×Bool×Int=>Sj s n s_1.1 s_1.2.1 s_1.2.2) s (λ(p:List Int×Bool) i=>(p.1,p.2,i)) (λp i=>p.1.length<=i+(if p.2 then 1 else 0)) (λp l=>some (p.1++(if p.2 then l else Tm n l)))
   (λp hp=>by
    obtain⟨out,done⟩:=p;cases done<;>simp only[if_true,Bool.false_eq_true,if_false]at hp
    ·exact⟨out++[n],by simp[Sj,show out.length<=16777215 by omega],by simp[Tm]⟩
    simp_all[Sj])
   (λp i x r hp hd hi hx=>by
    obtain⟨out,done⟩:=p;have w:=NQ (show i<9223372036854775807 by omega)
    obtain⟨_,rfl⟩:=aAC.1 hx;left;cases done<;>simp only[if_true,Bool.false_eq_true,if_false]at hp
    ·by_cases h1:n<=s[i]
     ·by_cases h2:n<s[i]
      ·refine⟨(out++[n]++[s[i]],true),by simp;omega,?_,?_⟩
       ·simp[Sj,Ue,SL,hi,h1,h2,w,show out.length<=16777215 by omega,show out.length<=16777214 by omega]
       grind [Tm]
      ·refine⟨(out++[s[i]],true),by simp;omega,?_,?_⟩
       ·simp[Sj,Ue,SL,hi,h1,h2,w,show out.length<=16777215 by omega]
       grind [Tm]
     ·refine⟨(out++[s[i]],false),by simp;omega,?_,?_⟩
      ·simp[Sj,Ue,SL,hi,h1,w,show out.length<=16777215 by omega]
      grind [Tm]
    ·refine⟨(out++[s[i]],true),by simp;omega,?_,?_⟩
     ·simp[Sj,Ue,SL,hi,w,show out.length<=16777215 by omega]
     ·simp)
   ([],d) (by simp)
  simp_all
 grind
def Wo:Option Int->List Int->Bool
 | _,[]=>true
 | p,x::r=>decide (0<=x/\x<512)&&(match p with|none=>true|some y=>decide (y<x))&&Wo (some x) r
theorem Akk (s:List Int) (hs:s.length<=9223372036854775807):XP s=some (Wo none s):=by
 refine Ua s (λ(_:Option Int) i=>i) (λp i=>match i with|0=>p=none|k+1=>s[k]? =p/\p≠none) (λp l=>some (Wo p l)) (λ_ _=>⟨true,by simp[Tn],by simp[Wo]⟩) (λp i x r hp hd hi hx=>?_) none rfl
 obtain⟨_,rfl⟩:=aAC.1 hx
 by_cases hg:0<=s[i]/\s[i]<512
 ·cases i with
  | zero =>
   subst hp;exact .inl ⟨some s[0],⟨hx,by simp⟩,by simp[Tn,hi,AiF hg],by grind [Wo]⟩
  | succ k =>
   obtain⟨hp,hpn⟩:=hp;have hk:k<s.length:=by omega
   rw[aAA hk]at hp;subst hp;have w:IntKind.i64.wrap ((k:Int)+1+1)=(k:Int)+1+1:=wrap64 (by omega) (by omega)
   have wp:IntKind.i64.wrap (k:Int)=k:=wrap64 (by omega) (by omega)
   have e0:(k:Int)+1-1=k:=by omega
   by_cases hlt:s[k]<s[k+1]
   ·exact .inl ⟨some s[k+1],⟨hx,by simp⟩,by simp[Tn,hi,AiF hg,w,wp,e0,hk,show ¬ s[k+1]<=s[k]by omega,show(0:Int)<k+1 by omega,show(k:Int)+1<s.length by omega],by grind [Wo]⟩
   ·exact .inr ⟨false,by simp[Tn,hi,AiF hg,w,wp,e0,hk,show s[k+1]<=s[k]by omega,show(0:Int)<k+1 by omega,show(k:Int)+1<s.length by omega],by grind [Wo]⟩
 ·exact .inr ⟨false,by simp_all[Tn,AqI],by grind [Wo]⟩
def Po (s:List Int):Prop:=s.Pairwise (· <·)/\∀ x∈s,0<=x/\x<512
theorem Aoi:∀ (p:Option Int) (s:List Int),Wo p s=true↔Po s/\∀ y,p=some y->∀ x∈s,y<x
 | p,[]=>by simp[Wo,Po]
 | p,x::r=>by
  simp only[Wo,Bool.and_eq_true,Aoi (some x) r,decide_eq_true_eq,Po,aAS,aAi,forall_eq_or_imp,Option.some.injEq]
  grind
theorem AfH (s:List Int):Wo none s=true↔Po s:=by
 grind [Aoi]
theorem Po.length_le (h:Po s):s.length<=512:=by
 have:∀ (s:List Int) (a:Int),s.Pairwise (· <·)->(∀ x∈s,a<=x/\x<512)->a<=512->(s.length:Int)<=512-a:=by
  intro s
  induction s with
  | nil=>simp_all
  | cons x r ih =>
   intro a hp hb ha;rw[aAS]at hp;have hx:=hb x (by simp)
   have:=ih (x+1) hp.2 (λy hy=>⟨by grind,(hb y (by simp[hy])).2⟩) (by omega)
   grind
 have:=this s 0 h.1 h.2 (by omega)
 omega
theorem Abz (n m:Int):∀ s,m∈Tm n s↔m=n\/m∈s
 | []=>by simp[Tm]
 | x::r=>by
  simp only[Tm];split
  ·simp only[aAi,Abz n m r]
   grind
  grind
theorem Po.Tm {n:Int} (h:Po s) (hn:0<=n/\n<512):Po (Proofs.YtmmchhpdaogopaaGreatDoor.Tm n s):=by
 refine⟨?_,λx hx=>?_⟩
 ·replace h:=h.1;clear hn
  induction s<;>grind [Proofs.YtmmchhpdaogopaaGreatDoor.Tm,aAS,Abz]
 ·rw[Abz]at hx;rcases hx with rfl|hx
  ·exact hn
  ·exact h.2 x hx
theorem Po.nil:Po []:=⟨List.Pairwise.nil,λx hx=>by cases hx⟩
theorem Afj (n:Int):Qs n=some (decide (0<=n/\n<512)):=by
 grind [Qs]
theorem AfE {n:Int} (h:0<=n/\n<512):Qs n=some true:=by grind [Afj]
theorem Api {n:Int} (h:¬ (0<=n/\n<512)):Qs n=some false:=by grind [Afj]
theorem Ars (s:List Int) (hs:s.length<=9223372036854775807):AaA s=some (Wo none s):=by
 refine Ua s (λ(_:Option Int) i=>i) (λp i=>match i with|0=>p=none|k+1=>s[k]? =p/\p≠none) (λp l=>some (Wo p l)) (λ_ _=>⟨true,by simp[SA],by simp[Wo]⟩) (λp i x r hp hd hi hx=>?_) none rfl
 obtain⟨_,rfl⟩:=aAC.1 hx
 by_cases hg:0<=s[i]/\s[i]<512
 ·cases i with
  | zero =>
   subst hp;exact .inl ⟨some s[0],⟨hx,by simp⟩,by simp[SA,hi,AfE hg],by grind [Wo]⟩
  | succ k =>
   obtain⟨hp,hpn⟩:=hp;have hk:k<s.length:=by omega
   rw[aAA hk]at hp;subst hp;have w:IntKind.i64.wrap ((k:Int)+1+1)=(k:Int)+1+1:=wrap64 (by omega) (by omega)
   have wp:IntKind.i64.wrap (k:Int)=k:=wrap64 (by omega) (by omega)
   have e0:(k:Int)+1-1=k:=by omega
   by_cases hlt:s[k]<s[k+1]
   ·exact .inl ⟨some s[k+1],⟨hx,by simp⟩,by simp[SA,hi,AfE hg,w,wp,e0,hk,show ¬ s[k+1]<=s[k]by omega,show(0:Int)<k+1 by omega,show(k:Int)+1<s.length by omega],by grind [Wo]⟩
   ·exact .inr ⟨false,by simp[SA,hi,AfE hg,w,wp,e0,hk,show s[k+1]<=s[k]by omega,show(0:Int)<k+1 by omega,show(k:Int)+1<s.length by omega],by grind [Wo]⟩
 ·exact .inr ⟨false,by simp_all[SA,Api],by grind [Wo]⟩
theorem Avq (a b:List Int) (h:a.length<=9223372036854775807):AaS a b=some (decide (a=b)):=by
 unfold AaS
 by_cases hl:a.length=b.length
 ·have:=Ua (body:=λi:Int=>VF a b i) a (λ(_:List Int) i=>i) (λacc i=>b.drop i=acc) (λacc l=>some (decide (l=acc)))
   (λacc hacc=>⟨true,by simp[VF],by simp_all⟩) (λacc i x r hacc hd hi hx=>by
    have w:=NQ (show i<9223372036854775807 by omega)
    obtain⟨_,rfl⟩:=aAC.1 hx;have hib:i<b.length:=by omega
    have hdb:=aAU hib
    by_cases e:a[i]=b[i]
    ·exact .inl ⟨b.drop (i+1),rfl,by simp[VF,hi,hib,e,w],by rw[<- hacc,hdb];simp only[List.cons.injEq,e,true_and]⟩
    ·exact .inr ⟨false,by simp[VF,hi,hib,e],by rw[<- hacc,hdb];simp only[List.cons.injEq,e,false_and,decide_false]⟩)
   b (by simp)
  simp_all
 ·have:¬ a=b:=λe=>hl (by rw[e])
  grind
theorem Arb (a b:List (List Int)) (h:a.length<=9223372036854775807) (hr:∀ s∈a,s.length<=9223372036854775807):XE a b=some (decide (a=b)):=by
 unfold XE
 by_cases hl:a.length=b.length
 ·have:=Ua (body:=λi:Int=>Tq a b i) a (λ(_:List (List Int)) i=>i) (λacc i=>b.drop i=acc) (λacc l=>some (decide (l=acc)))
   (λacc hacc=>⟨true,by simp[Tq],by simp_all⟩) (λacc i x r hacc hd hi hx=>by
    have w:=NQ (show i<9223372036854775807 by omega)
    obtain⟨_,rfl⟩:=aAC.1 hx;have hib:i<b.length:=by omega
    have hdb:=aAU hib;have hs:=Avq a[i] b[i] (hr _ (aAF _))
    by_cases e:a[i]=b[i]
    ·refine .inl ⟨b.drop (i+1),rfl,?_,by rw[<- hacc,hdb];simp only[List.cons.injEq,e,true_and]⟩
     rw[decide_eq_true e]at hs;simp[Tq,hi,hib,hs,w]
    ·refine .inr ⟨false,?_,by rw[<- hacc,hdb];simp only[List.cons.injEq,e,false_and,decide_false]⟩
     rw[decide_eq_false e]at hs
     simp[Tq,hi,hib,hs])
   b (by simp)
  simp_all
 ·have:¬ a=b:=λe=>hl (by rw[e])
  grind
theorem Anp (s:List Int) (n:Int) (hs:s.length<=16777215):WR s n=some (s.filter (· != n)):=by
 unfold WR;have:=Ua (body:=λp:List Int×Int=>Up s n p.1 p.2) s (λ(out:List Int) i=>(out,i)) (λout i=>out.length<=i) (λout l=>some (out++l.filter (· != n)))
  (λout _=>⟨out,by simp[Up],by simp⟩) (λout i x r ho hd hi hx=>by
   have w:=NQ (show i<9223372036854775807 by omega)
   obtain⟨_,rfl⟩:=aAC.1 hx;left
   by_cases h:s[i]=n
   ·exact⟨out,by omega,by simp_all[Up],by simp[h]⟩
   ·exact⟨out++[s[i]],by simp;omega,by simp[Up,hi,h,w,show out.length<=16777215 by omega],by simp[h]⟩)
  [] (by simp)
 simp_all
def RQ (a b:List Int):List Int:=b.foldl (λo x=>Ra x o) a
theorem Apl (n:Int) (s:List Int):(Ra n s).length<=s.length+1:=by
 grind [Ra,AjW]
theorem union_eq (a b:List Int) (h:a.length+b.length<=1000000):TJ a b=some (RQ a b):=by
 unfold TJ RQ;rw[Ot (by simp;omega)]
 have:=Ua (body:=λp:List Int×Int=>WS b p.1 p.2) b (λ(out:List Int) i=>(out,i)) (λout i=>out.length<=a.length+i) (λout l=>some (l.foldl (λo x=>Ra x o) out))
  (λout _=>⟨out,by simp[WS],by simp⟩) (λout i x r ho hd hi hx=>by
   have w:=NQ (show i<9223372036854775807 by omega)
   obtain⟨_,rfl⟩:=aAC.1 hx;have hl:=Apl b[i] out;left
   exact⟨Ra b[i] out,by omega,by simp[WS,hi,add_eq out b[i] (by omega),w],by simp⟩)
  a (by simp)
 simp_all
theorem AlZ:∀ {a b:List Int},a.Pairwise (· <·)->b.Pairwise (· <·)->(∀ v∈a,v∈b)->a.Sublist b
 | [],_,_,_,_=>List.nil_sublist _
 | x::a,[],_,_,h=>by grind [aAJ]
 | x::a,y::b,ha,hb,h=>by
  rw[aAS]at ha hb
  by_cases e:x=y
  ·subst e;refine(AlZ ha.2 hb.2 λv hv=>?_).cons_cons x
   grind
  ·have hx:x∈b:=by
    simp_all
   have hyx:=hb.1 x hx;refine(AlZ (aAS.2 ha) hb.2 λv hv=>?_).cons y
   grind
theorem Po.sub {a b:List Int} (ha:Po a) (hb:Po b) (h:∀ v∈a,v∈b):a.Sublist b:=AlZ ha.1 hb.1 h
theorem Po.ext {a b:List Int} (ha:Po a) (hb:Po b) (h:∀ v,v∈a↔v∈b):a=b :=
 (ha.sub hb λv hv=>(h v).1 hv).eq_of_length_le (hb.sub ha λv hv=>(h v).2 hv).length_le
theorem Po.filter {a:List Int} (ha:Po a) (p:Int->Bool):Po (a.filter p) :=
 ⟨ha.1.sublist List.filter_sublist,λx hx=>ha.2 x ((aAf.1 hx).1)⟩
theorem ON.AdS {n m:Int} (h:Po s/\∀ x∈s,x<n) (hm:0<=m/\m<n) (hn:n<=512):Po (Ra m s)/\(∀ x∈Ra m s,x<n)/\∀ v,v∈Ra m s↔v=m\/v∈s:=by
 unfold Ra;rw[if_pos (by omega)]
 refine⟨h.1.Tm (by omega),λx hx=>?_,λv=>Abz _ _ _⟩
 grind [Abz]
theorem Xx {n:Int} (hn:n<=512):∀ {b a:List Int},(Po a/\∀ x∈a,x<n)->(∀ x∈b,0<=x/\x<n)->(Po (RQ a b)/\∀ x∈RQ a b,x<n)/\∀ v,v∈RQ a b↔v∈a\/v∈b
 | [],a,ha,_=>⟨ha,λv=>by simp[RQ]⟩
 | x::b,a,ha,hb=>by
  obtain⟨h1,h2,h3⟩:=ON.AdS ha (hb x (aAJ ..)) hn;obtain⟨h4,h5⟩:=Xx hn ⟨h1,h2⟩ λy hy=>hb y (aAK _ hy)
  grind [RQ]
def Aax (l:List Int) (p:Int->Prop):Prop:=Po l/\∀ v,v∈l↔(0<=v/\v<512)/\p v
theorem Aax.eq {m:List Int} {p q:Int->Prop} (h:Aax l p) (k:Aax m q) (e:∀ v,0<=v->v<512->(p v↔q v)):l=m :=
 h.1.ext k.1 λv=>by
  rw[h.2,k.2];simp_all
theorem Aax.mono {p q:Int->Prop} (h:Aax l p) (e:∀ v,0<=v->v<512->(p v↔q v)):Aax l q :=
 ⟨h.1,λv=>by rw[h.2];simp_all⟩
abbrev BS:=Oh
def Xj (t:BS):Prop:=∀ w∈t.toList,WW w
theorem BS.len (t:BS):t.toList.length=8:=rfl
variable {t:BS}
def WD (t:BS) (i:Nat):Int:=(t.toList[i]?).getD 0
def hasB (t:BS) (v:Int):Bool:=AcX (WD t (v.toNat / 64)) (v.toNat % 64)
theorem AcU (h:i<8):t.toList[i]? =some (WD t i):=by
 have:t.toList[i]? =some (t.toList[i]'(show i<8 from h)):=aAA _
 grind [WD]
theorem Xj.word (h:Xj t) (hi:i<8):WW (WD t i):=h _ (aAB (AcU hi))
theorem AsJ {j:Nat} {w:Int} (hi:i<8):WD (t.set i w) j=if i=j then w else WD t j:=by
 unfold WD;rw[UC,List.getElem?_set]
 by_cases h:i=j
 all_goals simp_all[Oh.toList]
theorem Xj.set (h:Xj t) {w:Int} (hw:WW w):Xj (t.set i w):=by
 intro x hx;rw[UC]at hx;rcases aAb hx with h1|rfl
 ·exact h x h1
 ·exact hw
theorem Xj.zero:Xj ⟨0,0,0,0,0,0,0,0⟩:=by
 intro w hw;simp[Oh.toList]at hw;exact⟨by omega,by omega⟩
theorem ArV (v:Int):hasB ⟨0,0,0,0,0,0,0,0⟩ v=false:=by
 have:WD ⟨0,0,0,0,0,0,0,0⟩ (v.toNat / 64)=0:=by
  have hl:∀ i:Nat,(([0,0,0,0,0,0,0,0]:List Int)[i]?).getD 0=0:=by
   grind
  exact hl _
 simp_all[hasB,AcX]
theorem AnY (n:Int):0<=(IntKind.u64.wrap n).tmod 64/\(0<=n->n<512->((IntKind.u64.wrap n).tmod 64).toNat=n.toNat % 64):=by
 obtain⟨h0,h1⟩:=Ajp n;rw[aAj h0];refine⟨by omega,λha hb=>?_⟩
 rw[AsB ⟨ha,by omega⟩]
 omega
theorem AqX {n:Int} (h0:0<=n) (h1:n<512):IntKind.i64.wrap (n.tdiv 64)=((n.toNat / 64:Nat):Int):=by
 grind [wrap64]
theorem AvK {n:Int} (h0:0<=n) (h1:n<512):IntKind.u64.wrap (1*2 ^ (Nat.min ((IntKind.u64.wrap n).tmod 64).toNat IntKind.u64.bits))=((2 ^ (n.toNat % 64):Nat):Int):=by
 rw[(AnY n).2 h0 h1];have e:Nat.min (n.toNat % 64) IntKind.u64.bits=n.toNat % 64:=Nat.min_eq_left (by show n.toNat % 64<=64;omega)
 rw[e,Int.one_mul];have hp:2 ^ (n.toNat % 64)<18446744073709551616:=by
  have:=Nat.pow_lt_pow_right (a:=2) (by decide) (show n.toNat % 64<64 by omega)
  omega
 grind [AdI]
theorem AoI (j:Nat) (h:j<64):2 ^ j<18446744073709551616:=by
 have:=Nat.pow_lt_pow_right (a:=2) (by decide) h
 omega
theorem Awf {n v:Int} (h0:0<=n) (h0':0<=v) (hne:v≠n) (h:n.toNat / 64=v.toNat / 64):v.toNat % 64≠n.toNat % 64:=by omega
theorem Asf (ht:Xj t) (n:Int) (b:Bool):Hs (TQ t n b) λr=>Xj r/\∀ v,0<=v->v<512->hasB r v=if v=n then b else hasB t v:=by
 refine .chk (AnY n).1 ?_;rw[Afj,aA]
 by_cases h:0<=n/\n<512
 ·rw[decide_eq_true h];obtain⟨h0,h1⟩:=h;have hi:n.toNat / 64<8:=by omega
  have hb:=AvK h0 h1;have hw:=ht.word hi;have hp:WW ((2 ^ (n.toNat % 64):Nat):Int):=WW.nat (AoI _ (by omega))
  have fin:∀ (x:Nat),x<18446744073709551616->(∀ j,j<64->x.testBit j=if j=n.toNat % 64 then b else(WD t (n.toNat / 64)).toNat.testBit j) ->
    Xj (t.set (n.toNat / 64) (x:Int))/\∀ v,0<=v->v<512->hasB (t.set (n.toNat / 64) (x:Int)) v=if v=n then b else hasB t v:=by
   intro x hx hbit;refine⟨ht.set (WW.nat hx),λv hv0 hv1=>?_⟩
   unfold hasB;rw[AsJ hi]
   by_cases he:v=n
   ·subst he;rw[if_pos rfl,if_pos rfl];show(x:Int).toNat.testBit _=b;rw[aAD,hbit _ (by omega),if_pos rfl]
   ·rw[if_neg he]
    by_cases hq:n.toNat / 64=v.toNat / 64
    ·rw[if_pos hq];show(x:Int).toNat.testBit _=_;rw[aAD,hbit _ (by omega),if_neg (Awf h0 hv0 he hq),hq]
     rfl
    simp_all
  cases b with
  | true =>
   simp only[aAd,cond_false,cond_true];rw[AqX h0 h1];refine .chk (by omega) ?_
   rw[aAD,AcU hi,aA];refine .chk (by omega) ?_
   rw[aA];refine .pure ?_;rw[hb,AwV hw hp,aAD];refine fin _ (Awl hw.toNat_lt (AoI _ (by omega))) λj hj=>?_
   rw[Nat.testBit_or,Nat.testBit_two_pow]
   grind
  | false =>
   simp only[aAd,cond_false];rw[AqX h0 h1];refine .chk (by omega) ?_
   rw[aAD,AcU hi,aA];refine .chk (by omega) ?_
   rw[aA];refine .pure ?_;rw[hb,AsX hw hp,aAD];refine fin _ (ApN hw.toNat_lt) λj hj=>?_
   rw[Atk hw.toNat_lt (AoI _ (by omega)),Nat.testBit_two_pow]
   grind
 ·rw[decide_eq_false h];exact .pure ⟨ht,λv h0 h1=>by grind⟩
theorem AqQ (l:List Int) (hl:l.length<=9000000000000000000):Hs (VC l) λr=>Xj r/\∀ v,0<=v->v<512->hasB r v=decide (v∈l):=by
 refine Hs.loop (λs=>Xj s.1/\∃ k:Nat,s.2=(k:Int)/\k<=l.length/\∀ v,0<=v->v<512->hasB s.1 v=decide (v∈l.take k)) (λs=>l.length-s.2.toNat) ⟨Xj.zero,0,rfl,aAE _,λv _ _=>by simp[ArV]⟩ ?_
 rintro⟨t,k'⟩ ⟨ht,k,hk',hk,hall⟩;subst hk';refine .dec (λhlt=>?_) λhge=>?_
 ·have hlt:k<l.length:=by omega
  refine Hs.bind (P:=λx=>l[k]? =some x) ⟨l[k],by simp[hlt],by simp[hlt]⟩ λx hx=>(Asf ht x true).bind λr hr=>.cnt ?_
  rw[NQ (by omega)]
  refine⟨⟨hr.1,k+1,rfl,hlt,λv h0 h1=>?_⟩,by grind⟩
  grind [aAY]
 ·have:k=l.length:=by omega
  subst this;exact .lft (.pure ⟨ht,λv h0 h1=>by simp_all⟩)
theorem Po.snoc (h:Po l) {z:Int} (h0:0<=z/\z<512) (hz:∀ x∈l,x<z):Po (l++[z]):=by
 refine⟨List.pairwise_append.2 ⟨h.1,List.pairwise_singleton _ _,λa ha b hb=>?_⟩,λx hx=>?_⟩
 ·simp_all
 ·simp only[aAM,aAO]at hx;rcases hx with h1|rfl
  ·exact h.2 x h1
  ·exact h0
theorem Aqm (ht:Xj t):Hs (Vu t) λr=>r.2=t/\Aax r.1 (λv=>hasB t v=true):=by
 refine Hs.loop (λs=>∃ i:Nat,s.2=(i:Int)/\i<=8/\Aax s.1 (λv=>v<64*i/\hasB t v=true)) (λs=>8-s.2.toNat) ⟨0,rfl,by omega,⟨Po.nil,λv=>by simp;omega⟩⟩ ?_
 rintro⟨l,i'⟩ ⟨i,hi',hi,hs⟩;subst hi';refine .dec (λhlt=>?_) λhge=>?_
 ·have hlt:i<8:=by omega
  refine .chk (by omega) ?_
  rw[aAD,AcU hlt,aA];have hw:=ht.word hlt;refine Hs.loop (λs=>WW s.2/\∃ c:Nat,c<=64/\Aax s.1 (λv=>v<64*i+c/\hasB t v=true)/\∀ j,j<64->AcX s.2 j=(decide (c<=j)&&AcX (WD t i) j)) (λs=>s.2.toNat) ⟨hw,0,by omega,by simp_all,λj _=>by simp⟩ ?_
  rintro⟨m,x⟩ ⟨hx,c,hc,hm,hb⟩;simp only at hx hm hb;refine .bne (λhne=>?_) λhe=>?_
  ·have hx0:0<x.toNat:=by have:=hx.1;omega
   obtain⟨k1,k2,k3,k4⟩:=AtA hx0 hx.toNat_lt;generalize hk:Lib.ctz 64 x.toNat=k at k1 k2 k3 k4;have ek:Ahr x=some (k:Int):=by
    unfold Ahr;rw[Ot (show 0<=x/\x<18446744073709551616 from hx),hk]
   rw[ek,aA];have hck:c<=k:=by
    grind [AcX]
   have hwk:AcX (WD t i) k=true:=by
    grind [AcX]
   have e1:IntKind.i64.wrap (IntKind.i64.wrap (64*(i:Int))+(k:Int))=((64*i+k:Nat):Int):=by
    grind [wrap64]
   have e2:IntKind.u64.wrap (x-1)=x-1:=AsB ⟨by omega,by have:=hx.2;omega⟩
   have e3:(x-1).toNat=x.toNat-1:=by omega
   have hz:∀ v∈m,v<((64*i+k:Nat):Int):=λv hv=>by
    have:=((hm.2 v).1 hv).2.1;omega
   have hlen:=hm.1.length_le;refine .chk (by simp;omega) (.cnt ?_)
   rw[e1,e2,Aui hx ⟨by omega,by have:=hx.2;omega⟩,e3]
   refine⟨⟨WW.nat (ApN hx.toNat_lt),k+1,by omega,⟨hm.1.snoc (by omega) hz,λv=>?_⟩,λj hj=>?_⟩,?_⟩
   ·simp only[aAM,aAO,hm.2];constructor
    ·grind [hasB]
    ·rintro⟨a,b,d⟩
     by_cases e:v=((64*i+k:Nat):Int)
     ·exact .inr e
     ·refine .inl ⟨a,?_,d⟩
      grind [AcX,hasB]
   ·simp only;unfold AcX;rw[aAD,k4]
    grind [AcX]
   grind [Nat.and_le_right]
  ·have he:x=0:=he;subst he;refine .lft (.cnt ?_);rw[NQ (by omega)]
   refine⟨⟨i+1,rfl,hlt,hm.mono λv h0 h1=>⟨λ⟨a,b⟩=>⟨by omega,b⟩,λ⟨a,b⟩=>⟨?_,b⟩⟩⟩,by grind⟩
   grind [hasB,AcX]
 ·have:i=8:=by omega
  exact .lft (.pure ⟨rfl,hs.mono λv h0 h1=>⟨λh=>h.2,λh=>⟨by omega,h⟩⟩⟩)
def okC (c:Lo):Prop:=0<=c.at_/\c.at_<=c.list.length/\c.list.length<=1000/\∀ v∈c.list,0<=v/\v<=255
theorem Awj (l:List Int) (n:Int) (hl:qL (PI .u8) l) (h0:0<=n) (h1:n<=1000):∃ c,AdY l n=some c/\okC c:=by
 unfold AdY;have e:Uc (l.length:Int) n=min (l.length:Int) n:=AuY _ _;refine⟨_,by rw[Ot (by omega)],by simp,?_,?_,?_⟩
 ·simp
 ·grind
 ·intro v hv;have:=hl.2 v (List.mem_of_mem_take hv)
  grind [PI,IntKind.min,IntKind.max,aAs,aAw]
theorem Avb (c:Lo) (h:okC c) (n:Int) (h1:n<=1099511627776):∃ r c',NR c n=some (r,c')/\okC c'/\0<=r/\(r<n\/r=0):=by
 obtain⟨ha,hb,hc,hd⟩:=h;unfold NR XW
 by_cases hl:c.at_<c.list.length
 ·by_cases hn:n<1
  ·exact⟨0,c,by simp_all,⟨ha,hb,hc,hd⟩,by omega,.inr rfl⟩
  ·have hx:c.list[c.at_.toNat]? =some (c.list[c.at_.toNat]'(by omega)):=aAA _
   have hv:=hd _ (aAF (show c.at_.toNat<c.list.length by omega))
   generalize hq:c.list[c.at_.toNat]'(by omega)=v at hx hv
   have e1:IntKind.i64.wrap v=v:=wrap64 (by omega) (by omega)
   have hm0:0<=v*n:=Int.mul_nonneg hv.1 (by omega)
   have hm1:v*n<=255*n:=Int.mul_le_mul_of_nonneg_right hv.2 (by omega)
   have e2:IntKind.i64.wrap (v*n)=v*n:=wrap64 (by omega) (by omega)
   have e3:(v*n).tdiv 256=v*n / 256:=Int.tdiv_eq_ediv_of_nonneg hm0;have e4:IntKind.i64.wrap (v*n / 256)=v*n / 256:=wrap64 (by omega) (by omega)
   have e5:IntKind.i64.wrap (c.at_+1)=c.at_+1:=wrap64 (by omega) (by omega)
   refine⟨v*n / 256,⟨c.list,c.at_+1⟩,?_,⟨by grind,by grind,hc,hd⟩,by omega,.inl (by omega)⟩
   grind [VO,Py]
 ·exact⟨0,c,by simp[hl],⟨ha,hb,hc,hd⟩,by omega,.inr rfl⟩
theorem AuZ (h:okC c) {n:Int} (h1:n<=1099511627776):Hs (NR c n) λp=>okC p.2/\0<=p.1/\(p.1<n\/p.1=0):=by
 obtain⟨r,c',e,h2,h3,h4⟩:=Avb c h n h1;exact⟨(r,c'),e,h2,h3,h4⟩
theorem Oo (h:okC c) {n:Int} (h0:1<=n) (h1:n<=1099511627776):Hs (NR c n) λp=>okC p.2/\0<=p.1/\p.1<n :=
 (AuZ h h1).mono λr hr=>⟨hr.1,hr.2.1,by omega⟩
def Zw (s:Og):Prop:=s.Size∈([8,4,8,1,2,16,8]:List Int)/\s.Align∈([8,4,1,8,16,2,32,64]:List Int)
def W64 (w:Int):Prop:=0<=w/\w<18446744073709551616
def Reg (a:Int):Prop:=0<=a/\a<4
theorem Avu (h:okC c):Hs (XX c) λp=>okC p.2/\Zw p.1:=by
 refine(Oo h (by omega) (by omega)).bind λr hr=>.chk (by simp;omega) ?_
 refine(Hs.get hr.2.1 (by simp;omega) λx hx=>aAB hx).bind λx hx=>?_
 refine(Oo hr.1 (by omega) (by omega)).bind λr' hr'=>.chk (by simp;omega) ?_
 refine(Hs.get hr'.2.1 (by simp;omega) λx hx=>aAB hx).bind λy hy=>?_
 exact .pure ⟨hr'.1,hx,hy⟩
theorem AtX (h:okC c) {m:Int} (hm:0<=m) (hm':m<=1000):Hs (Vl c m) λp=>okC p.2/\(p.1.length:Int)<=m/\∀ s∈p.1,Zw s:=by
 unfold Vl;have w:IntKind.i64.wrap (m+1)=m+1:=wrap64 (by omega) (by omega)
 refine(Oo h (by omega) (by omega)).bind λr hr=>?_
 refine Hs.loop (λs=>okC ⟨s.1,s.2.1⟩/\(s.2.2.1.length:Int)+s.2.2.2<=m/\(∀ x∈s.2.2.1,Zw x)/\0<=s.2.2.2) (λs=>s.2.2.2.toNat) ⟨hr.1,by simp;omega,by simp,hr.2.1⟩ ?_
 rintro⟨l,a,sl,n⟩ ⟨hc,hl,hs,hn⟩;simp only at hc hl hs hn;refine .dec (λhlt=>?_) λhlt=>?_
 ·have hlt:0<n:=hlt;have w:IntKind.i64.wrap (n-1)=n-1:=wrap64 (by omega) (by omega)
  refine(Avu hc).bind λx hx=>.chk (by simp;omega) (.cnt ⟨⟨hx.1,?_,?_,?_⟩,?_⟩)
  all_goals grind
 ·exact .lft (.pure ⟨hc,by grind,hs⟩)
theorem Aqf (h:okC c):Hs (VQ c) λp=>okC p.2/\W64 p.1:=by
 refine(Oo h (by omega) (by omega)).bind λr hr=>.beq (λ_=>?_) λ_=>.beq (λ_=>?_) λ_=>.beq (λ_=>?_) λ_=>?_
 ·exact(Oo hr.1 (by omega) (by omega)).bind λr' hr'=>.pure ⟨hr'.1,Ajp _⟩
 ·exact(Oo hr.1 (by omega) (by omega)).bind λr' hr'=>.chk hr'.2.1 (.pure ⟨hr'.1,Ajp _⟩)
 ·exact .pure ⟨hr.1,by grind [W64]⟩
 ·exact(Oo hr.1 (by omega) (by omega)).bind λr' hr'=>.pure ⟨hr'.1,Ajp _⟩
def Aof (sl:List Og) (a b:Int):Prop:=0<=a/\a<sl.length/\∃ x y,sl[a.toNat]? =some x/\sl[b.toNat]? =some y/\x.Size=y.Size
theorem ApU (h:okC c) {s:Int} (h0:0<=s) (h1:s<f.Slots.length) (hl:f.Slots.length<=1000):Hs (VS c f s) λp=>okC p.2/\Aof f.Slots p.1 s:=by
 refine Hs.loop (λst=>0<=st.2/\st.2<=f.Slots.length/\(st.1.length:Int)<=st.2/\(∀ v∈st.1,Aof f.Slots v s)/\(s<st.2->0<st.1.length)) (λst=>f.Slots.length-st.2.toNat) ⟨by simp,by simp,by simp,by simp,λh=>by omega⟩ ?_
 rintro⟨l,k⟩ ⟨hk0,hk1,hll,hv,hne⟩;simp only at hk0 hk1 hll hv hne;refine .dec (λhlt=>?_) λhlt=>.lft ?_
 ·have w:IntKind.i64.wrap (k+1)=k+1:=wrap64 (by omega) (by omega)
  refine(Hs.ix hk0 hlt λx hx=>hx).bind λx hx=>(Hs.ix h0 h1 λx hx=>hx).bind λy hy=>.beq (λhe=>?_) λhe=>?_
  ·refine .chk (by simp;omega) (.cnt ⟨⟨by grind,by grind,by simp_all,?_,by simp⟩,by grind⟩)
   intro v hv';rcases aAM.1 hv' with h2|h2
   ·simp_all
   ·rw[aAO]at h2;subst h2;exact⟨hk0,hlt,x,y,hx,hy,he⟩
  ·refine .cnt ⟨⟨by grind,by grind,by grind,hv,λh3=>?_⟩,by grind⟩
   grind
 ·refine(Oo h (n:=(l.length:Int)) (by omega) (by omega)).bind λr hr=>.chk ⟨hr.2.1,hr.2.2⟩ ?_
  exact(Hs.get hr.2.1 hr.2.2 λx hx=>hv x (aAB hx)).bind λx hx=>.pure ⟨hr.1,hx⟩
inductive Qf (sl:List Og) (np i:Int) (ps:List Int) (T:Int->Prop):NJ->Prop
 | store (a b:Int):0<=a->a<sl.length->Reg b->Qf sl np i ps T ⟨16,a,b,0,0⟩
 | load (a b:Int):Reg a->0<=b->b<sl.length->Qf sl np i ps T ⟨15,a,b,0,0⟩
 | move (a b:Int):Aof sl a b->0<=b->b<sl.length->Qf sl np i ps T ⟨17,a,b,0,0⟩
 | const (a w:Int):Reg a->W64 w->Qf sl np i ps T ⟨0,a,0,0,w⟩
 | bin (op a b c:Int):2<=op->op<12->Reg a->Reg b->0<=c->c<8->Qf sl np i ps T ⟨op,a,b,c,0⟩
 | out (a:Int):Reg a->Qf sl np i ps T ⟨14,a,0,0,0⟩
 | un (op a:Int):(op=13\/op=12\/op=1)->Reg a->Qf sl np i ps T ⟨op,a,0,0,0⟩
 | param (a b:Int):Reg a->0<=b->b<np->Qf sl np i ps T ⟨19,a,b,0,0⟩
 | arg (a b:Int):0<=a->a<4->Reg b->Qf sl np i ps T ⟨18,a,b,0,0⟩
 | call (j:Int):i<j->j<ps.length->Qf sl np i ps T ⟨22,j,0,0,0⟩
 | jump (t:Int):T t->Qf sl np i ps T ⟨20,t,0,0,0⟩
 | branch (a t:Int):Reg a->T t->Qf sl np i ps T ⟨21,a,t,0,0⟩
def Ajf (ps:List Int):Prop:=(∀ v∈ps,0<=v/\v<4)/\ps.length<=1000
theorem AuK (h:okC c) {i:Int} (T:Int->Prop) (hf:f.Slots.length<=1000) (hp:f.Params<4) (hi:0<=i) (hi':i<ps.length) (hps:Ajf ps) :
  Hs (VR c f i ps) λp=>okC p.2/\p.1.length<=4/\∀ x∈p.1,Qf f.Slots f.Params i ps T x:=by
 unfold VR;refine(Oo h (by omega) (by omega)).bind λr hr=>(Oo hr.1 (by omega) (by omega)).bind λk hk=>?_
 have hreg:Reg r.1:=hr.2;have one:∀ {x:NJ} {c':Lo},okC c'->Qf f.Slots f.Params i ps T x->Hs (some (([x]:List NJ),c')) λp=>okC p.2/\p.1.length<=4/\∀ x∈p.1,Qf f.Slots f.Params i ps T x:=λhc hx=>.pure ⟨hc,by simp,by simp_all⟩
 have j6:∀ b,(b=true->i+1<ps.length)->Hs (TY k ps i r b) λp=>okC p.2/\p.1.length<=4/\∀ x∈p.1,Qf f.Slots f.Params i ps T x:=by
  intro b hb;refine .cond (λhb'=>?_) λ_=>one hk.1 (.out _ hreg)
  have hil:=hb hb';have hlen:=hps.2;have w1:IntKind.i64.wrap ((ps.length:Int)-i)=(ps.length:Int)-i:=wrap64 (by omega) (by omega)
  have w2:IntKind.i64.wrap ((ps.length:Int)-i-1)=(ps.length:Int)-i-1:=wrap64 (by omega) (by omega)
  have w3:IntKind.i64.wrap (i+1)=i+1:=wrap64 (by omega) (by omega)
  rw[w1,w2];refine(Oo hk.1 (by omega) (by omega)).bind λq hq=>?_
  have w4:IntKind.i64.wrap (i+1+q.1)=i+1+q.1:=wrap64 (by omega) (by omega)
  refine Hs.loop (λs=>okC ⟨s.1,s.2.1⟩/\(s.2.2.1.length:Int)<=s.2.2.2/\0<=s.2.2.2/\s.2.2.2<=3/\∀ x∈s.2.2.1,Qf f.Slots f.Params i ps T x) (λs=>(3-s.2.2.2).toNat) ⟨hq.1,by simp,by simp,by simp,by simp⟩ ?_
  rintro⟨l,a,out,n⟩ ⟨hc,ho,hn0,hn3,hall⟩;simp only at hc ho hn0 hn3 hall;unfold Yr;simp only[w3,w4];refine(Hs.ix (by omega) (by omega) λx hx=>hps.1 x (aAB hx)).bind λx hx=>.dec (λhlt=>?_) λhlt=>.lft ?_
  ·have w5:IntKind.i64.wrap (n+1)=n+1:=wrap64 (by omega) (by omega)
   refine(Oo hc (by omega) (by omega)).bind λu hu=>.dec (λ_=>?_) λ_=>?_
   ·refine(Oo hu.1 (by omega) (by omega)).bind λv hv=>.chk (by simp;omega) (.cnt ⟨⟨hv.1,by simp_all,by grind,by grind,?_⟩,by grind⟩)
    intro y hy;rcases aAM.1 hy with h2|h2
    ·simp_all
    ·rw[aAO]at h2;subst h2;exact .arg _ _ hn0 (by omega) hv.2
   ·exact .cnt ⟨⟨hu.1,by grind,by grind,by grind,hall⟩,by grind⟩
  ·refine .chk (by simp;omega) (.pure ⟨hc,by grind,?_⟩)
   intro y hy;rcases aAM.1 hy with h2|h2
   ·simp_all
   ·rw[aAO]at h2;subst h2;exact .call _ (by omega) (by omega)
 have j5:∀ b,(b=true->0<f.Params)->Hs (TX k f r ps i b) λp=>okC p.2/\p.1.length<=4/\∀ x∈p.1,Qf f.Slots f.Params i ps T x:=by
  intro b hb;refine .cond (λhb'=>?_) λ_=>.dec (λ_=>j6 _ λhd=>?_) λ_=>j6 _ λhd=>(by cases hd)
  ·have:=hb hb';exact(Oo hk.1 (by omega) (by omega)).bind λu hu=>one hu.1 (.param _ _ hreg hu.2.1 hu.2.2)
  ·have hlen:=hps.2;have:=of_decide_eq_true hd
   grind [wrap64]
 have j4:∀ b,(b=true->0<f.Slots.length)->Hs (TW k f r ps i b) λp=>okC p.2/\p.1.length<=4/\∀ x∈p.1,Qf f.Slots f.Params i ps T x:=by
  intro b hb;refine .cond (λhb'=>?_) λ_=>.dec (λ_=>?_) λ_=>.dec (λ_=>?_) λ_=>.dec (λ_=>one hk.1 (.out _ hreg)) λ_=>.beq (λ_=>?_) λ_=>.beq (λ_=>j5 _ λhd=>of_decide_eq_true hd) λ_=>j5 _ λhd=>(by cases hd)
  ·have:=hb hb';exact(Oo hk.1 (by omega) (by omega)).bind λu hu=>(ApU hu.1 hu.2.1 hu.2.2 hf).bind λv hv=>one hv.1 (.move _ _ hv.2 hu.2.1 hu.2.2)
  ·exact(Aqf hk.1).bind λu hu=>one hu.1 (.const _ _ hreg hu.2)
  ·refine(Oo hk.1 (by omega) (by omega)).bind λu hu=>(Oo hu.1 (by omega) (by omega)).bind λv hv=>(Oo hv.1 (by omega) (by omega)).bind λz hz=>one hz.1 ?_
   rw[wrap64 (by omega) (by omega)]
   exact .bin _ _ _ _ (by omega) (by omega) hreg hv.2 hz.2.1 hz.2.2
  ·refine(Oo hk.1 (by omega) (by omega)).bind λu hu=>.chk (by simp;omega) ?_
   refine(Hs.get hu.2.1 (by simp;omega) λx hx=>aAB hx).bind λx hx=>one hu.1 (.un _ _ (by simp_all) hreg)
 have j3:∀ b,(b=true->0<f.Slots.length)->Hs (TV k f r ps i b) λp=>okC p.2/\p.1.length<=4/\∀ x∈p.1,Qf f.Slots f.Params i ps T x:=by
  intro b hb;refine .cond (λhb'=>?_) λ_=>.dec (λ_=>j4 _ λhd=>by simp_all) λ_=>j4 _ λhd=>(by cases hd)
  have:=hb hb';exact(Oo hk.1 (by omega) (by omega)).bind λu hu=>one hu.1 (.load _ _ hreg hu.2.1 hu.2.2)
 have j2:∀ b,(b=true->0<f.Slots.length)->Hs (TU k f r ps i b) λp=>okC p.2/\p.1.length<=4/\∀ x∈p.1,Qf f.Slots f.Params i ps T x:=by
  intro b hb;refine .cond (λhb'=>?_) λ_=>.dec (λ_=>j3 _ λhd=>by simp_all) λ_=>j3 _ λhd=>(by cases hd)
  have:=hb hb';exact(Oo hk.1 (by omega) (by omega)).bind λu hu=>one hu.1 (.store _ _ hu.2.1 hu.2.2 hreg)
 grind
theorem Qf.mono {np i:Int} {T T':Int->Prop} (h:Qf sl np i ps T x) (hT:∀ t,T t->T' t):Qf sl np i ps T' x:=by
 cases h with
 | store a b h1 h2 h3=>exact .store a b h1 h2 h3
 | load a b h1 h2 h3=>exact .load a b h1 h2 h3
 | move a b h1 h2 h3=>exact .move a b h1 h2 h3
 | const a w h1 h2=>exact .const a w h1 h2
 | bin op a b c h1 h2 h3 h4 h5 h6=>exact .bin op a b c h1 h2 h3 h4 h5 h6
 | out a h1=>exact .out a h1
 | un op a h1 h2=>exact .un op a h1 h2
 | param a b h1 h2 h3=>exact .param a b h1 h2 h3
 | arg a b h1 h2 h3=>exact .arg a b h1 h2 h3
 | call j h1 h2=>exact .call j h1 h2
 | jump t h1=>exact .jump t (hT t h1)
 | branch a t h1 h2=>exact .branch a t h1 (hT t h2)
def Adx (x:NJ):Prop:=x=⟨23,0,0,0,0⟩\/∃ w,W64 w/\x=⟨24,0,0,0,w⟩
def Abu (x:NJ) (t:Int):NJ :=
 if x.Op=20/\x.A<0 then⟨x.Op,t,x.B,x.C,x.Imm⟩else if x.Op=21/\x.B<0 then⟨x.Op,x.A,t,x.C,x.Imm⟩else x
theorem Adx.fix (h:Adx x) (t:Int):Abu x t=x:=by
 rcases h with rfl|⟨w,_,rfl⟩<;>simp[Abu]
theorem Qf.fix {np i:Int} {T:Int->Prop} (h:Qf sl np i ps (· = -1) x) {t:Int} (ht:T t):Qf sl np i ps T (Abu x t):=by
 cases h with
 | store a b h1 h2 h3=>exact .store a b h1 h2 h3
 | load a b h1 h2 h3=>exact .load a b h1 h2 h3
 | move a b h1 h2 h3=>exact .move a b h1 h2 h3
 | const a w h1 h2=>exact .const a w h1 h2
 | bin op a b c h1 h2 h3 h4 h5 h6 =>
  have:Abu ⟨op,a,b,c,0⟩ t=⟨op,a,b,c,0⟩:=by grind [Abu]
  rw[this];exact .bin op a b c h1 h2 h3 h4 h5 h6
 | out a h1=>exact .out a h1
 | un op a h1 h2 =>
  have:Abu ⟨op,a,0,0,0⟩ t=⟨op,a,0,0,0⟩:=by grind [Abu]
  rw[this];exact .un op a h1 h2
 | param a b h1 h2 h3=>exact .param a b h1 h2 h3
 | arg a b h1 h2 h3=>exact .arg a b h1 h2 h3
 | call j h1 h2=>exact .call j h1 h2
 | jump q h1=>subst h1;exact .jump t ht
 | branch a q h1 h2=>subst h2;exact .branch a t h1 ht
theorem AwF (h:code[k]? =some x) (r:Int×Lo) (t:Int):Qg (k:Int) code r t=some (.inl (r.2.list,r.2.at_,code.set k (Abu x t),IntKind.i64.wrap ((k:Int)+1))):=by
 obtain⟨hl,hx⟩:=aAC.1 h;have hset:code.set k x=code:=by grind [aAt]
 obtain⟨op,a,b,c,w⟩:=x;unfold Qg Sh
 by_cases h20:op=20
 ·subst h20
  by_cases ha:a<0
  ·simp_all[Ot,Abu]
  ·simp[Ot,hl,hx,Abu,ha,hset]
 ·by_cases h21:op=21
  ·subst h21
   by_cases hb:b<0
   ·simp_all[Ot,Abu]
   ·simp[Ot,hl,hx,Abu,hb,hset]
  ·have e20:(op==20)=false:=by simp_all
   have e21:(op==21)=false:=by simp_all
   simp[Ot,hl,hx,Abu,h20,h21,hset]
structure Sc (ps:List Int) (i most:Int) (f:NI):Prop where
 par:ps[i.toNat]? =some f.Params
 slots:f.Slots.length<=6
 slot:∀ s∈f.Slots,Zw s
 len:1<=f.Code.length
 len':(f.Code.length:Int)<=7+5*most
 body:∀ (k:Nat) x,f.Code[k]? =some x->k+1<f.Code.length->Qf f.Slots f.Params i ps (λt=>0<=t/\t<f.Code.length) x
 last:∀ x,f.Code[f.Code.length-1]? =some x->Adx x
theorem Awd {a:Int} (h:okC ⟨l,a⟩) {np i:Int} (hpar:ps[i.toNat]? =some np) (hsl:sl.length<=6) (hsl':∀ s∈sl,Zw s) (hlen:1<=code.length) (hlen':(code.length:Int)<=7+5*most) (hm:most<=1000) (hb:∀ (k:Nat) x,code[k]? =some x->k+1<code.length->Qf sl np i ps (· = -1) x) (he:∀ x,code[code.length-1]? =some x->Adx x) :
  Hs (NZ (λs:List Int×Int×List NJ×Int=>Ws np sl s.1 s.2.1 s.2.2.1 s.2.2.2) (l,a,code,0)) λp=>okC p.2/\Sc ps i most p.1:=by
 refine Hs.loop (λs=>okC ⟨s.1,s.2.1⟩/\s.2.2.1.length=code.length/\∃ k:Nat,s.2.2.2=(k:Int)/\k<=code.length/\(∀ x,s.2.2.1[code.length-1]? =some x->Adx x) /\
  ∀ (j:Nat) x,s.2.2.1[j]? =some x->j+1<code.length->Qf sl np i ps (λt=>if j<k then 0<=t/\t<code.length else t= -1) x) (λs=>code.length-s.2.2.2.toNat) ⟨h,rfl,0,rfl,aAE _,he,λj x hj hj'=>(hb j x hj hj').mono λt ht=>by simp_all⟩ ?_
 rintro⟨l,a,code',k⟩ ⟨hc,hl,k,rfl,hk,he',hall⟩;simp only at hc hl he' hall;refine .dec (λhlt=>?_) λhlt=>?_
 ·have hlt:k<code.length:=by simp_all
  have w:=NQ (show k<9223372036854775807 by omega)
  have hx:code'[k]? =some (code'[k]'(by omega)):=aAA _
  generalize code'[k]'(by omega)=x at hx
  have step:∀ (r:Int×Lo) (t:Int),okC r.2->0<=t->t<code.length->Hs (Qg (k:Int) code' r t) (Rnd (λs:List Int×Int×List NJ×Int=>okC ⟨s.1,s.2.1⟩/\s.2.2.1.length=code.length/\∃ k:Nat,s.2.2.2=(k:Int)/\k<=code.length/\(∀ x,s.2.2.1[code.length-1]? =some x->Adx x) /\
    ∀ (j:Nat) x,s.2.2.1[j]? =some x->j+1<code.length->Qf sl np i ps (λt=>if j<k then 0<=t/\t<code.length else t= -1) x) (λs=>code.length-s.2.2.2.toNat) (l,a,code',(k:Int)) (λp:NI×Lo=>okC p.2/\Sc ps i most p.1)):=by
   intro r t hr ht0 ht1;rw[AwF hx];refine .pure ⟨⟨hr,by simp[hl],k+1,w,hlt,?_,?_⟩,by grind⟩
   ·intro y hy;simp only at hy
    by_cases e:k=code.length-1
    ·rw[<- e,aAq (by omega)]at hy
     obtain rfl:=Option.some.inj hy;have hex:=he' x (by simp_all)
     rw[hex.fix];exact hex
    simp_all
   ·intro j y hy hj;simp only at hy
    by_cases e:k=j
    ·subst e;rw[aAq (by omega)]at hy
     obtain rfl:=Option.some.inj hy;exact((hall k x hx hj).mono λt ht=>by simp_all).fix (by simp_all)
    grind
  refine(Oo hc (by omega) (by omega)).bind λr hr=>?_
  have w1:IntKind.i64.wrap ((k:Int)+r.1)=(k:Int)+r.1:=wrap64 (by omega) (by omega)
  grind [wrap64]
 ·have hlt:¬ k<code'.length:=λh=>hlt (Int.ofNat_lt.2 h)
  have hkl:k=code.length:=by omega
  refine .lft (.pure ⟨hc,hpar,hsl,hsl',by simp_all,by simp_all,?_,?_⟩)
  all_goals grind
theorem Auk {a:Int} (h:okC ⟨l,a⟩) {np i:Int} (hpar:ps[i.toNat]? =some np) (hsl:sl.length<=6) (hsl':∀ s∈sl,Zw s) (hlen:(code.length:Int)<=6+5*most) (hm:most<=1000) (hb:∀ x∈code,Qf sl np i ps (· = -1) x) {e1 e2:Int} (he:Adx ⟨e1,0,0,0,e2⟩) :
  Hs (Rn code np sl l a e1 e2) λp=>okC p.2/\Sc ps i most p.1:=by
 unfold Rn;refine .chk (by simp;omega) (Awd h hpar hsl hsl' (by simp) (by simp;omega) hm ?_ ?_)
 all_goals grind
theorem Apq (h:okC c) {i:Int} (hi:0<=i) (hi':i<ps.length) (hps:Ajf ps) (hm0:0<=most) (hm:most<=1000) :
  Hs (Vy c i ps most) λp=>okC p.2/\Sc ps i most p.1:=by
 refine(Hs.ix hi hi' λx hx=>hx).bind λnp hnp=>(AtX h (by omega) (by omega)).bind λsl hsl=>?_
 obtain⟨hc0,hsl1,hsl2⟩:=hsl;have hnp4:=hps.1 np (aAB hnp);refine Hs.loop (λs=>okC ⟨s.1,s.2.1⟩/\0<=s.2.2.2/\s.2.2.2<=sl.1.length/\(s.2.2.1.length:Int)<=s.2.2.2/\∀ x∈s.2.2.1,Qf sl.1 np i ps (· = -1) x) (λs=>sl.1.length-s.2.2.2.toNat) ⟨hc0,by simp,by simp,by simp,by simp⟩ ?_
 rintro⟨l,a,code,s⟩ ⟨hc,hs0,hs1,hcl,hall⟩;simp only at hc hs0 hs1 hcl hall;refine .dec (λhlt=>?_) λhlt=>?_
 ·have hlt:s<sl.1.length:=hlt;have w:IntKind.i64.wrap (s+1)=s+1:=wrap64 (by omega) (by omega)
  refine(Oo hc (by omega) (by omega)).bind λr hr=>.dec (λ_=>?_) λ_=>?_
  ·refine(Oo hr.1 (by omega) (by omega)).bind λq hq=>.chk (by simp;omega) (.cnt ⟨⟨hq.1,by grind,by grind,by simp_all,?_⟩,by grind⟩)
   intro y hy;rcases aAM.1 hy with h2|h2
   ·simp_all
   ·rw[aAO]at h2;subst h2;exact .store _ _ hs0 hlt hq.2
  ·exact .cnt ⟨⟨hr.1,by grind,by grind,by grind,hall⟩,by grind⟩
 ·have w:IntKind.i64.wrap (most+1)=most+1:=wrap64 (by omega) (by omega)
  refine .lft ((Oo hc (by omega) (by omega)).bind λr hr=>?_)
  refine Hs.loop (λs=>okC ⟨s.1,s.2.1⟩/\s.2.2.2.1=sl.1/\0<=s.2.2.2.2/\s.2.2.2.2<=most/\(s.2.2.1.length:Int)<=6+5*(most-s.2.2.2.2)/\∀ x∈s.2.2.1,Qf sl.1 np i ps (· = -1) x) (λs=>s.2.2.2.2.toNat) ⟨hr.1,rfl,hr.2.1,by grind,by grind,hall⟩ ?_
  rintro⟨l,a,code,sl',n⟩ ⟨hc,rfl,hn0,hn1,hcl,hall⟩;simp only at hc hn0 hn1 hcl hall;refine .dec (λhlt=>?_) λhlt=>.lft ?_
  ·have hlt:0<n:=hlt;have w:IntKind.i64.wrap (n-1)=n-1:=wrap64 (by omega) (by omega)
   refine(AuK hc (· = -1) (by grind) hnp4.2 hi hi' hps).bind λb hb=>.chk (by simp;omega) ?_
   have hall2:∀ x∈code++b.1,Qf sl.1 np i ps (· = -1) x:=by
    grind
   have hall3:∀ x,Qf sl.1 np i ps (· = -1) x->∀ y∈(code++b.1)++[x],Qf sl.1 np i ps (· = -1) y:=by
    grind
   refine(Oo hb.1 (by omega) (by omega)).bind λr hr=>.beq (λ_=>?_) λ_=>.beq (λ_=>?_) λ_=>?_
   ·refine(Oo hr.1 (by omega) (by omega)).bind λq hq=>.chk (by simp;omega) (.cnt ⟨⟨hq.1,rfl,by grind,by grind,by grind,hall3 _ (.branch _ _ hq.2 rfl)⟩,by grind⟩)
   ·refine(Oo hr.1 (by omega) (by omega)).bind λq hq=>.beq (λ_=>?_) λ_=>?_
    ·exact .chk (by simp;omega) (.cnt ⟨⟨hq.1,rfl,by grind,by grind,by grind,hall3 _ (.jump _ rfl)⟩,by grind⟩)
    ·exact .cnt ⟨⟨hq.1,rfl,by grind,by grind,by grind,hall2⟩,by grind⟩
   ·exact .cnt ⟨⟨hr.1,rfl,by grind,by grind,by grind,hall2⟩,by grind⟩
  ·refine(Oo hc (by omega) (by omega)).bind λr hr=>.beq (λ_=>?_) λ_=>?_
   ·exact(Aqf hr.1).bind λq hq=>Auk hq.1 hnp (by omega) hsl2 (by omega) hm hall (.inr ⟨_,hq.2,rfl⟩)
   ·exact Auk hr.1 hnp (by omega) hsl2 (by omega) hm hall (.inl rfl)
def Acs (funcs most:Int) (p:NL):Prop :=
 ∃ ps,Ajf ps/\ps[0]? =some 0/\1<=ps.length/\(ps.length:Int)<=funcs/\p.Funcs.length=ps.length/\∀ (j:Nat) f,p.Funcs[j]? =some f->Sc ps j most f
theorem AqW (h:okC c) {funcs:Int} (hf:1<=funcs) (hf':funcs<=1000) (hm0:0<=most) (hm:most<=1000) :
  Hs (VP c funcs most) λp=>okC p.2/\Acs funcs most p.1:=by
 refine(Oo h hf (by omega)).bind λr hr=>?_
 refine Hs.loop (λs=>okC ⟨s.1,s.2.1⟩/\(∀ v∈s.2.2.1,0<=v/\v<4)/\s.2.2.1[0]? =some 0/\0<=s.2.2.2/\(s.2.2.1.length:Int)+s.2.2.2<=funcs) (λs=>s.2.2.2.toNat) ⟨hr.1,by simp,by simp,hr.2.1,by simp;omega⟩ ?_
 rintro⟨l,a,ps,n⟩ ⟨hc,hv,hz,hn0,hn1⟩;simp only at hc hv hz hn0 hn1;have hp1:1<=ps.length:=by grind
 refine .dec (λhlt=>?_) λhlt=>.lft ?_
 ·have hlt:0<n:=hlt;have w:IntKind.i64.wrap (n-1)=n-1:=wrap64 (by omega) (by omega)
  refine(Oo hc (by omega) (by omega)).bind λq hq=>.chk (by simp;omega) (.cnt ⟨⟨hq.1,?_,by grind,by grind,by grind⟩,by grind⟩)
  grind
 ·have hps:Ajf ps:=⟨hv,by omega⟩
  refine Hs.loop (λs=>okC ⟨s.1,s.2.1⟩/\s.2.2.2.2=ps/\∃ i:Nat,s.2.2.2.1=(i:Int)/\i<=ps.length/\s.2.2.1.length=i/\∀ (j:Nat) f,s.2.2.1[j]? =some f->Sc ps j most f) (λs=>ps.length-s.2.2.2.1.toNat) ⟨hc,rfl,0,rfl,aAE _,rfl,λj f hj=>by simp at hj⟩ ?_
  rintro⟨l,a,fs,i',ps'⟩ ⟨hc,hpe,i,hie,hi,hfl,hall⟩;simp only at hc hpe hie hi hfl hall;subst hpe hie;unfold WG;refine .dec (λhlt=>?_) λhlt=>.lft (.pure ⟨hc,ps',hps,hz,hp1,by omega,?_,hall⟩)
  ·have hlt:i<ps'.length:=Int.ofNat_lt.1 hlt;have w:=NQ (show i<9223372036854775807 by omega)
   have hpl:=hps.2;refine .chk (by simp;omega) ((Apq hc (i:=(i:Int)) (ps:=ps') (by omega) (by omega) hps hm0 hm).bind λf hf=>.chk (by simp;omega) (.cnt ⟨⟨hf.1,rfl,i+1,w,hlt,by simp;omega,?_⟩,by grind⟩))
   grind
  grind
def RJ (x:NJ) (k:Int):List Int :=
 if x.Op=20 then[x.A]else if x.Op=23\/x.Op=24 then[]else
 if x.Op=21 then(if x.B<k+1 then[x.B,k+1]else if k+1<x.B then[k+1,x.B]else[k+1])else[k+1]
theorem AoV (h:f.Code[k]? =some x) (hk:k<9223372036854775807):YS f (k:Int)=some (RJ x k):=by
 obtain⟨hl,hx⟩:=aAC.1 h;have hnl:¬ f.Code.length<=k:=by omega
 have w:IntKind.i64.wrap ((k:Int)+1)=(k:Int)+1:=wrap64 (by omega) (by omega)
 unfold YS ZT RJ;obtain⟨op,a,b,c,i⟩:=x
 by_cases h20:op=20
 ·subst h20;simp[hx,hl,hnl,show ¬ (k:Int)<0 by omega]
 ·by_cases h23:op=23
  ·simp_all[RC]
  ·by_cases h24:op=24
   ·simp_all[RC]
   ·by_cases h21:op=21
    ·subst h21
     by_cases hb:b<(k:Int)+1
     ·simp[hx,hl,hnl,show ¬ (k:Int)<0 by omega,RC,w,hb]
     ·by_cases hb':(k:Int)+1<b
      ·simp[hx,hl,hnl,show ¬ (k:Int)<0 by omega,RC,w,hb,hb']
      ·simp[hx,hl,hnl,show ¬ (k:Int)<0 by omega,RC,w,hb,hb']
    ·simp[hx,hl,hnl,show ¬ (k:Int)<0 by omega,RC,w,h20,h23,h24,h21]
def QQ (x:NJ):List Int:=if x.Op=15\/x.Op=17 then[x.B]else[]
structure OL (f:NI):Prop where
 len:1<=f.Code.length
 len':f.Code.length<=10000
 slots:f.Slots.length<=500
 next:∀ (k:Nat) x,f.Code[k]? =some x->∀ j∈RJ x k,0<=j/\j<f.Code.length
 uses:∀ x∈f.Code,∀ v∈QQ x,0<=v/\v<f.Slots.length
theorem Sc.SI {i:Int} (h:Sc ps i most f) (hm:most<=1000):OL f:=by
 have hl:=h.len;have hl':=h.len';have hs:=h.slots;refine⟨hl,by omega,by omega,λk x hx j hj=>?_,λx hx v hv=>?_⟩
 ·have hkl:=(aAC.1 hx).1
  by_cases hk:k+1<f.Code.length
  ·have hins:=h.body k x hx hk;cases hins<;>grind [RJ]
  ·have he:=h.last x (by grind)
   rcases he with rfl|⟨w,_,rfl⟩<;>simp[RJ]at hj
 ·obtain⟨k,hk⟩:=aAH hx;have hkl:=(aAC.1 hk).1
  by_cases hk1:k+1<f.Code.length
  ·have hins:=h.body k x hk hk1;cases hins<;>grind [QQ]
  ·have he:=h.last x (by grind)
   rcases he with rfl|⟨w,_,rfl⟩<;>simp[QQ]at hv
def ON (n:Int) (s:List Int):Prop:=Po s/\∀ x∈s,x<n
theorem ON.nil (n:Int):ON n []:=⟨Po.nil,λx hx=>by cases hx⟩
theorem ON.add {n m:Int} (h:ON n s) (hm:0<=m/\m<n) (hn:n<=512):ON n (Ra m s)/\Sw s m=some (Ra m s):=by
 have hl:=h.1.length_le;refine⟨?_,add_eq s m (by omega)⟩
 unfold Ra;rw[if_pos (by omega)]
 refine⟨h.1.Tm (by omega),λx hx=>?_⟩
 rw[Abz]at hx;rcases hx with rfl|hx
 ·exact hm.2
 ·exact h.2 x hx
def RowsIn (n:Int) (g:List (List Int)):Prop:=∀ s∈g,ON n s
theorem RowsIn.set {n:Int} (h:RowsIn n g) (hs:ON n s):RowsIn n (g.set i s):=by
 intro x hx;rcases aAb hx with h1|rfl
 ·exact h x h1
 ·exact hs
def inN (x:NJ) (s:List Int):List Int:=RQ (if x.Op=16\/x.Op=17 then s.filter (· != x.A)else s) (QQ x)
theorem Auj (x:NJ) (s:List Int) (h:s.length<=900000):AbI x s=some (inN x s):=by
 obtain⟨op,a,b,c,i⟩:=x;have hu:UN ⟨op,a,b,c,i⟩=some (QQ ⟨op,a,b,c,i⟩):=by
  grind [UN,QQ]
 have hul:(QQ ⟨op,a,b,c,i⟩).length<=1:=by grind [QQ]
 have hfl:(s.filter (· != a)).length<=s.length:=List.length_filter_le ..;have hr:=Anp s a (by omega)
 grind [union_eq,AbI,Rg,RW,inN]
theorem AdL (hf:OL f) (hx:x∈f.Code) (hs:ON f.Slots.length s) :
  ON f.Slots.length (inN x s)/\∀ v,v∈inN x s↔(v∈s/\¬ ((x.Op=16\/x.Op=17)/\x.A=v))\/v∈QQ x:=by
 have hsl:=hf.slots;have h0:ON f.Slots.length (if x.Op=16\/x.Op=17 then s.filter (· != x.A)else s):=by
  split
  ·exact⟨hs.1.filter _,λv hv=>hs.2 v (aAf.1 hv).1⟩
  ·exact hs
 obtain⟨h1,h2⟩:=Xx (n:=f.Slots.length) (by omega) (b:=QQ x) h0 (hf.uses x hx)
 refine⟨h1,λv=>?_⟩
 unfold inN
 grind
def NO (f:NI) (j:Int):NJ:=(f.Code[j.toNat]?).getD default
def Ou (l:List (List Int)) (j:Int):List Int:=(l[j.toNat]?).getD []
def XT (f:NI) (l:List (List Int)) (k:Int):List Int:=(RJ (NO f k) k).foldl (λo j=>RQ o (inN (NO f j) (Ou l j))) []
def TM (f:NI) (l:List (List Int)):List (List Int):=(List.range f.Code.length).map λk=>XT f l (k:Nat)
def Sd (f:NI) (l:List (List Int)):Prop:=l.length=f.Code.length/\∀ s∈l,ON f.Slots.length s
theorem Aos {f:NI} (hf:OL f) {l:List (List Int)} (hl:Sd f l):∀ {js:List Int} {o:List Int},(∀ j∈js,0<=j/\j<f.Code.length)->ON f.Slots.length o ->
  ON f.Slots.length (js.foldl (λo j=>RQ o (inN (NO f j) (Ou l j))) o)/\∀ v,v∈js.foldl (λo j=>RQ o (inN (NO f j) (Ou l j))) o↔v∈o\/∃ j∈js,v∈inN (NO f j) (Ou l j)
 | [],o,_,ho=>⟨ho,λv=>by simp⟩
 | j::js,o,hj,ho=>by
  have hsl:=hf.slots;have h0:=hj j (aAJ ..);have hc:NO f j∈f.Code:=by
   grind [NO]
  have ho':ON f.Slots.length (Ou l j):=by
   unfold Ou;rw[aAA (show j.toNat<l.length by have:=hl.1;omega)]
   exact hl.2 _ (aAF _)
  obtain⟨h1,h2⟩:=AdL hf hc ho';obtain⟨h3,h4⟩:=Xx (n:=f.Slots.length) (by omega) (b:=inN (NO f j) (Ou l j)) ho λx hx=>⟨(h1.1.2 x hx).1,h1.2 x hx⟩
  obtain⟨h5,h6⟩:=Aos hf hl (λq hq=>hj q (aAK _ hq)) h3
  grind
theorem ZP (hf:OL f) {l:List (List Int)} (hl:Sd f l) (hk:k<f.Code.length) :
  ON f.Slots.length (XT f l k)/\∀ v,v∈XT f l k↔∃ j∈RJ (NO f k) k,v∈inN (NO f j) (Ou l j):=by
 have hx:f.Code[k]? =some (NO f k):=by grind [NO]
 obtain⟨h1,h2⟩:=Aos hf hl (js:=RJ (NO f k) k) (hf.next k _ hx) (ON.nil _)
 grind [XT]
theorem Apf (hf:OL f) {l:List (List Int)} (hl:Sd f l):Sd f (TM f l):=by
 refine⟨by simp[TM],λs hs=>?_⟩
 obtain⟨k,hk,rfl⟩:=List.mem_map.1 hs
 grind [ZP]
theorem step_eq (hf:OL f) {l:List (List Int)} (hl:Sd f l):AaW f ⟨l⟩=some ⟨TM f l⟩:=by
 have hlen:=hf.len';unfold AaW;rw[Ot (by omega)]
 have key:Hs (NZ (λs:List (List Int)×Int=>XF f ⟨l⟩ s.1 s.2) (aAu (f.Code.length:Int).toNat ([]:List Int),0)) λr=>r=⟨TM f l⟩:=by
  refine Hs.loop (λs=>s.1.length=f.Code.length/\∃ k:Nat,s.2=(k:Int)/\k<=f.Code.length/\∀ (j:Nat) r,s.1[j]? =some r->r=if j<k then XT f l j else[]) (λs=>f.Code.length-s.2.toNat) ⟨by simp,0,rfl,aAE _,λj r hj=>?_⟩ ?_
  ·grind
  rintro⟨x,k'⟩ ⟨hxl,k,hke,hk,hall⟩;simp only at hxl hke hall;subst hke
  by_cases hlt:k<f.Code.length
  ·have w:=NQ (show k<9223372036854775807 by omega)
   have hx:f.Code[k]? =some (NO f k):=by grind [NO]
   have hxk:x[k]? =some []:=by
    grind
   have hset:x.set k []=x:=by
    grind [aAt]
   have inner:=Ua (body:=λs:List (List Int)×Int=>XG (RJ (NO f k) k) k f ⟨l⟩ s.1 s.2) (RJ (NO f k) k) (λ(o:List Int) i=>(x.set k o,i)) (λo _=>ON f.Slots.length o)
    (λo js=>some (.inl (x.set k (js.foldl (λo j=>RQ o (inN (NO f j) (Ou l j))) o),((k+1:Nat):Int))))
    (λo _=>⟨_,by simp[XG,ZU,w];rfl,by simp⟩) (λo i j r ho hd hi hj=>by
     left
     have wi:=NQ (show i<9223372036854775807 by
      grind [RJ])
     have hjm:=hf.next k _ hx j (aAB hj);have hjc:f.Code[j.toNat]? =some (NO f j):=by grind [NO]
     have hjl:j.toNat<l.length:=by have:=hl.1;omega
     have hjo:l[j.toNat]? =some (Ou l j):=by grind [Ou]
     have hos:ON f.Slots.length (Ou l j):=hl.2 _ (aAB hjo);have hsl:=hf.slots;obtain⟨g1,g2⟩:=AdL hf (aAB hjc) hos;obtain⟨g3,g4⟩:=Xx (n:=f.Slots.length) (by omega) (b:=inN (NO f j) (Ou l j)) ho λx hx=>⟨(g1.1.2 x hx).1,g1.2 x hx⟩
     have e1:=Auj (NO f j) (Ou l j) (by have:=hos.1.length_le;omega)
     have e2:=union_eq o (inN (NO f j) (Ou l j)) (by have:=ho.1.length_le;have:=g1.1.length_le;omega)
     obtain⟨_,hje⟩:=aAC.1 hj;refine⟨RQ o (inN (NO f j) (Ou l j)),g3,?_,by simp⟩
     simp_all[XG,Py]) [] (ON.nil _)
   simp only[hset]at inner;refine⟨.inl (x.set k (XT f l k),((k+1:Nat):Int)),?_,⟨by simp_all,k+1,rfl,hlt,λj r hj=>?_⟩,by grind⟩
   ·simp only[XF,decide_eq_true (Int.ofNat_lt.2 hlt),cond_true,AoV hx (by omega),aA]
    exact inner
   grind
  ·refine⟨.inr ⟨x⟩,by simp[XF,hlt],?_⟩
   congr 1;refine List.ext_getElem (by grind [TM]) λj h1 h2=>?_
   have:=hall j _ (aAA h1);rw[this,if_pos (by omega)]
   simp[TM]
 obtain⟨r,h1,rfl⟩:=key;exact h1
def LE (a b:List (List Int)):Prop:=∀ (k:Nat) s t,a[k]? =some s->b[k]? =some t->∀ v∈s,v∈t
theorem LE.trans {a b c:List (List Int)} (h1:LE a b) (h2:LE b c) (hl:a.length=b.length):LE a c:=by
 intro k s t hs ht v hv;have hk:=(aAC.1 hs).1;have hb:b[k]? =some (b[k]'(by omega)):=aAA _
 exact h2 k _ t hb ht v (h1 k s _ hs hb v hv)
theorem Asx:∀ {a b:List (List Int)},a.length=b.length->(∀ s∈a,Po s)->(∀ s∈b,Po s)->LE a b->(a.map List.length).sum<=(b.map List.length).sum/\((a.map List.length).sum=(b.map List.length).sum->a=b)
 | [],[],_,_,_,_=>⟨aAR _,λ_=>rfl⟩
 | [],y::b,h,_,_,_=>by simp at h
 | x::a,[],h,_,_,_=>by simp at h
 | x::a,y::b,h,ha,hb,hle=>by
  have hsub:=(ha x (aAJ ..)).sub (hb y (aAJ ..)) (hle 0 x y rfl rfl);obtain⟨h1,h2⟩:=Asx (a:=a) (b:=b) (by simp_all) (λs hs=>ha s (aAK _ hs)) (λs hs=>hb s (aAK _ hs)) λk s t hs ht=>hle (k+1) s t (by simp_all) (by simp_all)
  grind
theorem Anw:∀ {a:List (List Int)},(∀ s∈a,Po s)->(a.map List.length).sum<=512*a.length
 | [],_=>by simp
 | x::a,ha=>by
  have h1:=(ha x (aAJ ..)).length_le;have h2:=Anw (a:=a) λs hs=>ha s (aAK _ hs)
  grind
theorem Att (hf:OL f) (hx:x∈f.Code) {t:List Int} (hs:ON f.Slots.length s) (ht:ON f.Slots.length t) (h:∀ v∈s,v∈t):∀ v∈inN x s,v∈inN x t:=by
 intro v hv;rw[(AdL hf hx hs).2]at hv;rw[(AdL hf hx ht).2]
 grind
theorem Anu (hf:OL f) {a b:List (List Int)} (ha:Sd f a) (hb:Sd f b) (h:LE a b):LE (TM f a) (TM f b):=by
 intro k s t hs ht v hv;have hk:k<f.Code.length:=by grind [TM]
 have e1:s=XT f a k:=by grind [TM]
 have e2:t=XT f b k:=by grind [TM]
 subst e1 e2;rw[(ZP hf ha hk).2]at hv;rw[(ZP hf hb hk).2];obtain⟨j,hj,hv⟩:=hv;have hx:f.Code[k]? =some (NO f k):=by grind [NO]
 have hjm:=hf.next k _ hx j hj;have hjc:f.Code[j.toNat]? =some (NO f j):=by grind [NO]
 have hja:a[j.toNat]? =some (Ou a j):=by simp[Ou,show j.toNat<a.length by have:=ha.1;omega]
 have hjb:b[j.toNat]? =some (Ou b j):=by simp[Ou,show j.toNat<b.length by have:=hb.1;omega]
 exact⟨j,hj,Att hf (aAB hjc) (ha.2 _ (aAB hja)) (hb.2 _ (aAB hjb)) (h _ _ _ hja hjb) v hv⟩
structure AlW (f:NI) (l:List (List Int)):Prop where
 ok:Sd f l
 fix:TM f l=l
 least:∀ b,Sd f b->LE (TM f b) b->LE l b
theorem AkO (hf:OL f):Hs (XR f) λl=>AlW f l.Out:=by
 have hlen:=hf.len';refine .chk (by omega) ?_
 refine Hs.loop (λl=>Sd f l/\LE l (TM f l)/\∀ b,Sd f b->LE (TM f b) b->LE l b) (λl=>512*f.Code.length-(l.map List.length).sum) ⟨⟨by simp,λs hs=>?_⟩,λk s t hs ht v hv=>?_,λb _ _ k s t hs ht v hv=>?_⟩ ?_
 ·grind [ON.nil]
 ·grind
 ·grind
 ·rintro l ⟨hl,hle,hleast⟩;have hl':=Apf hf hl;have e1:=step_eq hf hl;have e2:AaV ⟨TM f l⟩ ⟨l⟩=some (decide (TM f l=l)):=by
   unfold AaV;rw[Arb _ _ (by have:=hl'.1;grind) (λs hs=>by have:=(hl'.2 s hs).1.length_le;omega)]
   rfl
  obtain⟨s1,s2⟩:=Asx (by rw[hl.1,hl'.1]) (λs hs=>(hl.2 s hs).1) (λs hs=>(hl'.2 s hs).1) hle
  have s3:=Anw λs hs=>(hl'.2 s hs).1
  rw[hl'.1]at s3;unfold AbJ;rw[e1,aA,e2,aA]
  by_cases he:TM f l=l
  ·simp only[he,decide_true,cond_true];exact .lft (.pure ⟨hl,he,hleast⟩)
  ·simp only[he,decide_false,cond_false];refine .cnt ⟨⟨hl',Anu hf hl hl' hle,λb hb hb'=>(Anu hf hl hb (hleast b hb hb')).trans hb' (by rw[hl'.1,(Apf hf hb).1])⟩,?_⟩
   grind
theorem Ans (a b:List Int) (ha:a.length<=16777215) (hb:b.length<=9223372036854775807):XQ a b=some (a.filter λv=>!decide (v∈b)):=by
 unfold XQ;have:=Ua (body:=λp:List Int×Int=>Vb a b p.1 p.2) a (λ(out:List Int) i=>(out,i)) (λout i=>out.length<=i) (λout l=>some (out++l.filter λv=>!decide (v∈b)))
  (λout _=>⟨out,by simp[Vb],by simp⟩) (λout i x r ho hd hi hx=>by
   have w:=NQ (show i<9223372036854775807 by omega)
   obtain⟨_,rfl⟩:=aAC.1 hx;left
   by_cases h:a[i]∈b
   ·exact⟨out,by omega,by simp_all[Vb,AaN],by simp[h]⟩
   ·exact⟨out++[a[i]],by simp;omega,by simp[Vb,hi,AaN b _ hb,h,w,show out.length<=16777215 by omega],by simp[h]⟩)
  [] (by simp)
 simp_all
theorem Aqg (ht:Xj t) (n:Int):Ru t n=some (decide (0<=n/\n<512)&&hasB t n,t):=by
 unfold Ru;rw[Afj,aA]
 by_cases h:0<=n/\n<512
 ·rw[decide_eq_true h];obtain⟨h0,h1⟩:=h;have hi:n.toNat / 64<8:=by omega
  have hw:=ht.word hi;simp only[cond_true,Bool.true_and];rw[AqX h0 h1,Ot (by omega),aAD,AcU hi,aA,Ot (AnY n).1,(AnY n).2 h0 h1]
  have e:Nat.min (n.toNat % 64) IntKind.u64.bits=n.toNat % 64:=Nat.min_eq_left (by show n.toNat % 64<=64;omega)
  have e2:(WD t (n.toNat / 64)).fdiv (2 ^ (n.toNat % 64))=(((WD t (n.toNat / 64)).toNat / 2 ^ (n.toNat % 64):Nat):Int):=by
   rw[Int.fdiv_eq_ediv_of_nonneg _ (Int.pow_nonneg (by omega))]
   have:WD t (n.toNat / 64)=(((WD t (n.toNat / 64)).toNat:Nat):Int):=by have:=hw.1;omega
   grind
  have hlt:(WD t (n.toNat / 64)).toNat / 2 ^ (n.toNat % 64)<18446744073709551616:=Nat.lt_of_le_of_lt (Nat.div_le_self ..) hw.toNat_lt;rw[e,e2,Aui (WW.nat hlt) ⟨by omega,by omega⟩]
  congr 2;unfold hasB AcX
  grind
 grind
theorem AvE (t:BS) (n:Int):Sq t n=(Ru t n).map (·.1):=by
 unfold Sq Ru;rw[Option.map_bind];congr 1;funext b;cases b
 ·rfl
 ·simp only[cond_true,Function.comp]
  by_cases h:0<=IntKind.i64.wrap (n.tdiv 64)/\IntKind.i64.wrap (n.tdiv 64)<8
  ·rw[Ot h,Ot h,Option.map_bind];congr 1;funext e;simp_all[chk]
  grind [chk]
theorem AvD (hl:l.length<=9000000000000000000) {n:Int} (h0:0<=n) (h1:n<512):AaB l n=some (decide (n∈l)):=by
 unfold AaB;obtain⟨r,e1,e2,e3⟩:=AqQ l hl
 grind [Aqg]
theorem Ari {a b:List Int} (ha:∀ v∈a,0<=v/\v<512) (hla:a.length<=1000000) (hb:b.length<=9000000000000000000):Xz a b=some (decide (∀ v∈a,v∈b)):=by
 unfold Xz;obtain⟨r,e1,e2,e3⟩:=AqQ b hb;rw[e1,aA];unfold Qp;have key:∃ k:Int,QN a r=some k/\(0<=k↔¬ ∀ v∈a,v∈b):=by
  have h1:∀ v,0<=v->v<512->TP v r=some (!decide (v∈b)):=by
   grind [TP,AvE,Aqg]
  refine Hs.loop (λi=>0<=i/\i<=a.length/\∀ v∈a.take i.toNat,v∈b) (λi=>a.length-i.toNat) ⟨by omega,by omega,by simp⟩ λi ⟨h0,h2,h3⟩=>?_
  refine .dec (λh=>?_) λh=>?_
  ·refine Hs.bind (P:=λx=>a[i.toNat]? =some x) (.ix h0 h λx hx=>hx) λx hx=>?_
   have hm:=aAB hx;rw[h1 x (ha x hm).1 (ha x hm).2,aA];refine .cond (λe=>.lft (.pure ?_)) λe=>.cnt ⟨⟨?_,?_,?_⟩,?_⟩
   ·refine⟨λ_ hall=>?_,λ_=>h0⟩
    simp_all
   all_goals rw[AdP (by omega) (by omega)]
   ·omega
   ·omega
   ·rw[show(i+1).toNat=i.toNat+1 by omega,aAY,hx]
    grind
   grind
  ·refine .lft (.pure ⟨λk=>absurd k (by decide),λk=>absurd (λv hv=>h3 v ?_) k⟩)
   grind [aAX]
 grind
theorem ApK {a b:List Int} (ha:a.length<=1000000) (hb:b.length<=1000000):YB a b=some (decide (∀ v∈a,v∈b)):=by
 grind [YB,Ans,decide,List.filter_eq_nil_iff,List.length_pos_iff]
theorem Ajr (hs:Po s) {n:Int} (h:0<=n/\n<512):Aaz s n=some (Ra n s):=by
 unfold Aaz;obtain⟨r,e1,e2,e3⟩:=AqQ s (by have:=hs.length_le;omega)
 obtain⟨u,f1,f2,f3⟩:=Asf e2 n true;obtain⟨q,g1,g2,g3⟩:=Aqm f2;rw[e1,aA,f1,aA,g1,aA];congr 1;have hk:=ON.AdS (n:=512) (m:=n) (s:=s) ⟨hs,λx hx=>(hs.2 x hx).2⟩ h (aAW _)
 refine g3.1.ext hk.1 λv=>?_
 rw[g3.2,hk.2.2];constructor
 ·simp_all
 ·intro hv;have hr:0<=v/\v<512:=hv.elim (λe=>e▸h) (hs.2 v)
  simp_all
structure GrY (g:List (List Int)):Prop where
 len:g.length<=500
 row:∀ s∈g,Po s/\∀ x∈s,x<g.length
theorem GrY.at_ (h:GrY g) (hi:g[i]? =some s):Po s/\∀ x∈s,x<g.length:=h.row s (aAB hi)
theorem AqM {ι R:Type} {f h:ι->Option (ι⊕R)} (I:ι->Prop) (hf:∀ s,I s->f s=h s) (hI:∀ s s',I s->f s=some (.inl s')->I s') {s:ι} (h0:I s):NZ f s=NZ h s:=by
 have key:∀ n s,I s->YL f n s=YL h n s:=by
  intro n
  induction n with
  | zero=>intro s _;rfl
  | succ n ih =>
   grind [VV]
 apply Option.ext
 grind [Aah]
theorem Ajj {ι R:Type} {body:ι->Option (ι⊕R)} {s:ι} {m:Option R} (h:body s=lft m):NZ body s=m:=by
 rw[PX,h];cases m<;>rfl
def nxY (g:List (List Int)) (done:List Int):Nat->Nat->Int
 | 0,_=>-1
 | d+1,k=>if ¬ (k:Int)∈done/\∀ v∈g.getD k [],v∈done then k else nxY g done d (k+1)
theorem Alr {g:List (List Int)} {done:List Int}:∀ (d k:Nat),nxY g done d k= -1\/∃ j:Nat,nxY g done d k=j/\k<=j/\j<k+d/\¬ (j:Int)∈done/\∀ v∈g.getD j [],v∈done
 | 0,_=>.inl rfl
 | d+1,k=>by
  unfold nxY;split
  ·grind
  ·rcases Alr (g:=g) (done:=done) d (k+1)with h|⟨j,h1,h2,h3,h4⟩
   all_goals grind
section
variable {g:List (List Int)} (hg:GrY g) {done:List Int} (hd:Po done)
 include hg hd
theorem Aih (order:List Int):∀ (d k:Nat),k+d=g.length->NZ (λs=>Ss g done order s) (k:Int)=Th order done (nxY g done d k)
 | 0,k,hk=>Ajj (by
  grind [Ss,nxY])
 | d+1,k,hk=>by
  have hl:=hg.len;have hk':(k:Int)<g.length:=by omega
  have hkl:k<g.length:=by omega
  have hx:g[k]? =some g[k]:=aAA hkl;have hgd:g.getD k []=g[k]:=by simp_all
  obtain⟨h1,h2⟩:=hg.at_ hx;have hdl:=hd.length_le;have h1l:=h1.length_le;have w:IntKind.i64.wrap ((k:Int)+1)=((k+1:Nat):Int):=by grind [AdP]
  have hH:=AvD (l:=done) (by omega) (n:=(k:Int)) (by omega) (by omega)
  have hW:=Ari (a:=g[k]) (b:=done) h1.2 (by omega) (by omega)
  have ih:=Aih order d (k+1) (by omega)
  by_cases hc:¬ (k:Int)∈done/\∀ v∈g.getD k [],v∈done
  ·have hc2:∀ v∈g[k],v∈done:=hgd▸hc.2;refine Ajj ?_;simp_all[nxY,Ss]
  ·unfold nxY;rw[if_neg hc,<- ih,PX];have hb:Ss g done order (k:Int)=some (.inl ((k+1:Nat):Int)):=by
    by_cases e:(k:Int)∈done
    ·simp_all[Ss]
    simp_all[Ss,decide_eq_false]
   rw[hb]
theorem Ann (out:List Int):∀ (d k:Nat),k+d=g.length->NZ (λs:Int×Int=>RM g done out s.1 s.2) (-1,(k:Int))=Vf out done (nxY g done d k)
 | 0,k,hk=>Ajj (by
  grind [RM,nxY])
 | d+1,k,hk=>by
  have hl:=hg.len;have hk':(k:Int)<g.length:=by omega
  have hkl:k<g.length:=by omega
  have hx:g[k]? =some g[k]:=aAA hkl;have hgd:g.getD k []=g[k]:=by simp_all
  obtain⟨h1,h2⟩:=hg.at_ hx;have hdl:=hd.length_le;have h1l:=h1.length_le;have w:IntKind.i64.wrap ((k:Int)+1)=((k+1:Nat):Int):=by grind [AdP]
  have hH:=AaN done (k:Int) (by omega)
  have hW:=ApK (a:=g[k]) (b:=done) (by omega) (by omega)
  have ih:=Ann out d (k+1) (by omega)
  have hm:decide ((-1:Int)<0)=true:=rfl;rw[PX]
  by_cases hc:¬ (k:Int)∈done/\∀ v∈g.getD k [],v∈done
  ·have hc2:∀ v∈g[k],v∈done:=hgd▸hc.2;have hb:RM g done out (-1) (k:Int)=some (.inl ((k:Int),((k+1:Nat):Int))):=by
    simp_all[RM,Xb]
   simp only[hb];unfold nxY;rw[if_pos hc];refine Ajj ?_
   grind [RM]
  ·have hb:RM g done out (-1) (k:Int)=some (.inl (-1,((k+1:Nat):Int))):=by
    simp_all[RM,Xb]
   simp_all[nxY,if_neg]
end
structure Rs (g:List (List Int)) (order done:List Int):Prop where
 set:Po done
 mem:∀ v,v∈done↔v∈order
 nodup:order.Nodup
 rng:∀ x∈order,0<=x/\x<g.length
 top:∀ (j:Nat) x,order[j]? =some x->∀ v∈g.getD x.toNat [],v∈order.take j
theorem Rs.nil (g:List (List Int)):Rs g [] []:=⟨⟨by simp,by simp⟩,by simp,by simp,by simp,by simp⟩
theorem Rs.snoc (hg:GrY g) {order done:List Int} (h:Rs g order done) {j:Nat} (hj:j<g.length) (hn:¬ (j:Int)∈done) (hc:∀ v∈g.getD j [],v∈done):Rs g (order++[(j:Int)]) (Ra (j:Int) done):=by
 have hl:=hg.len;have hk:=ON.AdS (n:=512) (m:=(j:Int)) (s:=done) ⟨h.set,λx hx=>(h.set.2 x hx).2⟩ (by omega) (aAW _)
 refine⟨hk.1,λv=>by rw[hk.2.2,h.mem];grind,?_,?_,?_⟩
 ·refine List.nodup_append.2 ⟨h.nodup,by simp,λa ha b hb e=>?_⟩
  simp at hb;subst hb;subst e;exact hn ((h.mem _).2 ha)
 ·intro x hx;rcases aAM.1 hx with hx|hx
  ·exact h.rng x hx
  simp_all
 ·intro i x hi v hv
  by_cases e:i<order.length
  ·rw[aAQ e]at hi;rw[List.take_append_of_le_length (by omega)]
   exact h.top i x hi v hv
  ·rw[List.getElem?_append_right (by omega)]at hi
   have hi0:i-order.length=0:=by
    grind
   rw[hi0]at hi;simp at hi;subst hi;have:i=order.length:=by omega
   subst this;rw[List.take_left];exact(h.mem v).1 (hc v hv)
def WC (g:List (List Int)) (order done:List Int):(List Int×List Int)⊕(List Int×Int) :=
 if order.length<g.length then(if nxY g done g.length 0<0 then .inr ([],8)else .inl (order++[nxY g done g.length 0],Ra (nxY g done g.length 0) done))else .inr (order,0)
theorem AkP (hg:GrY g) {order done:List Int} (h:Rs g order done):UY g order done=some (WC g order done)/\Ze g order done=some (WC g order done):=by
 have hl:=hg.len;have hdl:=h.set.length_le;unfold UY Ze WC
 by_cases hc:order.length<g.length
 ·have hc':(order.length:Int)<g.length:=by omega
  rw[if_pos hc,decide_eq_true hc',cond_true,cond_true];have e1:=Aih hg h.set order g.length 0 (by omega)
  have e2:=Ann hg h.set order g.length 0 (by omega)
  simp only[Int.natCast_zero]at e1 e2;rw[e1,e2];unfold Th Vf;rcases Alr (g:=g) (done:=done) g.length 0 with e|⟨j,e,_,h3,h4,h5⟩
  ·simp_all
  ·rw[e];have hj:¬ (j:Int)<0:=by omega
   have hlen:order.length+([(j:Int)]:List Int).length<=16777216:=by simp;omega
   rw[if_neg hj,decide_eq_false hj,cond_false,cond_false,Ot hlen,Ot hlen,Ajr h.set ⟨by omega,by omega⟩,add_eq _ _ (by omega)]
   simp_all
 ·have hc':¬ (order.length:Int)<g.length:=by omega
  rw[if_neg hc,decide_eq_false hc',cond_false,cond_false];exact⟨rfl,rfl⟩
theorem Ahp (hg:GrY g) {order done:List Int} (h:Rs g order done) {s:List Int×List Int} (hs:WC g order done= .inl s):Rs g s.1 s.2/\s.1.length=order.length+1/\order.length<g.length:=by
 unfold WC at hs;split at hs
 ·rename_i hlt;split at hs
  all_goals grind [Alr,Rs.snoc]
 ·cases hs
theorem Ahj (hg:GrY g):∃ r,QG g=some r/\US g=some r/\(r=([],8)\/(r.2=0/\r.1.length=g.length/\∃ done,Rs g r.1 done)):=by
 have e:US g=QG g:=by
  refine(AqM (λs:List Int×List Int=>Rs g s.1 s.2) (λs hs=>?_) (λs s' hs h=>?_) (Rs.nil g)).symm
  ·grind [AkP]
  ·rw[(AkP hg hs).1]at h;exact(Ahp hg hs (Option.some.inj h)).1
 have hh:Hs (QG g) λr=>r=([],8)\/(r.2=0/\r.1.length=g.length/\∃ done,Rs g r.1 done):=by
  refine Hs.loop (λs:List Int×List Int=>Rs g s.1 s.2/\s.1.length<=g.length) (λs=>g.length-s.1.length) ⟨Rs.nil g,aAE _⟩ λs ⟨hs,hsl⟩=>?_
  refine⟨WC g s.1 s.2,(AkP hg hs).1,?_⟩;cases hst:WC g s.1 s.2 with
  | inl s' =>
   obtain⟨h1,h2,h3⟩:=Ahp hg hs hst;exact⟨⟨h1,by omega⟩,by grind⟩
  | inr r =>
   unfold WC at hst;split at hst
   ·split at hst
    ·cases hst;exact .inl rfl
    ·cases hst
   ·cases hst;exact .inr ⟨rfl,by grind,s.2,hs⟩
 obtain⟨r,h1,h2⟩:=hh;simp_all
end Go.Proofs.YtmmchhpdaogopaaGreatDoor
namespace Go.Dw
open Go
section
variable {α β ι R:Type}
def Le (x y:Option α):Prop:=∀ z,x=some z->y=some z
theorem Le.refl (x:Option α):Le x x:=λ_ h=>h
theorem Le.none (y:Option α):Le none y:=λ_ h=>nomatch h
theorem Le.trans {x y z:Option α} (h:Le x y) (h':Le y z):Le x z:=λr hr=>h' r (h r hr)
theorem Le.bind {x y:Option α} {f g:α->Option β} (h:Le x y) (hf:∀ a,Le (f a) (g a)):Le (x.bind f) (y.bind g):=by
 intro z hz;obtain⟨a,h1,h2⟩:=aAL.1 hz;exact aAL.2 ⟨a,h a h1,hf a z h2⟩
theorem Le.chk {p:Prop} [Decidable p] {x y:Option α} (h:Le x y):Le (chk p x) (Go.Dw.chk p y):=by
 intro z hz;unfold Go.Dw.chk at hz ⊢;split at hz
 ·rename_i hp;rw[if_pos hp];exact h z hz
 ·cases hz
theorem Le.cond {b:Bool} {x y x' y':Option α} (h:Le x y) (h':Le x' y'):Le (bif b then x else x') (bif b then y else y'):=by
 grind
theorem Le.loop {body body':ι->Option (ι⊕R)} {s:ι} (h:∀ s,Le (body s) (body' s)):Le (NZ body s) (NZ body' s):=by
 intro r hr;obtain⟨n,hn⟩:=Aah.1 hr;clear hr
 induction n generalizing s with
 | zero=>cases hn
 | succ n ih =>
  rw[PX];unfold YL at hn;cases e:body s with
  | none=>simp_all
  | some z =>
   rw[e]at hn;rw[h s z e]
   grind
theorem AuQ {m:Nat->Option α} (hm:∀ n,Le (m n) (m (n+1))) {n:Nat} {r:α} (h:m n=some r):AiD m=some r:=by
 have up:∀ k n,Le (m n) (m (n+k)):=by
  intro k
  induction k with
  | zero=>intro n;exact .refl _
  | succ k ih=>intro n;exact(ih n).trans (hm (n+k))
 obtain⟨r',h1,h2⟩:=AuR (P:=λr'=>r'=r) h λn' r' h'=>by
  have a:=up n' n r h;have b:=up n n' r' h'
  grind
 rw[h1,h2]
end
end Go.Dw
namespace Go.Proofs.YtmmchhpdaogopaaGreatDoor
open Go Go.Dw Go.Proofs
attribute [local simp] Ot aAG
variable {p:NL} {i k:Nat} {s ps to used:List Int} {j a v u:Int} {x:NJ} {g l:List (List Int)} {m:List (List Bool)} {r:Oi} {f:NI} {mv:NJ->Int->Bool} {Q:Nat->Int->Prop} {I:List Og×Int->Prop} {μ:List Og×Int->Nat} {s0:List Og×Int}
def bF (g:List (List Int)) (w:List Int):Nat->Nat->Option Int
 | 0,_=>none
 | n+1,i=>(g[i]?).bind λs=>(w[i]?).bind λx=>(s.foldlM (λa j=>(bF g w n j.toNat).map (Ph a)) 0).bind λm=>if x+m<=2147483647 then some (x+m)else none
def vB (g:List (List Int)) (w:List Int) (i:Nat):Option Int:=bF g w g.length i
def mB (g:List (List Int)) (w:List Int) (s:List Int):Option Int:=s.foldlM (λa j=>(vB g w j.toNat).map (Ph a)) 0
theorem foldlM_congr {α β:Type} {f h:β->α->Option β}:∀ {s:List α} {b:β},(∀ a x,x∈s->f a x=h a x)->s.foldlM f b=s.foldlM h b
 | [],_,_=>rfl
 | x::s,b,hx=>by
  simp only[aAl];rw[hx b x (by simp)]
  congr 1;funext c;exact foldlM_congr λa y hy=>hx a y (by simp[hy])
section
variable {g:List (List Int)} {w order done:List Int} (hg:GrY g) (ho:Rs g order done)
 include hg ho
theorem Ahl {p:Nat} (hp:order[p]? =some (i:Int)) (hs:g[i]? =some s) (hj:j∈s):∃ q:Nat,q<p/\order[q]? =some ((j.toNat:Nat):Int)/\0<=j:=by
 have h:=ho.top p i hp j (by simp_all)
 obtain⟨q,hq⟩:=aAH h;rw[List.getElem?_take]at hq;split at hq
 ·have h0:=((hg.at_ hs).1.2 j hj).1
  grind
 ·cases hq
theorem AuJ:∀ (p n m i:Nat),order[p]? =some (i:Int)->p<n->p<m->bF g w n i=bF g w m i:=by
 intro p
 induction p using Nat.strongRecOn with
 | ind p ih =>
  intro n m i hp hn hm;obtain⟨n,rfl⟩:∃ n',n=n'+1:=⟨n-1,by omega⟩
  obtain⟨m,rfl⟩:∃ m',m=m'+1:=⟨m-1,by omega⟩
  unfold bF;cases hs:g[i]? with
  | none=>rfl
  | some s =>
   simp only[aA]
   grind [foldlM_congr,Ahl]
theorem Aoa (hl:order.length=g.length) {p:Nat} {x:Int} (hp:order[p]? =some (i:Int)) (hs:g[i]? =some s) (hx:w[i]? =some x) :
  vB g w i=(mB g w s).bind λm=>if x+m<=2147483647 then some (x+m)else none:=by
 have hpl:p<g.length:=hl▸(aAC.1 hp).1;unfold vB mB;obtain⟨k,hk⟩:∃ k,g.length=k+1:=⟨g.length-1,by omega⟩
 rw[hk]
 conv=>lhs;unfold bF
 rw[hs,aA,hx,aA]
 grind [foldlM_congr,Ahl,vB,AuJ]
end
theorem AsK {b:Int} (ha:0<=a/\a<=2147483647) (hb:0<=b/\b<=2147483647):0<=Ph a b/\Ph a b<=2147483647:=by
 grind [Ph]
def WtY (g:List (List Int)) (w:List Int):Prop:=w.length=g.length/\∀ x∈w,0<=x/\x<=2147483647
theorem AiE {f:Nat->Option Int} (hf:∀ i x,f i=some x->0<=x/\x<=2147483647):∀ {s:List Int} {b m:Int},0<=b/\b<=2147483647->s.foldlM (λa j=>(f j.toNat).map (Ph a)) b=some m->0<=m/\m<=2147483647
 | [],b,m,hb,h=>by simp_all
 | x::s,b,m,hb,h=>by
  simp only[aAl,aAv,aAL]at h;obtain⟨c,hc,h⟩:=h;obtain⟨y,hy,rfl⟩:=aAr.1 hc;exact AiE hf (AsK hb (hf _ _ hy)) h
theorem Arr {g:List (List Int)} {w:List Int} (hw:WtY g w):∀ (n i:Nat) (x:Int),bF g w n i=some x->0<=x/\x<=2147483647
 | 0,_,_,h=>by cases h
 | n+1,i,x,h=>by
  unfold bF at h;simp only[aAL]at h;obtain⟨s,hs,y,hy,m,hm,h⟩:=h;have h1:=hw.2 y (aAB hy);have h2:=AiE (Arr hw n) ⟨aAW 0,by decide⟩ hm
  grind
theorem Awv {w:List Int} (hw:WtY g w) {x:Int} (h:vB g w i=some x):0<=x/\x<=2147483647:=Arr hw _ _ _ h
theorem AoD {w:List Int} (hw:WtY g w) {m:Int} (h:mB g w s=some m):0<=m/\m<=2147483647:=AiE (f:=vB g w) (λ_ _ h=>Awv hw h) ⟨aAW 0,by decide⟩ h
theorem Auf {x y:Int} (hx:0<=x/\x<=2147483647) (hy:0<=y/\y<=2147483647):UF x y=some (if x+y<=2147483647 then(x+y,0)else(0,9)):=by
 grind [AdP,UF,SH,XB,Tl]
theorem Avi {x y:Int} (hx:0<=x/\x<=2147483647) (hy:0<=y/\y<=2147483647):AcL x y=some (if x+y<=2147483647 then(x+y,0)else(0,9)):=by
 grind [AdP,AcL,Qu,AaQ]
open Go Go.Dw Go.Proofs
attribute [local simp] Ot aAG
theorem AdA:∀ (n:Nat) (l:List Int),l.Nodup->(∀ x∈l,0<=x/\x<n)->l.length<=n/\(l.length=n->∀ i:Int,0<=i->i<n->i∈l)
 | 0,l,_,hr=>by
  have:l=[]:=by
   cases l with
   | nil=>rfl
   | cons x l=>have:=hr x (by simp);omega
  simp_all
 | n+1,l,hn,hr=>by
  by_cases h:(n:Int)∈l
  ·have h1:=AdA n (l.erase n) (hn.erase _) λx hx=>by
    grind
   grind
  ·have h1:=AdA n l hn λx hx=>by
    grind
   omega
theorem Rs.full {order done:List Int} (ho:Rs g order done) (hl:order.length=g.length) (hi:i<g.length):∃ p:Nat,order[p]? =some (i:Int) :=
 aAH ((AdA g.length order ho.nodup ho.rng).2 hl i (by omega) (by omega))
theorem Atd {rec0 rec1:OE->Int->Option (Int×Int×OE)} (h:∀ a b,Le (rec0 a b) (rec1 a b)) (s:OE) (k:Int):Le (Rk rec0 s k) (Rk rec1 s k):=by
 refine .chk (.bind (.refl _) λ_=>.cond (.refl _) (.bind (.refl _) λ_=>.loop λs=>?_))
 exact .cond (.bind (.refl _) λ_=>.bind (h _ _) λ_=>.refl _) (.refl _)
theorem AmU:∀ (n:Nat) (s:OE) (k:Int),Le (QC n s k) (QC (n+1) s k)
 | 0,_,_=>.none _
 | n+1,s,k=>Atd (λa b=>AmU n a b) s k
theorem TN {α:Type} {l:List α} {j:α} (h:l[i]? =some j):l.take (i+1)=l.take i++[j]:=by grind [aAY]
structure BI (g:List (List Int)) (w:List Int) (kn:List Bool) (of:List Int):Prop where
 kl:kn.length=g.length
 ol:of.length=g.length
 eq:∀ i:Nat,kn[i]? =some true->of[i]? =vB g w i
def BR (g:List (List Int)) (w:List Int) (kn0:List Bool) (i:Nat) (r:Int×Int×OE):Prop:=(∃ x kn of,vB g w i=some x/\r=(x,0,⟨g,w,kn,of⟩)/\BI g w kn of/\kn[i]? =some true/\∀ a:Nat,kn0[a]? =some true->kn[a]? =some true)\/(vB g w i=none/\r.2.1=9)
theorem AjU {α β:Type} {f:β->α->Option β} {s:List α} {b:β} {x:α} (h:s[k]? =some x):(s.take (k+1)).foldlM f b=((s.take k).foldlM f b).bind λa=>f a x:=by
 simp_all[TN]
section
variable {g:List (List Int)} {w order done:List Int} (hg:GrY g) (ho:Rs g order done) (hl:order.length=g.length) (hw:WtY g w)
 include hg ho hl hw
theorem Aru:∀ (p n i:Nat),order[p]? =some (i:Int)->p<n->∀ kn of,BI g w kn of->Hs (QC n ⟨g,w,kn,of⟩ (i:Int)) (BR g w kn i):=by
 intro p
 induction p using Nat.strongRecOn with
 | ind p ih =>
  intro n i hp hn kn of hb;obtain⟨n,rfl⟩:∃ n',n=n'+1:=⟨n-1,by omega⟩
  have hkl:=hb.kl;have hol:=hb.ol;have hil:i<g.length:=by have:=ho.rng _ (aAB hp);omega
  obtain⟨x,hx⟩:∃ x,w[i]? =some x:=⟨w[i]'(by have:=hw.1;omega),aAA (by have:=hw.1;omega)⟩
  obtain⟨s,hs⟩:∃ s,g[i]? =some s:=⟨g[i],aAA hil⟩;have hv:=Aoa hg ho hl hp hs hx;obtain⟨hset,hrow⟩:=hg.at_ hs;have hsl:=hset.length_le;have hxr:=hw.2 x (aAB hx);show Hs (Rk (QC n) ⟨g,w,kn,of⟩ (i:Int)) _;refine .chk (by simp_all) ((Hs.get (l:=kn) (i:=(i:Int)) (by omega) (by omega) λz hz=>hz).bind λb hkb=>?_)
  refine .cond (λhbt=>?_) λhbt=>?_
  ·subst hbt;refine .chk (by simp_all) ((Hs.get (l:=of) (i:=(i:Int)) (by omega) (by omega) λz hz=>hz).bind λy hy=>.pure (.inl ?_))
   exact⟨y,kn,of,(hb.eq i hkb).symm.trans hy,rfl,hb,hkb,λ_ h=>h⟩
  ·refine(Hs.ix (l:=g) (i:=(i:Int)) (by omega) (by omega) λz hz=>hz).bind λs' hs'=>?_
   simp only[aAD]at hs';rw[hs]at hs';cases hs';refine Hs.loop (λz=>z.1=g/\z.2.1=w/\BI g w z.2.2.1 z.2.2.2.1/\(∀ a:Nat,kn[a]? =some true->z.2.2.1[a]? =some true)/\∃ k:Nat,z.2.2.2.2.1=(k:Int)/\k<=s.length/\mB g w (s.take k)=some z.2.2.2.2.2) (λz=>s.length-z.2.2.2.2.1.toNat) ⟨rfl,rfl,hb,λ_ h=>h,0,rfl,aAE _,rfl⟩ ?_
   rintro⟨b6,b7,b8,b9,x10,m11⟩ ⟨h6,h7,hb8,hmo,k,hk,hkl,hm⟩;simp only at h6 h7 hb8 hmo hk hm;subst h6;subst h7;subst hk;dsimp only;refine .dec (λhlt=>?_) λhlt=>?_
   ·have hlt:k<s.length:=by omega
    refine(Hs.ix (l:=s) (i:=(k:Int)) (by omega) (by omega) λz hz=>hz).bind λj hj=>?_
    obtain⟨q,hq1,hq2,hj0⟩:=Ahl hg ho hp hs (aAB hj);have hmt:=AjU (f:=λa j=>(vB b6 b7 (Int.toNat j)).map (Ph a)) (b:=0) hj
    change mB b6 b7 (s.take (k+1))=(mB b6 b7 (s.take k)).bind _ at hmt;rw[hm,aA]at hmt;have hih:=ih q hq1 n j.toNat hq2 (by omega) b8 b9 hb8
    rw[show((j.toNat:Nat):Int)=j by omega]at hih
    refine hih.bind λr hr=>?_
    rcases hr with⟨y,kn',of',hy,rfl,hb',_,hmo'⟩|⟨hy,h9⟩
    ·refine .cond (λe=>absurd e (by simp)) λ_=>.cnt ⟨⟨rfl,rfl,hb',λa ha=>hmo' a (hmo a ha),k+1,NQ (by omega),hlt,?_⟩,?_⟩
     ·simp_all
     ·simp only[NQ (show k<9223372036854775807 by omega)];omega
    ·refine .cond (λ_=>.lft (.pure (.inr ⟨?_,h9⟩))) λe=>absurd e (by simp[h9])
     grind [mB,List.take_append_drop,List.foldlM_append]
   ·have hke:k=s.length:=by omega
    rw[hke,aAN]at hm;have hmr:=AoD hw hm;rw[hm,aA]at hv;refine .lft ((Hs.ix (l:=b7) (i:=(i:Int)) (by omega) (by grind) λz hz=>hz).bind λx' hx'=>?_)
    simp only[aAD]at hx';rw[hx]at hx';cases hx';rw[Auf hxr hmr,aA];have hkl8:=hb8.kl;have hol9:=hb8.ol
    by_cases h:x+m11<=2147483647
    ·rw[if_pos h]at hv ⊢;refine .cond (λe=>absurd e (by simp)) λ_=>.chk (by omega) ((Hs.get (l:=b9) (i:=(i:Int)) (by omega) (by omega) λz hz=>hz).bind λ_ _=>.chk (by omega) ((Hs.get (l:=b8) (i:=(i:Int)) (by omega) (by omega) λz hz=>hz).bind λ_ _=>.pure (.inl ⟨_,_,_,hv,rfl,⟨by simp[hkl8],by simp[hol9],λa ha=>?_⟩,?_,λa ha=>?_⟩)))
     ·simp only[aAD]at ha ⊢
      by_cases e:i=a
      ·simp_all
      ·rw[aAZ e]at ha ⊢;exact hb8.eq a ha
     all_goals grind
    ·rw[if_neg h]at hv ⊢;exact .cond (λ_=>.pure (.inr ⟨hv,rfl⟩)) λe=>absurd e (by simp)
theorem Atc (hi:i<g.length) {kn:List Bool} {of:List Int} (hb:BI g w kn of):Hs (Yn ⟨g,w,kn,of⟩ (i:Int)) (BR g w kn i):=by
 obtain⟨p,hp⟩:=ho.full hl hi;obtain⟨r,h1,h2⟩:=Aru hg ho hl hw p (p+1) i hp (by omega) kn of hb
 exact⟨r,AuQ (λn=>AmU n _ _) h1,h2⟩
end
open Go Go.Dw Go.Proofs
theorem Anv (hg:GrY g) {order done:List Int} (h:Rs g order done):UY g order done=some (WC g order done):=by
 have hl:=hg.len;unfold UY WC
 by_cases hc:order.length<g.length
 ·have e1:=Aih hg h.set order g.length 0 (by omega)
  simp only[Int.natCast_zero]at e1;rw[if_pos hc,decide_eq_true (by omega:(order.length:Int)<g.length),cond_true,e1]
  unfold Th;rcases Alr (g:=g) (done:=done) g.length 0 with e|⟨j,e,_,h3,h4,h5⟩
  ·rw[e];rfl
  ·rw[e];have hj:¬ (j:Int)<0:=by omega
   rw[if_neg hj,decide_eq_false hj,cond_false,Ot (show order.length+([(j:Int)]:List Int).length<=16777216 by simp;omega),Ajr h.set ⟨by omega,by omega⟩]
   rfl
 ·rw[if_neg hc,decide_eq_false (by omega:¬ (order.length:Int)<g.length),cond_false]
  rfl
theorem Ank (hg:GrY g):∃ r,QG g=some r/\(r=([],8)\/(r.2=0/\r.1.length=g.length/\∃ done,Rs g r.1 done)):=by
 refine Hs.loop (λs:List Int×List Int=>Rs g s.1 s.2/\s.1.length<=g.length) (λs=>g.length-s.1.length) ⟨Rs.nil g,aAE _⟩ λs ⟨hs,hsl⟩=>?_
 refine⟨WC g s.1 s.2,Anv hg hs,?_⟩;cases hst:WC g s.1 s.2 with
 | inl s' =>
  obtain⟨h1,h2,h3⟩:=Ahp hg hs hst;exact⟨⟨h1,by omega⟩,by grind⟩
 | inr r =>
  unfold WC at hst;split at hst
  ·split at hst
   ·cases hst;exact .inl rfl
   ·cases hst
  ·cases hst;exact .inr ⟨rfl,by grind,s.2,hs⟩
attribute [local simp] Ot aAG
def SzY (g:List (List Int)):Prop:=1<=g.length/\g.length<=80
instance (g:List (List Int)):Decidable (SzY g):=inferInstanceAs (Decidable (_/\_))
instance (g:List (List Int)) (w:List Int):Decidable (WtY g w):=inferInstanceAs (Decidable (_/\_))
section
variable {g:List (List Int)} (hg:GrY g)
 include hg
theorem AoW (hs:g[i]? =some s) (h:0<s.length):∃ z,s[s.length-1]? =some z/\z<g.length :=
 ⟨s[s.length-1],aAA (by omega),(hg.at_ hs).2 _ (aAF _)⟩
theorem Ala:Ul g=some (decide (SzY g)):=by
 have hgl:=hg.len;have hh:Hs (Ul g) λr=>r=decide (SzY g):=by
  refine Hs.loop (λi=>∃ k:Nat,i=(k:Int)/\k<=g.length) (λi=>g.length-i.toNat) ⟨0,rfl,aAE _⟩ λi ⟨k,hi,hk⟩=>?_
  subst hi;refine .dec (λh=>?_) λh=>?_
  ·refine(Hs.ix (l:=g) (i:=(k:Int)) (by omega) h λz hz=>hz).bind λs hs=>?_
   simp only[aAD]at hs;obtain⟨h1,h2⟩:=hg.at_ hs;have hsl:=h1.length_le;rw[Ars s (by omega),(AfH s).2 h1,aA]
   refine .cond (λe=>absurd e (by simp)) λ_=>?_
   have nx:Hs (cnt (R:=Bool) (IntKind.i64.wrap ((k:Int)+1))) (Rnd (λi:Int=>∃ k:Nat,i=(k:Int)/\k<=g.length) (λi:Int=>g.length-i.toNat) (k:Int) λr:Bool=>r=decide (SzY g)):=by
    refine .cnt ⟨⟨k+1,NQ (by omega),by omega⟩,?_⟩
    grind [NQ]
   refine .dec (λh0=>?_) λ_=>nx
   obtain⟨z,hz,hzl⟩:=AoW hg hs (by omega)
   rw[wrap64 (by omega) (by omega),Py _ (by omega),show((s.length:Int)-1).toNat=s.length-1 by omega,hz,aA]
   grind
  ·refine .lft ?_;refine .dec (λh=>.pure ?_) λh=>.pure ?_
   ·show _=decide (SzY g);rw[decide_eq_decide];grind [SzY]
   ·show _=decide (SzY g);rw[eq_comm,decide_eq_false_iff_not];grind [SzY]
 obtain⟨r,h1,rfl⟩:=hh;exact h1
theorem Ara:XS g=some (decide (SzY g)):=by
 have hh:Hs (XS g) λr=>r=decide (SzY g):=by
  unfold XS;refine .dec (λh=>.pure ?_) λh=>.dec (λh'=>.pure ?_) λh'=>?_
  ·rw[eq_comm,decide_eq_false_iff_not];grind [SzY]
  ·rw[eq_comm,decide_eq_false_iff_not];grind [SzY]
  rw[decide_eq_true (show SzY g by grind [SzY])]
  unfold Zd;refine Hs.loop (λi=>∃ k:Nat,i=(k:Int)/\k<=g.length) (λi=>g.length-i.toNat) ⟨0,rfl,aAE _⟩ λi ⟨k,hi,hk⟩=>?_
  subst hi;unfold AbV;refine .dec (λh=>?_) λh=>.lft (.pure rfl)
  have hx:∃ s,ixO g (k:Int)=some s/\g[k]? =some s:=⟨g[k],by simp_all,aAA (by omega)⟩
  obtain⟨s,hxs,hs⟩:=hx;simp only[hxs,aA];obtain⟨h1,h2⟩:=hg.at_ hs;have hsl:=h1.length_le;rw[Akk s (by omega),(AfH s).2 h1,aA]
  refine .cond (λe=>absurd e (by simp)) λ_=>?_
  have nx:Hs (cnt (R:=Bool) (IntKind.i64.wrap ((k:Int)+1))) (Rnd (λi:Int=>∃ k:Nat,i=(k:Int)/\k<=g.length) (λi:Int=>g.length-i.toNat) (k:Int) λr:Bool=>r=true):=by
   refine .cnt ⟨⟨k+1,NQ (by omega),by omega⟩,?_⟩
   grind [NQ]
  refine .dec (λh0=>?_) λ_=>nx
  obtain⟨z,hz,hzl⟩:=AoW hg hs (by omega)
  rw[wrap64 (by omega) (by omega),Py _ (by omega),show((s.length:Int)-1).toNat=s.length-1 by omega,hz,aA]
  grind
 obtain⟨r,h1,rfl⟩:=hh;exact h1
theorem AsL {w:List Int}:ZO g w=some (decide (SzY g/\WtY g w)):=by
 have hgl:=hg.len;unfold ZO;rw[Ara hg,aA]
 by_cases hz:SzY g
 ·by_cases hl:w.length=g.length
  ·have hl':((w.length:Int) != (g.length:Int))=false:=by simp[hl]
   rw[decide_eq_true hz,hl'];have hh:Hs (Zf w) λr=>r=decide (SzY g/\WtY g w):=by
    refine Hs.loop (λi=>∃ k:Nat,i=(k:Int)/\k<=w.length/\∀ x∈w.take k,0<=x/\x<=2147483647) (λi=>w.length-i.toNat) ⟨0,rfl,aAE _,by simp⟩ λi ⟨k,hi,hk,hp⟩=>?_
    subst hi;refine .dec (λh=>?_) λh=>.lft (.pure ?_)
    ·refine(Hs.ix (l:=w) (i:=(k:Int)) (by omega) h λz hz=>hz).bind λx hx=>?_
     simp only[aAD]at hx;have hb:Qu x=some (decide (0<=x/\x<=2147483647)):=by
      grind [Qu]
     rw[hb,aA];refine .cond (λe=>.lft (.pure ?_)) λe=>.cnt ⟨⟨k+1,NQ (by omega),by omega,?_⟩,?_⟩
     ·have:¬ (0<=x/\x<=2147483647):=λh=>by simp_all
      show false=decide (SzY g/\WtY g w);rw[eq_comm,decide_eq_false_iff_not];exact λhw=>this (hw.2.2 x (aAB hx))
     ·rw[TN hx]
      grind
     grind [NQ]
    ·rw[aAX (by omega)]at hp
     exact(decide_eq_true (show SzY g/\WtY g w from⟨hz,hl,hp⟩)).symm
   obtain⟨r,h1,rfl⟩:=hh;exact h1
  grind [WtY]
 simp_all
end
def Uv (g:List (List Int)) (w:List Int) (o:List Int×Int) (z:List Int×Int):Prop :=
 (¬ (SzY g/\WtY g w)/\z=([],4))\/((SzY g/\WtY g w)/\((o.2≠0/\z=([],o.2))\/(o.2=0/\(((∃ i,i<g.length/\vB g w i=none)/\z=([],9))\/(z.2=0/\z.1.length=g.length/\∀ i,i<g.length->∃ x,vB g w i=some x/\z.1[i]? =some x)))))
theorem Uv.unique {w:List Int} {o z z':List Int×Int} (h:Uv g w o z) (h':Uv g w o z'):z=z':=by
 rcases h with⟨h1,rfl⟩|⟨h1,⟨h2,rfl⟩|⟨h2,⟨⟨i,hi,hn⟩,rfl⟩|⟨h3,h4,h5⟩⟩⟩<;>rcases h' with⟨g1,rfl⟩|⟨g1,⟨g2,rfl⟩|⟨g2,⟨⟨j,hj,gn⟩,rfl⟩|⟨g3,g4,g5⟩⟩⟩<;>first|rfl|exact absurd g1 h1|exact absurd h1 g1|exact absurd g2 h2|exact absurd h2 g2|skip
 ·simp_all
 ·simp_all
 ·refine Prod.ext (aAT λi=>?_) (h3.trans g3.symm)
  grind
theorem AmV (hg:GrY g) {w:List Int} {r:List Int×Int} (hr:QG g=some r):Hs (TR g w) (Uv g w r):=by
 have hgl:=hg.len;obtain⟨r',e1,hO⟩:=Ank hg;rw[hr]at e1;cases e1;unfold TR;rw[Ala hg,aA];refine .cond (λe=>.pure (.inl ⟨λh=>?_,rfl⟩)) λe=>.bne (λh=>.pure (.inl ⟨λh'=>?_,rfl⟩)) λh=>?_
 ·simp_all
 ·have:=h'.2.1;omega
 have hz:SzY g:=by simp_all
 have hl:w.length=g.length:=by omega
 refine Hs.loop (λi=>∃ k:Nat,i=(k:Int)/\k<=w.length/\∀ x∈w.take k,0<=x/\x<=2147483647) (λi=>w.length-i.toNat) ⟨0,rfl,aAE _,by simp⟩ λi ⟨k,hi,hk,hp⟩=>?_
 subst hi;refine .dec (λh=>?_) λh=>.lft ?_
 ·refine(Hs.ix (l:=w) (i:=(k:Int)) (by omega) h λz hz=>hz).bind λx hx=>?_
  simp only[aAD]at hx;have hm:=aAB hx;refine .dec (λh0=>.lft (.pure (.inl ⟨λhw=>?_,rfl⟩))) λh0=>.dec (λh1=>.lft (.pure (.inl ⟨λhw=>?_,rfl⟩))) λh1=>.cnt ⟨⟨k+1,NQ (by omega),by omega,?_⟩,?_⟩
  ·have:=hw.2.2 x hm;omega
  ·have:=hw.2.2 x hm;omega
  ·rw[TN hx]
   grind
  grind [NQ]
 ·rw[aAX (by omega)]at hp
  have hw:WtY g w:=⟨hl,hp⟩;rw[hr,aA];refine .bne (λh=>.pure (.inr ⟨⟨hz,hw⟩,.inl ⟨h,rfl⟩⟩)) λhr0=>?_
  have hO:r.1.length=g.length/\∃ done,Rs g r.1 done:=by
   grind
  obtain⟨hol,done,ho⟩:=hO;refine .chk (by omega) (.chk (by omega) ?_)
  refine Hs.loop (λz=>z.1=g/\z.2.1=w/\BI g w z.2.2.1 z.2.2.2.1/\∃ q:Nat,z.2.2.2.2=(q:Int)/\q<=g.length/\∀ i,i<q->z.2.2.1[i]? =some true) (λz=>g.length-z.2.2.2.2.toNat) ⟨rfl,rfl,⟨by simp,by simp,λi hi=>?_⟩,0,rfl,aAE _,λi hi=>by omega⟩ ?_
  ·grind
  rintro⟨x6,x7,x8,x9,x10⟩ ⟨h6,h7,hb,q,hq,hql,hall⟩;simp only at h6 h7 hb hq hall;subst h6;subst h7;subst hq;dsimp only;refine .dec (λhlt=>?_) λhlt=>.lft (.pure (.inr ⟨⟨hz,hw⟩,.inr ⟨hr0,.inr ⟨rfl,hb.ol,λi hi=>?_⟩⟩⟩))
  refine(Atc hg ho hol hw (i:=q) (by omega) hb).bind λr hr=>?_
  rcases hr with⟨y,kn',of',hy,rfl,hb',hki,hmo⟩|⟨hy,h9⟩
  ·refine .cond (λe=>absurd e (by simp)) λ_=>.cnt ⟨⟨rfl,rfl,hb',q+1,NQ (by omega),by omega,λi hi=>?_⟩,?_⟩
   all_goals grind [NQ]
  ·exact .cond (λ_=>.lft (.pure (.inr ⟨⟨hz,hw⟩,.inr ⟨hr0,.inl ⟨⟨q,by omega,hy⟩,by rw[h9]⟩⟩⟩))) λe=>absurd e (by simp[h9])
  ·have h1:=hb.eq i (hall i (by omega))
   have h2:i<x9.length:=by rw[hb.ol];exact hi
   grind
theorem AqY (hg:GrY g) {w:List Int} {r:List Int×Int} (hr:US g=some r):Hs (Xi g w) (Uv g w r):=by
 have hgl:=hg.len;obtain⟨r',e1,e2,hO⟩:=Ahj hg;rw[hr]at e2;cases e2;unfold Xi;rw[AsL hg,aA];refine .cond (λe=>.pure (.inl ⟨λh=>?_,rfl⟩)) λe=>?_
 ·simp_all
 obtain⟨hz,hw⟩:SzY g/\WtY g w:=by simp_all
 rw[hr,aA];refine .bne (λh=>.pure (.inr ⟨⟨hz,hw⟩,.inl ⟨h,rfl⟩⟩)) λhr0=>?_
 have hO:r.1.length=g.length/\∃ done,Rs g r.1 done:=by
  grind
 obtain⟨hol,done,ho⟩:=hO;have hwl:=hw.1;refine .chk (by omega) ?_
 refine Hs.loop (λz=>z.1.length=g.length/\∃ p:Nat,z.2=(p:Int)/\p<=g.length/\∀ (q i:Nat),q<p->r.1[q]? =some (i:Int)->∃ x,vB g w i=some x/\z.1[i]? =some x) (λz=>g.length-z.2.toNat) ⟨by simp,0,rfl,aAE _,λq i hi=>by omega⟩ ?_
 rintro⟨out,i6⟩ ⟨hlen,p,hp,hpl,hall⟩;simp only at hlen hp hall;subst hp;refine .dec (λhlt=>?_) λhlt=>.lft (.pure (.inr ⟨⟨hz,hw⟩,.inr ⟨hr0,.inr ⟨rfl,hlen,λi hi=>?_⟩⟩⟩))
 ·refine(Hs.ix (l:=r.1) (i:=(p:Int)) (by omega) hlt λz hz=>hz).bind λx8 hx8=>?_
  simp only[aAD]at hx8;have hrg:=ho.rng _ (aAB hx8);obtain⟨a,rfl⟩:∃ a:Nat,x8=(a:Int):=⟨x8.toNat,by omega⟩
  have hal:a<g.length:=by omega
  obtain⟨x,hx⟩:∃ x,w[a]? =some x:=⟨w[a]'(by omega),aAA (by omega)⟩
  obtain⟨s,hs⟩:∃ s,g[a]? =some s:=⟨g[a],aAA hal⟩;have hxw:ixO w (a:Int)=some x:=by simp_all
  have hsg:ixO g (a:Int)=some s:=by simp_all
  have hv:=Aoa hg ho hol hx8 hs hx;obtain⟨hset,hrow⟩:=hg.at_ hs;have hsl:=hset.length_le;have hxr:=hw.2 x (aAB hx);refine Hs.loop (λz=>∃ k:Nat,z.2=(k:Int)/\k<=s.length/\mB g w (s.take k)=some z.1) (λz=>s.length-z.2.toNat) ⟨0,rfl,aAE _,rfl⟩ ?_
  rintro⟨m9,k10⟩ ⟨k,hk,hkl,hm⟩;subst hk;unfold Aep;simp only[hsg,aA];refine .dec (λhlt'=>?_) λhlt'=>?_
  ·refine(Hs.ix (l:=s) (i:=(k:Int)) (by omega) hlt' λz hz=>hz).bind λj hj=>?_
   simp only[aAD]at hj;obtain⟨q,hq1,hq2,hj0⟩:=Ahl hg ho hx8 hs (aAB hj);have hjl:=hrow j (aAB hj);obtain⟨y,hy1,hy2⟩:=hall q j.toNat hq1 hq2;have hmt:=AjU (f:=λa j=>(vB g w (Int.toNat j)).map (Ph a)) (b:=0) hj
   change mB g w (s.take (k+1))=(mB g w (s.take k)).bind _ at hmt;rw[hm,aA,hy1,Option.map_some]at hmt;refine .chk (by omega) ?_
   rw[hy2,aA];refine .cnt ⟨⟨k+1,NQ (by omega),by omega,hmt⟩,?_⟩
   grind [NQ]
  ·have hke:k=s.length:=by omega
   rw[hke,aAN]at hm;have hmr:=AoD hw hm;rw[hm,aA]at hv;rw[hxw,aA,Avi hxr hmr,aA];refine .lft (.chk (by omega) ((Hs.get (l:=out) (i:=(a:Int)) (by omega) (by omega) λz hz=>hz).bind λ_ _=>?_))
   by_cases h:x+m9<=2147483647
   ·rw[if_pos h]at hv ⊢;refine .cond (λe=>absurd e (by simp)) λ_=>?_
    unfold Abg;refine .cnt ⟨⟨by simp[hlen],p+1,NQ (by omega),by omega,λq i hq hqi=>?_⟩,?_⟩
    all_goals grind [NQ]
   ·rw[if_neg h]at hv ⊢;refine .cond (λe=>.lft (.pure (.inr ⟨⟨hz,hw⟩,.inr ⟨hr0,.inl ⟨⟨a,hal,hv⟩,rfl⟩⟩⟩))) λe=>absurd e (by simp)
 ·obtain⟨q,hq⟩:=ho.full hol hi
  grind
theorem Aoh (hg:GrY g) (w:List Int):∃ o r,QG g=some o/\TR g w=some r/\Xi g w=some r/\Uv g w o r/\(o=([],8)\/(o.2=0/\o.1.length=g.length/\∃ done,Rs g o.1 done)):=by
 obtain⟨o,e1,e2,e3⟩:=Ahj hg;obtain⟨r,h1,h2⟩:=AmV hg (w:=w) e1;obtain⟨r',h1',h2'⟩:=AqY hg (w:=w) e2;cases h2.unique h2';simp_all
open Go Go.Dw Go.Proofs
attribute [local simp] Ot aAG
theorem Age (a b:Int):a<=Ph a b/\b<=Ph a b:=by grind [Ph]
theorem Aot {f:Nat->Option Int}:∀ {s:List Int} {b m:Int},s.foldlM (λa j=>(f j.toNat).map (Ph a)) b=some m->b<=m/\∀ j∈s,∃ d,f j.toNat=some d/\d<=m
 | [],b,m,h=>by simp_all
 | x::s,b,m,h=>by
  simp only[aAl,aAv,aAL]at h;obtain⟨c,hc,h⟩:=h;obtain⟨y,hy,rfl⟩:=aAr.1 hc;obtain⟨h1,h2⟩:=Aot h;have:=Age b y
  grind
structure AhW (g:List (List Int)) (w c:List Int):Prop where
 size:SzY g
 row:∀ s∈g,Po s/\∀ x∈s,x<g.length
 wt:WtY g w
 cl:c.length=g.length
 ge:∀ i,i<g.length->∃ a b s,c[i]? =some a/\w[i]? =some b/\g[i]? =some s/\0<=a/\a<=2147483647/\b<=a/\∀ j∈s,∃ d,c[j.toNat]? =some d/\d<=a-b
theorem Uv.AqH (hg:GrY g) {w:List Int} {o r:List Int×Int} (h:Uv g w o r) (h0:r.2=0) {done:List Int} (ho:Rs g o.1 done) (hl:o.1.length=g.length):AhW g w r.1:=by
 rcases h with⟨_,rfl⟩|⟨⟨hz,hw⟩,⟨h2,rfl⟩|⟨h2,⟨_,rfl⟩|⟨h3,h4,h5⟩⟩⟩
 ·omega
 ·omega
 ·omega
 refine⟨hz,hg.row,hw,h4,λi hi=>?_⟩
 obtain⟨a,ha,hra⟩:=h5 i hi;obtain⟨x,hx⟩:∃ x,w[i]? =some x:=⟨w[i]'(by have:=hw.1;omega),aAA (by have:=hw.1;omega)⟩
 obtain⟨s,hs⟩:∃ s,g[i]? =some s:=⟨g[i],aAA hi⟩;obtain⟨p,hp⟩:=ho.full hl hi;rw[Aoa hg ho hl hp hs hx]at ha;obtain⟨m,hm,ha⟩:=aAL.1 ha;have hmr:=AoD hw hm;have hxr:=hw.2 x (aAB hx);split at ha
 ·cases ha;refine⟨_,x,s,hra,hx,hs,by omega,by omega,by omega,λj hj=>?_⟩
  obtain⟨d,hd,hdm⟩:=(Aot hm).2 j hj;have hjr:=((hg.at_ hs).1.2 j hj).1;have hjl:=(hg.at_ hs).2 j hj
  grind
 ·cases ha
theorem AiL {w c:List Int} (h:AhW g w c):RZ g w c=some true:=by
 have hg:GrY g:=⟨by have:=h.size;grind [SzY],h.row⟩
 have hgl:=hg.len;have hwl:=h.wt.1;have hcl:=h.cl;unfold RZ;rw[Ala hg,decide_eq_true h.size,aA];have e1:((w.length:Int) != (g.length:Int))=false:=by simp[hwl]
 have e2:((c.length:Int) != (g.length:Int))=false:=by simp[hcl]
 rw[e1,e2];have hh:Hs (Se w) λr=>r=true:=by
  unfold Se;refine Hs.loop (λi=>∃ k:Nat,i=(k:Int)/\k<=w.length) (λi=>w.length-i.toNat) ⟨0,rfl,aAE _⟩ λi ⟨k,hi,hk⟩=>?_
  subst hi;unfold Wq;refine .dec (λhlt=>?_) λhlt=>.lft (.pure rfl)
  refine(Hs.ix (l:=w) (i:=(k:Int)) (by omega) hlt λz hz=>hz).bind λx hx=>?_
  simp only[aAD]at hx;have hr:=h.wt.2 x (aAB hx);have hb:RR x=some true:=by grind [RR]
  rw[hb,aA];refine .cond (λe=>absurd e (by simp)) λe=>.cnt ⟨⟨k+1,NQ (by omega),by omega⟩,?_⟩
  grind [NQ]
 obtain⟨r,h1,rfl⟩:=hh;exact h1
def TS (l:List NJ):List Int:=l.foldl (λs x=>if x.Op=22 then Ra x.A s else s) []
def cgR (p:NL):List (List Int):=p.Funcs.map λf=>TS f.Code
def CallsIn (p:NL):Prop:=∀ f∈p.Funcs,∀ x∈f.Code,x.Op=22->0<=x.A/\x.A<p.Funcs.length
theorem AjT {l:List NJ} (h:l[k]? =some x):TS (l.take (k+1))=if x.Op=22 then Ra x.A (TS (l.take k))else TS (l.take k):=by
 simp_all[TS,TN]
theorem AkY {n:Int} (hn:n<=512):∀ {l:List NJ},(∀ x∈l,x.Op=22->0<=x.A/\x.A<n)->ON n (TS l):=by
 intro l hl;have key:∀ k,k<=l.length->ON n (TS (l.take k)):=by
  intro k
  induction k with
  | zero=>intro _;exact⟨⟨by simp[TS],by simp[TS]⟩,by simp[TS]⟩
  | succ k ih =>
   intro hk;have hx:l[k]? =some l[k]:=aAA (by omega)
   rw[AjT hx];split
   ·rename_i h;have hr:=hl l[k] (aAF _) h;have:=ON.AdS (n:=n) (m:=l[k].A) (s:=TS (l.take k)) (ih (by omega)) hr hn
    exact⟨this.1,this.2.1⟩
   grind
 have:=key l.length (aAR _);simp_all
theorem AvL (hn:p.Funcs.length<=500) (hp:CallsIn p):GrY (cgR p):=by
 refine⟨by grind [cgR],λs hs=>?_⟩
 obtain⟨f,hf,rfl⟩:=List.mem_map.1 hs;have:=AkY (n:=p.Funcs.length) (by omega) (hp f hf)
 exact⟨this.1,λx hx=>by have:=this.2 x hx;grind [cgR]⟩
theorem Awr (hn:p.Funcs.length<=500) (hc:∀ f∈p.Funcs,f.Code.length<=1000000) (hp:CallsIn p):AbW p=some (cgR p):=by
 have hh:Hs (AbW p) λr=>r=cgR p:=by
  refine .chk (by omega) ?_
  refine Hs.loop (λz=>∃ i:Nat,z.2=(i:Int)/\i<=p.Funcs.length/\z.1=(cgR p).take i++aAu (p.Funcs.length-i) []) (λz=>p.Funcs.length-z.2.toNat) ⟨0,rfl,aAE _,by simp⟩ ?_
  rintro⟨out,i2⟩ ⟨i,hi,hil,ho⟩;simp only at hi ho;subst hi;refine .dec (λhlt=>?_) λhlt=>.lft (.pure ?_)
  ·refine(Hs.ix (l:=p.Funcs) (i:=(i:Int)) (by omega) hlt λz hz=>hz).bind λf hf=>?_
   simp only[aAD]at hf;have hfm:=aAB hf;have hcl:=hc f hfm;have hlen:out.length=p.Funcs.length:=by grind [cgR]
   have h0:out[i]? =some []:=by
    grind
   refine Hs.loop (λz=>∃ k:Nat,z.2=(k:Int)/\k<=f.Code.length/\z.1=out.set i (TS (f.Code.take k))) (λz=>f.Code.length-z.2.toNat) ⟨0,rfl,aAE _,?_⟩ ?_
   ·show out=out.set i [];apply aAT
    grind
   rintro⟨out6,k7⟩ ⟨k,hk,hkl,ho6⟩;simp only at hk ho6;subst hk;refine .dec (λhlt'=>?_) λhlt'=>.lft ?_
   ·have hx:∃ x,ixO f.Code (k:Int)=some x/\f.Code[k]? =some x:=⟨f.Code[k]'(by omega),by simp_all,aAA (by omega)⟩
    obtain⟨x,hxs,hx⟩:=hx;simp only[hxs,aA];have hsn:=AjT hx;refine .cond (λe=>?_) λe=>.cnt ⟨⟨k+1,NQ (by omega),by omega,?_⟩,?_⟩
    ·have e:x.Op=22:=by simp_all
     have hr:=hp f hfm x (aAB hx) e;have hst:ON p.Funcs.length (TS (f.Code.take k)):=AkY (by omega) λy hy=>hp f hfm y (List.mem_of_mem_take hy)
     rw[if_pos e]at hsn;have hl6:out6.length=p.Funcs.length:=by simp_all
     refine .chk (by omega) ?_
     have hg6:out6[(i:Int).toNat]? =some (TS (f.Code.take k)):=by simp_all
     rw[hg6,aA,add_eq _ _ (by have:=hst.1.length_le;omega),aA]
     refine .chk (by omega) ?_
     rw[aA];refine .cnt ⟨⟨k+1,NQ (by omega),by omega,?_⟩,?_⟩
     all_goals grind [List.set_set,NQ]
    ·simp_all
    grind [NQ]
   ·have hke:k=f.Code.length:=by omega
    rw[hke,aAN]at ho6;unfold Aco;refine .cnt ⟨⟨i+1,NQ (by omega),by omega,?_⟩,?_⟩
    ·apply aAT
     grind [cgR]
    grind [NQ]
  ·have:i=p.Funcs.length:=by omega
   subst this;show out=_;simp_all[aAX,cgR]
 obtain⟨r,h1,rfl⟩:=hh;exact h1
theorem AtB {r:List NJ} {y:NT} {l:List NJ} {x':NJ} (hk:k<r.length) (hl:l[k]? =some x) (ho:0<=x.Op/\x.Op<25) (h:Pt f y x=some x'):WL r f y l (k:Int)=cnt (l.set k x',IntKind.i64.wrap ((k:Int)+1)):=by
 have hkl:=(aAC.1 hl).1;have hd:(decide ((k:Int)<(r.length:Int)))=true:=by simp_all
 have hc:0<=(k:Int)/\(k:Int)<l.length:=by omega
 unfold WL;unfold Pt at h;rw[hd,cond_true,Ot hc,aAD,hl,aA,Ot ho];unfold UH UI UJ UK UL Adz
 by_cases h15:x.Op=15
 ·simp_all
 rw[show(x.Op==15)=false by simp[h15]]at h ⊢
 rw[cond_false]at h ⊢
 by_cases h16:x.Op=16
 ·simp_all
 rw[show(x.Op==16)=false by simp[h16]]at h ⊢
 rw[cond_false]at h ⊢
 by_cases h17:x.Op=17
 ·simp_all
 rw[show(x.Op==17)=false by simp[h17]]at h ⊢
 rw[cond_false]at h ⊢
 by_cases h18:x.Op=18
 ·simp_all
 rw[show(x.Op==18)=false by simp[h18]]at h ⊢
 rw[cond_false]at h ⊢
 by_cases h19:x.Op=19
 all_goals simp_all
section
variable {p:NL} {i:Nat} {f:NI} {y:NT} {T:NJ->NJ} (hf:p.Funcs[i]? =some f) (hn:f.Code.length<=1000000) (hT:∀ x∈f.Code,Pt f y x=some (T x))
 include hf hn hT
theorem Anq:UR p (i:Int) y=some ⟨f.Params,y.Size,f.Code.map T⟩:=by
 unfold UR;rw[Py _ (by omega),aAD,hf,aA]
 have hh:Hs (NZ (λs=>AbU f y s.1 s.2) (([]:List NJ),0)) λr=>r=⟨f.Params,y.Size,f.Code.map T⟩:=by
  refine Hs.loop (λz=>∃ k:Nat,z.2=(k:Int)/\k<=f.Code.length/\z.1=(f.Code.take k).map T) (λz=>f.Code.length-z.2.toNat) ⟨0,rfl,aAE _,rfl⟩ ?_
  rintro⟨code,k6⟩ ⟨k,hk,hkl,hc⟩;simp only at hk hc;subst hk;refine .dec (λhlt=>?_) λhlt=>.lft (.pure ?_)
  ·refine(Hs.ix (l:=f.Code) (i:=(k:Int)) (by omega) hlt λz hz=>hz).bind λx hx=>?_
   simp only[aAD]at hx;rw[hT x (aAB hx),aA];refine .chk (by grind) (.cnt ⟨⟨k+1,NQ (by omega),by omega,?_⟩,?_⟩)
   ·simp_all[TN]
   grind [NQ]
  ·have:k=f.Code.length:=by omega
   rw[this,aAN]at hc;show OD.mk _ _ code=_;rw[hc]
 obtain⟨r,h1,rfl⟩:=hh;exact h1
theorem Aov (ho:∀ x∈f.Code,0<=x.Op/\x.Op<25):TG p (i:Int) y=some ⟨f.Params,y.Size,f.Code.map T⟩:=by
 unfold TG;rw[Py _ (by omega),aAD,hf,aA]
 have hcl:Alc f.Code=some f.Code:=by unfold Alc ZD;grind [Ot]
 rw[hcl,aA];have hh:Hs (NZ (λs=>WL f.Code f y s.1 s.2) (f.Code,0)) λr=>r=⟨f.Params,y.Size,f.Code.map T⟩:=by
  refine Hs.loop (λz=>∃ k:Nat,z.2=(k:Int)/\k<=f.Code.length/\z.1=(f.Code.take k).map T++f.Code.drop k) (λz=>f.Code.length-z.2.toNat) ⟨0,rfl,aAE _,by simp⟩ ?_
  rintro⟨code,k6⟩ ⟨k,hk,hkl,hc⟩;simp only at hk hc;subst hk
  by_cases hlt:k<f.Code.length
  ·obtain⟨x,hx⟩:∃ x,f.Code[k]? =some x:=⟨f.Code[k],aAA hlt⟩;have hm:=aAB hx;have hlen:((f.Code.take k).map T).length=k:=by simp;omega
   have hd:f.Code.drop k=x::f.Code.drop (k+1):=by
    grind [aAU]
   have hcx:code[k]? =some x:=by
    simp_all
   rw[AtB hlt hcx (ho x hm) (hT x hm)];refine .cnt ⟨⟨k+1,NQ (by omega),by omega,?_⟩,?_⟩
   ·grind
   grind [NQ]
  ·refine .dec (λh=>absurd h (by omega)) λ_=>.lft (.pure ?_)
   have:k=f.Code.length:=by omega
   rw[this,aAN,List.drop_length,aAo]at hc;show OD.mk _ _ code=_;rw[hc]
 obtain⟨r,h1,rfl⟩:=hh;exact h1
end
theorem Arh {t:Pb} (hn:t.Frames.length<=1000000):VD t=some (t.Frames.map (·.Size))/\ZY t=some (t.Frames.map (·.Size)):=by
 have key:∀ (body:List Int->Int->Option ((List Int×Int)⊕List Int)),(∀ (w:List Int) (k:Nat) (fr:OD),t.Frames[k]? =some fr->w.length=k->body w (k:Int)=cnt (w++[fr.Size],IntKind.i64.wrap ((k:Int)+1)))->(∀ w,body w (t.Frames.length:Int)=lft (some w))->NZ (λs=>body s.1 s.2) (([]:List Int),(0:Int))=some (t.Frames.map (·.Size)):=by
  intro body h1 h2;have hh:Hs (NZ (λs=>body s.1 s.2) (([]:List Int),(0:Int))) λr=>r=t.Frames.map (·.Size):=by
   refine Hs.loop (λz=>∃ k:Nat,z.2=(k:Int)/\k<=t.Frames.length/\z.1=(t.Frames.take k).map (·.Size)) (λz=>t.Frames.length-z.2.toNat) ⟨0,rfl,aAE _,rfl⟩ ?_
   rintro⟨w,k6⟩ ⟨k,hk,hkl,hc⟩;simp only at hk hc;subst hk
   by_cases hlt:k<t.Frames.length
   ·have hx:t.Frames[k]? =some t.Frames[k]:=aAA hlt;rw[h1 w k _ hx (by simp_all)]
    refine .cnt ⟨⟨k+1,NQ (by omega),by omega,?_⟩,?_⟩
    ·rw[hc,TN hx,List.map_append];rfl
    grind [NQ]
   ·have e:k=t.Frames.length:=by omega
    subst e;rw[h2];rw[aAN]at hc;exact .lft (.pure hc)
  obtain⟨r,h1,rfl⟩:=hh;exact h1
 constructor
 ·refine key (λw k=>Vj t w k) (λw k fr h hw=>?_) λw=>?_
  ·have hl:=(aAC.1 h).1;unfold Vj;rw[show(decide ((k:Int)<(t.Frames.length:Int)))=true by simp_all,cond_true,Py _ (by omega),aAD,h,aA,Ot (by simp;omega)]
  ·unfold Vj;simp_all
 ·refine key (λw k=>Vs t w k) (λw k fr h hw=>?_) λw=>?_
  ·have hl:=(aAC.1 h).1;unfold Vs;rw[show(decide ((k:Int)<(t.Frames.length:Int)))=true by simp_all,cond_true,Py _ (by omega),aAD,h,aA,Ot (by simp;omega)]
  ·unfold Vs;simp_all
open Go Go.Dw Go.Proofs
theorem Avt (n:Int):Hs (TH n) λ_=>True:=by
 exact .cond (λ_=>.pure trivial) λ_=>.cond (λ_=>.pure trivial) λ_=>.cond (λ_=>.pure trivial) λ_=>.cond (λ_=>.pure trivial) λ_=>.pure trivial
theorem Yo (n:Int):Qu n=some (decide (0<=n/\n<=2147483647)):=by
 unfold Qu
 grind
theorem Akv (n:Int):Hs (RB n) λb=>b=true->1<=n/\n<=16777216:=by
 refine Hs.loop (λk=>1<=k/\k<=33554432) (λk=>33554433-k.toNat) ⟨by omega,by omega⟩ ?_
 rintro k ⟨h0,h1⟩;refine .dec (λh=>.beq (λe=>.lft (.pure λ_=>⟨by omega,by omega⟩)) λ_=>?_) λh=>.lft (.pure λh=>(by cases h))
 rw[wrap64 (by omega) (by omega)]
 exact .cnt ⟨⟨by omega,by omega⟩,by grind⟩
theorem Aes (a:On):Hs (Rp a) λb=>b=true->0<=a.Off/\0<=a.Size/\a.Off+a.Size<=2147483647:=by
 unfold Rp;simp only[Yo,aA];refine .dec (λh=>.dec (λh1=>.pure λh2=>?_) λ_=>.pure λh=>(by cases h)) λ_=>.pure λh=>(by cases h)
 have h2:=of_decide_eq_true h2
 grind [wrap64]
theorem AuF (n a:Int):Hs (Wu n a) λq=>0<=q.1/\q.1<=2147483647:=by
 unfold Wu;simp only[Yo,aA];refine .cond (λ_=>.pure ⟨by omega,by omega⟩) λh=>?_
 have hn:0<=n/\n<=2147483647:=by simp_all
 refine(Akv a).bind λb hb=>.cond (λ_=>.pure ⟨by omega,by omega⟩) λh=>?_
 have ha:=hb (by simp_all)
 have j2:∀ m:Int,0<=m->Hs (XO m) λq=>0<=q.1/\q.1<=2147483647:=by
  intro m hm;exact .dec (λ_=>.pure ⟨by omega,by omega⟩) λh=>.pure ⟨hm,by omega⟩
 unfold ZI;have t0:=Int.tmod_nonneg a hn.1;have t1:=Int.tmod_lt_of_pos n (show 0<a by omega)
 grind [chk,wrap64]
theorem AqV (a b:On):Hs (Ux a b) λ_=>True:=by
 refine(Aes a).bind λ_ _=>.cond (λ_=>(Aes b).bind λ_ _=>.cond (λ_=>.dec (λ_=>.dec (λ_=>.dec (λ_=>.pure trivial) λ_=>.pure trivial) λ_=>.pure trivial) λ_=>.pure trivial) λ_=>.pure trivial) λ_=>.pure trivial
theorem AuS (l:List On) (hl:l.length<=1000000) (x:On):Hs (AdD l x) λ_=>True:=by
 refine Hs.loop (λi=>∃ k:Nat,i=(k:Int)/\k<=l.length) (λi=>l.length-i.toNat) ⟨0,rfl,aAE _⟩ ?_
 rintro _ ⟨k,rfl,hk⟩;refine .dec (λhlt=>?_) λ_=>.lft (.pure trivial)
 refine(Hs.ix (P:=λ_=>True) (by omega) hlt λ_ _=>trivial).bind λy _=>(AqV y x).bind λb _=>.cond (λ_=>.lft (.pure trivial)) λ_=>?_
 rw[NQ (by omega)]
 exact .cnt ⟨⟨k+1,rfl,by omega⟩,by grind⟩
theorem Awc (l:List On) (hl:l.length<=1000000) (frm size align:Int):Hs (AcM l frm size align) λ_=>True:=by
 unfold AcM;simp only[Yo,aA];refine .cond (λ_=>.pure trivial) λ_=>.cond (λ_=>.pure trivial) λ_=>(Akv align).bind λb _=>.cond (λ_=>.pure trivial) λ_=>?_
 refine Hs.loop (λi=>∃ k:Nat,i=(k:Int)/\k<=l.length) (λi=>l.length-i.toNat) ⟨0,rfl,aAE _⟩ ?_
 rintro _ ⟨k,rfl,hk⟩;refine .dec (λhlt=>?_) λ_=>.lft ?_
 ·refine(Hs.ix (P:=λ_=>True) (by omega) hlt λ_ _=>trivial).bind λy _=>(Aes y).bind λb _=>.cond (λ_=>.lft (.pure trivial)) λ_=>?_
  rw[NQ (by omega)]
  exact .cnt ⟨⟨k+1,rfl,by omega⟩,by grind⟩
 refine Hs.loop (λs=>-1<=s.2.2/\s.2.2<=l.length) (λs=>((l.length:Int)-s.2.2).toNat) ⟨by simp,by simp_all⟩ ?_
 rintro⟨best,found,i⟩ ⟨h0,h1⟩;replace h0: -1<=i:=h0;have j4:∀ at_:Int,i<l.length->Hs (WN align size l found i best at_) (Rnd (λs:Int×Bool×Int=>-1<=s.2.2/\s.2.2<=l.length) (λs=>((l.length:Int)-s.2.2).toNat) (best,found,i) λ_=>True):=by
  intro at_ hi;unfold WN;have w:IntKind.i64.wrap (i+1)=i+1:=wrap64 (by omega) (by omega)
  rw[w];have fin:∀ (a:Int) (b:Bool),Hs (cnt (a,b,i+1):Option ((Int×Bool×Int)⊕(Int×Int))) (Rnd (λs:Int×Bool×Int=>-1<=s.2.2/\s.2.2<=l.length) (λs=>((l.length:Int)-s.2.2).toNat) (best,found,i) λ_=>True):=λa b=>.cnt ⟨⟨by grind,by grind⟩,by grind⟩
  exact(AuF at_ align).bind λq _=>.cond (λ_=>(Aes _).bind λ_ _=>.cond (λ_=>(AuS l hl _).bind λ_ _=>.cond (λ_=>.cond (λ_=>fin _ _) λ_=>.dec (λ_=>fin _ _) λ_=>fin _ _) λ_=>fin _ _) λ_=>fin _ _) λ_=>fin _ _
 refine .dec (λhlt=>.dec (λhge=>?_) λ_=>j4 _ hlt) λ_=>.lft (.cond (λ_=>.pure trivial) λ_=>.pure trivial)
 exact(Hs.ix (P:=λ_=>True) (by omega) hlt λ_ _=>trivial).bind λy _=>(Hs.ix (P:=λ_=>True) (by omega) hlt λ_ _=>trivial).bind λz _=>j4 _ hlt
theorem AiZ (s:List Og):Hs (UP s) λe=>e=0->s.length<=512:=by
 refine .dec (λ_=>.pure λh=>by simp at h) λh=>?_
 have hl:s.length<=512:=by omega
 refine(Hs.loop (Q:=λ_=>True) (λi=>∃ k:Nat,i=(k:Int)/\k<=s.length) (λi=>s.length-i.toNat) ⟨0,rfl,aAE _⟩ ?_).mono λ_ _ _=>hl
 rintro _ ⟨k,rfl,hk⟩;refine .dec (λhlt=>?_) λ_=>.lft (.pure trivial)
 refine(Hs.ix (P:=λ_=>True) (by omega) hlt λ_ _=>trivial).bind λx _=>(Avt _).bind λb _=>.cond (λ_=>.lft (.pure trivial)) λ_=>?_
 refine(Hs.ix (P:=λ_=>True) (by omega) hlt λ_ _=>trivial).bind λy _=>(Akv _).bind λb _=>.cond (λ_=>.lft (.pure trivial)) λ_=>?_
 rw[NQ (by omega)]
 exact .cnt ⟨⟨k+1,rfl,by omega⟩,by grind⟩
theorem ApP {i:Int} (hi:ixO p.Funcs i=some f) (hl:f.Code.length<=10000) (hc:∀ x∈f.Code,x.Op=22->0<=x.A/\x.A<p.Funcs.length):Hs (SN p i) λ_=>True:=by
 unfold SN;rw[hi,aA];refine Hs.loop (λq=>∃ k:Nat,q.2=(k:Int)/\k<=f.Code.length) (λq=>f.Code.length-q.2.toNat) ⟨0,rfl,aAE _⟩ ?_
 rintro⟨n,_⟩ ⟨k,rfl,hk⟩;refine .dec (λhlt=>?_) λ_=>.lft (.pure trivial)
 have hlt:k<f.Code.length:=by omega
 have e:ixO f.Code (k:Int)=some f.Code[k]:=by simp_all
 simp only[e,aA];rw[NQ (by omega)]
 refine .beq (λ_=>.cnt ⟨⟨k+1,rfl,hlt⟩,by grind⟩) λ_=>.beq (λh=>?_) λ_=>.cnt ⟨⟨k+1,rfl,hlt⟩,by grind⟩
 have:=hc _ (aAF _) h;exact(Hs.ix (P:=λ_=>True) this.1 this.2 λ_ _=>trivial).bind λ_ _=>.cnt ⟨⟨k+1,rfl,hlt⟩,by grind⟩
theorem Asu (s:List Og):Hs (TI s) λ_=>True:=by
 refine(AiZ s).bind λe he=>.bne (λ_=>.pure trivial) λh=>?_
 refine Hs.loop (λq=>∃ k:Nat,q.2=(k:Int)/\k<=s.length) (λq=>s.length-q.2.toNat) ⟨0,rfl,aAE _⟩ ?_
 rintro⟨n,_⟩ ⟨k,rfl,hk⟩;refine .dec (λhlt=>?_) λ_=>.lft (.pure trivial)
 have hlt:k<s.length:=by omega
 rw[NQ (by omega)]
 exact(Hs.ix (P:=λ_=>True) (by omega) (by omega) λ_ _=>trivial).bind λ_ _=>.cnt ⟨⟨k+1,rfl,hlt⟩,by grind⟩
theorem Ase (p:NL) (hp:p.Funcs.length<=1000):Hs (Qi p) λ_=>True:=by
 refine Hs.loop (λq=>∃ k:Nat,q.2=(k:Int)/\k<=p.Funcs.length) (λq=>p.Funcs.length-q.2.toNat) ⟨0,rfl,aAE _⟩ ?_
 rintro⟨n,_⟩ ⟨k,rfl,hk⟩;refine .dec (λhlt=>?_) λ_=>.lft (.pure trivial)
 have hlt:k<p.Funcs.length:=by omega
 rw[NQ (by omega)]
 exact(Hs.ix (P:=λ_=>True) (by omega) (by omega) λ_ _=>trivial).bind λx _=>(Asu _).bind λ_ _=>.cnt ⟨⟨k+1,rfl,hlt⟩,by grind⟩
theorem Aqo {n:Int} (hn:n<=1000) (hr:∀ row∈g,row.length<=512):Hs (Ach g n) λb=>b=true->(g.length:Int)=n:=by
 refine .bne (λ_=>.pure λh=>by cases h) λhgl=>?_
 refine(Hs.loop (Q:=λ_=>True) (λi=>∃ k:Nat,i=(k:Int)/\k<=g.length) (λi=>g.length-i.toNat) ⟨0,rfl,aAE _⟩ ?_).mono λ_ _ _=>hgl
 rintro _ ⟨k,rfl,hk⟩;refine .dec (λhlt=>?_) λ_=>.lft (.pure trivial)
 have hkl:k<g.length:=by omega
 have e:ixO g (k:Int)=some g[k]:=by simp_all
 have hrow:=hr g[k] (aAF _);rw[e,aA,Akk _ (by omega),aA]
 refine .cond (λ_=>.lft (.pure trivial)) λhc=>?_
 have hs:Po g[k]:=(AfH _).1 (by simp_all)
 rw[aA,AaN _ _ (by omega),aA]
 refine .cond (λ_=>.lft (.pure trivial)) λ_=>?_
 refine Hs.loop (λi=>∃ j:Nat,i=(j:Int)/\j<=(g[k]).length) (λi=>(g[k]).length-i.toNat) ⟨0,rfl,aAE _⟩ ?_
 rintro _ ⟨j,rfl,hj⟩;unfold AbK;rw[e,aA];refine .dec (λhlt=>?_) λ_=>.lft ?_
 ·refine(Hs.ix (by omega) hlt λv hv=>hs.2 v (aAB hv)).bind λv hv=>?_
  refine .dec (λ_=>.lft (.lft (.pure trivial))) λhvn=>?_
  refine(Hs.ix hv.1 (by omega) λx hx=>hr x (aAB hx)).bind λx hx=>?_
  rw[AaN _ _ (by omega),aA]
  refine .cond (λ_=>.lft (.lft (.pure trivial))) λ_=>?_
  rw[NQ (by omega)]
  exact .cnt ⟨⟨j+1,rfl,by omega⟩,by grind⟩
 ·unfold YT;rw[NQ (by omega)]
  exact .cnt ⟨⟨k+1,rfl,by omega⟩,by grind⟩
theorem Art (a b:Og):Hs (Abe a b) λ_=>True:=by
 exact .cond (λ_=>.pure trivial) λ_=>.cond (λ_=>.pure trivial) λ_=>.pure trivial
theorem AtE (s:List Og) (hs:s.length<=1000):Hs (Acm s) λout=>out.length=s.length/\∀ v∈out,0<=v/\v<s.length:=by
 refine Hs.loop (λq=>∃ k:Nat,q.2=(k:Int)/\k<=s.length/\q.1.length=k/\∀ v∈q.1,0<=v/\v<s.length) (λq=>s.length-q.2.toNat) ⟨0,rfl,aAE _,rfl,λv hv=>by cases hv⟩ ?_
 rintro⟨out,_⟩ ⟨k,rfl,hk,hol,hov⟩;replace hol:out.length=k:=hol;replace hov:∀ v∈out,0<=v/\v<s.length:=hov;dsimp only;refine .dec (λhlt=>?_) λhge=>.lft (.pure ⟨by omega,hov⟩)
 have hlt:k<s.length:=by omega
 have j3:∀ m:Int,0<=m->m<=out.length->Hs (Vd out (k:Int) m) (Rnd (λq:List Int×Int=>∃ k:Nat,q.2=(k:Int)/\k<=s.length/\q.1.length=k/\∀ v∈q.1,0<=v/\v<s.length) (λq=>s.length-q.2.toNat) (out,(k:Int)) (λout=>out.length=s.length/\∀ v∈out,0<=v/\v<s.length)):=by
  intro m h0 h1;unfold Vd;refine .chk ⟨h0,h1⟩ (.chk (by simp;omega) (.chk (by simp;omega) (.chk ⟨h0,h1⟩ (.chk (by simp;omega) ?_))))
  unfold Zb;rw[NQ (by omega)]
  refine .cnt ⟨⟨k+1,rfl,hlt,by simp;omega,λv hv=>?_⟩,by grind⟩
  grind
 refine Hs.loop (λm=>0<=m/\m<=out.length) (λm=>m.toNat) ⟨by omega,by omega⟩ ?_
 rintro m ⟨h0,h1⟩;refine .dec (λhp=>?_) λ_=>.lft (j3 m h0 h1)
 rw[wrap64 (n:=m-1) (by omega) (by omega)]
 exact(Hs.ix (P:=λ_=>True) (by omega) (by omega) λ_ _=>trivial).bind λx _=>.chk (by omega) ((Hs.get (by omega) (by omega) λv hv=>hov v (aAB hv)).bind λv hv=>(Hs.ix (P:=λ_=>True) hv.1 hv.2 λ_ _=>trivial).bind λy _=>(Art x y).bind λb _=>.cond (λ_=>.cnt ⟨⟨by omega,by omega⟩,by grind⟩) λ_=>.lft (j3 m h0 h1))
theorem Arq (s:List Og) (hs:s.length<=500) (hg:∀ row∈g,row.length<=512) (frm:Int):Hs (Abb s g frm) λq=>q.2=0->q.1.length=s.length:=by
 refine(AiZ s).bind λe _=>.bne (λhe=>.pure λh=>(he h).elim) λ_=>(Aqo (by omega) hg).bind λb hb=>.cond (λ_=>.pure λh=>by simp at h) λhb'=>?_
 have hgl:g.length=s.length:=by grind
 rw[Yo,aA];refine .cond (λ_=>.pure λh=>by simp at h) λ_=>?_
 refine .chk (by omega) (.chk (by omega) ((AtE s (by omega)).bind λord hord=>?_))
 refine Hs.loop (λq=>∃ k:Nat,q.2.2=(k:Int)/\k<=ord.length/\q.1.length=s.length/\q.2.1.length=s.length) (λq=>ord.length-q.2.2.toNat) ⟨0,rfl,aAE _,by simp,by simp⟩ ?_
 rintro⟨done,off,_⟩ ⟨k,rfl,hk,hdl,hfl⟩;replace hdl:done.length=s.length:=hdl;replace hfl:off.length=s.length:=hfl;dsimp only;refine .dec (λhlt=>?_) λ_=>.lft (.pure λ_=>hfl)
 have hlt:k<ord.length:=by omega
 refine .chk (by omega) ((Hs.get (by omega) (by omega) λv hv=>hord.2 v (aAB hv)).bind λv hv=>?_)
 refine Hs.loop (λq=>∃ j:Nat,q.2=(j:Int)/\j<=s.length/\q.1.length<=j) (λq=>s.length-q.2.toNat) ⟨0,rfl,aAE _,by simp⟩ ?_
 rintro⟨used,_⟩ ⟨j,rfl,hj,hul⟩;replace hul:used.length<=j:=hul;refine .dec (λhlt=>?_) λ_=>.lft ?_
 ·have hlt:j<s.length:=by omega
  have j5:∀ b:Bool,Hs (Uq (j:Int) off s used b) (Rnd (λq:List On×Int=>∃ j:Nat,q.2=(j:Int)/\j<=s.length/\q.1.length<=j) (λq=>s.length-q.2.toNat) (used,(j:Int)) (Rnd (λq:List Bool×List Int×Int=>∃ k:Nat,q.2.2=(k:Int)/\k<=ord.length/\q.1.length=s.length/\q.2.1.length=s.length) (λq=>ord.length-q.2.2.toNat) (done,off,(k:Int)) λq=>q.2=0->q.1.length=s.length)):=by
   intro b;unfold Uq;rw[NQ (by omega)]
   refine .cond (λ_=>.chk (by omega) ((Hs.get (P:=λ_=>True) (by omega) (by omega) λ_ _=>trivial).bind λa _=>(Hs.ix (P:=λ_=>True) (by omega) (by omega) λ_ _=>trivial).bind λx _=>.chk (by simp;omega) (.cnt ⟨⟨j+1,rfl,hlt,by simp;omega⟩,by grind⟩))) λ_=>.cnt ⟨⟨j+1,rfl,hlt,by grind⟩,by grind⟩
  refine .chk (by omega) ((Hs.get (P:=λ_=>True) (by omega) (by omega) λ_ _=>trivial).bind λd _=>.cond (λ_=>?_) λ_=>j5 false)
  refine(Hs.ix hv.1 (by omega) λx hx=>hg x (aAB hx)).bind λx hx=>?_
  grind [AaN]
 ·refine(Hs.ix (P:=λ_=>True) hv.1 hv.2 λ_ _=>trivial).bind λx _=>(Hs.ix (P:=λ_=>True) hv.1 hv.2 λ_ _=>trivial).bind λy _=>(Awc used (by omega) frm _ _).bind λq _=>.bne (λhe=>.lft (.pure λh=>(he h).elim)) λ_=>?_
  refine .chk (by omega) ((Hs.get (P:=λ_=>True) (by omega) (by omega) λ_ _=>trivial).bind λ_ _=>.chk (by omega) ((Hs.get (P:=λ_=>True) (by omega) (by omega) λ_ _=>trivial).bind λ_ _=>?_))
  unfold Yf;rw[NQ (by omega)]
  exact .cnt ⟨⟨k+1,rfl,hlt,by simp_all,by simp_all⟩,by grind⟩
theorem Awb (s:List Og) (hs:s.length<=1000) (off:List Int):Hs (Afd s off) λ_=>True:=by
 refine Hs.loop (λq=>∃ k:Nat,q.2=(k:Int)/\k<=s.length) (λq=>s.length-q.2.toNat) ⟨0,rfl,aAE _⟩ ?_
 rintro⟨n,_⟩ ⟨k,rfl,hk⟩;refine .dec (λhlt=>.dec (λhlt2=>?_) λ_=>.lft (.pure trivial)) λ_=>.lft (.pure trivial)
 have hlt:k<s.length:=by omega
 unfold Abd;rw[NQ (by omega)]
 exact(Hs.ix (P:=λ_=>True) (by omega) (by omega) λ_ _=>trivial).bind λ_ _=>(Hs.ix (P:=λ_=>True) (by omega) (by omega) λ_ _=>trivial).bind λ_ _=>.cnt ⟨⟨k+1,rfl,hlt⟩,by grind⟩
theorem ArR {i:Int} (hi:ixO p.Funcs i=some f) (hl:f.Code.length<=10000) (hs:f.Slots.length<=500) (hc:∀ x∈f.Code,x.Op=22->0<=x.A/\x.A<p.Funcs.length) (al:Int) (off:List Int):Hs (YF p i al off) λ_=>True:=by
 unfold YF;rw[hi,aA];refine .bne (λ_=>.pure trivial) λho=>?_
 refine Hs.loop (λq=>∃ k:Nat,q=(k:Int)/\k<=f.Slots.length) (λq=>f.Slots.length-q.toNat) ⟨0,rfl,aAE _⟩ ?_
 rintro _ ⟨k,rfl,hk⟩;refine .dec (λhlt=>?_) λ_=>.lft ?_
 ·have hlt:k<f.Slots.length:=by omega
  rw[NQ (by omega)]
  exact(Hs.ix (P:=λ_=>True) (by omega) (by omega) λ_ _=>trivial).bind λ_ _=>(Hs.ix (P:=λ_=>True) (by omega) (by omega) λ_ _=>trivial).bind λ_ _=>(Aes _).bind λ_ _=>.cond (λ_=>.lft (.pure trivial)) λ_=>.cnt ⟨⟨k+1,rfl,hlt⟩,by grind⟩
 ·exact(ApP hi hl hc).bind λa _=>(Awb _ (by omega) off).bind λe _=>(AuF _ _).bind λq _=>.bne (λ_=>.pure trivial) λ_=>.dec (λ_=>.pure trivial) λ_=>.chk (by simp;omega) (.pure trivial)
attribute [local simp] Ot aAG
attribute [local simp] Ot
theorem Atx (hs:s.Pairwise (· <·)) {n:Int} {h:s.length-1<s.length} (hl:s[s.length-1]<n):∀ v∈s,v<n:=by
 grind [List.getElem_of_mem,aAk]
theorem AoX (f:NI) (l:Ox) (hl:l.Out.length<=maxLen) (hr:∀ s∈l.Out,s.length<=maxLen):Hs (ZJ f l) λb=>(b=true↔Sd f l.Out):=by
 have hm:maxLen<=9223372036854775807:=by decide
 refine .bne (λhne=>.pure ⟨λh=>(by cases h),λh=>(hne (by rw[h.1])).elim⟩) λhe=>?_
 have he:l.Out.length=f.Code.length:=by omega
 refine Hs.loop (λi=>∃ k:Nat,i=(k:Int)/\k<=l.Out.length/\∀ (j:Nat) s,j<k->l.Out[j]? =some s->ON f.Slots.length s) (λi=>l.Out.length-i.toNat) ⟨0,rfl,aAE _,λj s h=>absurd h (aAI _)⟩ ?_
 rintro _ ⟨k,rfl,hk,hall⟩;refine .dec (λhlt=>?_) λhge=>?_
 ·have hlt:k<l.Out.length:=by omega
  have hg:l.Out[k]? =some l.Out[k]:=aAA hlt;have hlen:=hr _ (aAF hlt);rw[PE,hg,aA,Akk _ (by omega),aA]
  have next:ON f.Slots.length l.Out[k]->Hs (cnt (R:=Bool) (IntKind.i64.wrap ((k:Int)+1))) (Rnd (λi:Int=>∃ k:Nat,i=(k:Int)/\k<=l.Out.length/\∀ (j:Nat) s,j<k->l.Out[j]? =some s->ON f.Slots.length s) (λi=>l.Out.length-i.toNat) (k:Int) λb=>(b=true↔Sd f l.Out)):=by
   intro hset;rw[NQ (by omega)]
   refine .cnt ⟨⟨k+1,rfl,hlt,λj s hj hs=>?_⟩,by grind⟩
   grind
  have stop:¬ ON f.Slots.length l.Out[k]->((false:Bool)=true↔Sd f l.Out):=λhn=>⟨λh=>(by cases h),λh=>(hn (h.2 _ (aAF hlt))).elim⟩
  by_cases hc:Wo none l.Out[k]=true
  ·have hset:=(AfH _).1 hc;rw[hc];simp only[aAd,cond_false,aA];refine .dec (λhp=>?_) λhp=>?_
   ·have hi:l.Out[k].length-1<l.Out[k].length:=by omega
    have w:IntKind.i64.wrap ((l.Out[k].length:Int)-1)=((l.Out[k].length-1:Nat):Int):=by grind [wrap64]
    rw[w,PE,aAA hi,aA];refine .dec (λh=>.lft (.pure (stop λhh=>?_))) λh=>next ⟨hset,Atx hset.1 (h:=hi) (by omega)⟩
    have:=hh.2 _ (aAF hi);omega
   grind [aAm,ON.nil]
  ·have hc':Wo none l.Out[k]=false:=by simp_all
   rw[hc'];exact .lft (.pure (stop λh=>hc ((AfH _).2 h.1)))
 ·refine .lft (.pure ⟨λ_=>⟨he,λs hs=>?_⟩,λ_=>rfl⟩)
  grind [aAH]
def Ye (f:NI) (l:List (List Int)) (k:Int):List Int :=
 (RJ (NO f k) k).foldl (λo j=>RQ o ((inN (NO f j) (Ou l j)).filter λv=>!decide (v∈Ou l k))) []
theorem Sd.at (h:Sd f l) (h0:0<=j) (h1:j<f.Code.length):l[j.toNat]? =some (Ou l j)/\ON f.Slots.length (Ou l j):=by
 have hl:j.toNat<l.length:=by have:=h.1;omega
 have:l[j.toNat]? =some (Ou l j):=by grind [Ou]
 exact⟨this,h.2 _ (aAB this)⟩
theorem OL.at (_h:OL f) (h0:0<=j) (h1:j<f.Code.length):f.Code[j.toNat]? =some (NO f j)/\NO f j∈f.Code:=by
 grind [NO]
theorem Ani (hf:OL f) (hl:Sd f l) {k:Int} (_hk:0<=k/\k<f.Code.length) (hj:0<=j/\j<f.Code.length) {o:List Int} (ho:ON f.Slots.length o) :
  ON f.Slots.length (RQ o ((inN (NO f j) (Ou l j)).filter λv=>!decide (v∈Ou l k)))/\∀ v,v∈RQ o ((inN (NO f j) (Ou l j)).filter λv=>!decide (v∈Ou l k))↔v∈o\/(v∈inN (NO f j) (Ou l j)/\v∉Ou l k):=by
 have hsl:=hf.slots;obtain⟨g1,g2⟩:=AdL hf (hf.at hj.1 hj.2).2 (hl.at hj.1 hj.2).2;obtain⟨g3,g4⟩:=Xx (n:=f.Slots.length) (by omega) (b:=(inN (NO f j) (Ou l j)).filter λv=>!decide (v∈Ou l k)) ho λx hx=>⟨(g1.1.2 x (aAf.1 hx).1).1,g1.2 x (aAf.1 hx).1⟩
 exact⟨g3,λv=>by simp_all⟩
theorem Anh {f:NI} (hf:OL f) {l:List (List Int)} (hl:Sd f l) {k:Int} (hk:0<=k/\k<f.Code.length):∀ {js:List Int} {o:List Int},(∀ j∈js,0<=j/\j<f.Code.length)->ON f.Slots.length o ->
  ON f.Slots.length (js.foldl (λo j=>RQ o ((inN (NO f j) (Ou l j)).filter λv=>!decide (v∈Ou l k))) o)/\∀ v,v∈js.foldl (λo j=>RQ o ((inN (NO f j) (Ou l j)).filter λv=>!decide (v∈Ou l k))) o↔v∈o\/∃ j∈js,v∈inN (NO f j) (Ou l j)/\v∉Ou l k
 | [],o,_,ho=>⟨ho,λv=>by simp⟩
 | j::js,o,hj,ho=>by
  obtain⟨h1,h2⟩:=Ani hf hl hk (hj j (aAJ ..)) ho;obtain⟨h5,h6⟩:=Anh hf hl hk (λq hq=>hj q (aAK _ hq)) h1
  grind
theorem Akr (hf:OL f) (hl:Sd f l) (hk:k<f.Code.length):ON f.Slots.length (Ye f l k)/\∀ v,v∈Ye f l k↔∃ j∈RJ (NO f k) k,v∈inN (NO f j) (Ou l j)/\v∉Ou l k:=by
 have hx:f.Code[k]? =some (NO f k):=by grind [NO]
 obtain⟨h1,h2⟩:=Anh hf hl (k:=(k:Int)) ⟨by omega,by omega⟩ (hf.next k _ hx) (ON.nil _)
 grind [Ye]
theorem Ava (x:NJ) (k:Int):(RJ x k).length<=2:=by grind [RJ]
theorem ApE (hf:OL f) {l:Ox} (hl:Sd f l.Out) (hk:k<f.Code.length):XH f l k=some (Ye f l.Out k):=by
 have hlen:=hf.len';have hx:f.Code[k]? =some (NO f k):=by grind [NO]
 have hn:=hf.next k _ hx;have h2:=Ava (NO f k) k;obtain⟨hk1,hk2⟩:=hl.at (j:=(k:Int)) (by omega) (by omega)
 simp only[aAD]at hk1;unfold XH;rw[AoV hx (by omega),aA]
 have:=Ua (body:=λs:List Int×Int=>Vr (RJ (NO f k) k) f l k s.1 s.2) (RJ (NO f k) k) (λ(o:List Int) i=>(o,i)) (λo _=>ON f.Slots.length o)
  (λo js=>some (js.foldl (λo j=>RQ o ((inN (NO f j) (Ou l.Out j)).filter λv=>!decide (v∈Ou l.Out k))) o))
  (λo _=>⟨_,by simp[Vr];rfl,by simp⟩) (λo i j r ho hd hi hj=>by
   left;have wi:=NQ (show i<9223372036854775807 by omega)
   have hjm:=hn j (aAB hj);obtain⟨c1,c2⟩:=hf.at hjm.1 hjm.2;obtain⟨o1,o2⟩:=hl.at hjm.1 hjm.2;obtain⟨g1,g2⟩:=Ani hf hl (k:=(k:Int)) ⟨by omega,by omega⟩ hjm ho
   obtain⟨s1,s2⟩:=AdL hf c2 o2;have hsl:=hf.slots;have e1:=Auj (NO f j) (Ou l.Out j) (by have:=o2.1.length_le;omega)
   have e2:=Ans (inN (NO f j) (Ou l.Out j)) (Ou l.Out k) (by have:=s1.1.length_le;omega) (by have:=hk2.1.length_le;omega)
   have e3:=union_eq o ((inN (NO f j) (Ou l.Out j)).filter λv=>!decide (v∈Ou l.Out k)) (by have:=(s1.1.filter λv=>!decide (v∈Ou l.Out k)).length_le;have:=ho.1.length_le;omega)
   obtain⟨_,hje⟩:=aAC.1 hj;refine⟨_,g1,?_,rfl⟩
   simp_all[Vr,Py]) [] (ON.nil _)
 exact this
def AfG (f:NI) (l:List (List Int)) (r:Int×Int×Bool):Prop :=
 (Sd f l/\∃ (k:Nat) (v:Int),k<f.Code.length/\(∀ j:Nat,j<k->Ye f l j=[])/\(Ye f l k)[0]? =some v/\r=((k:Int),v,true)) \/
 ((Sd f l->∀ j:Nat,j<f.Code.length->Ye f l j=[])/\r=(0,0,false))
theorem AfG.unique {r q:Int×Int×Bool} (h:AfG f l r) (k:AfG f l q):r=q:=by
 rcases h with⟨h0,i,v,h1,h2,h3,rfl⟩|⟨h1,rfl⟩<;>rcases k with⟨k0,j,u,k1,k2,k3,rfl⟩|⟨k1,rfl⟩
 all_goals grind
def Acc (f:NI) (l:List (List Int)):Prop:=Sd f l/\∀ j:Nat,j<f.Code.length->Ye f l j=[]
theorem AfG.acc {r:Int×Int×Bool} (h:AfG f l r) (hl:Sd f l):r.2.2=false↔Acc f l:=by
 rcases h with⟨h0,i,v,h1,h2,h3,rfl⟩|⟨h1,rfl⟩
 ·exact⟨λh=>(by cases h),λh=>by rw[h.2 i h1]at h3;cases h3⟩
 ·exact⟨λ_=>⟨hl,h1 hl⟩,λ_=>rfl⟩
def QB (l:List (List Int)):Prop:=l.length<=maxLen/\∀ s∈l,s.length<=maxLen
theorem Asn (hf:OL f) {l:Ox} (hl:QB l.Out):Hs (Acg f l) (AfG f l.Out):=by
 have hlen:=hf.len';refine(AoX f l hl.1 hl.2).bind λb hb=>.cond (λh=>?_) λh=>?_
 ·have hb':¬ b=true:=by simp_all
  exact .pure (.inr ⟨λhh=>(hb' (hb.2 hh)).elim,rfl⟩)
 ·have hb':b=true:=by simp_all
  have hok:=hb.1 hb';refine Hs.loop (λi=>∃ k:Nat,i=(k:Int)/\k<=f.Code.length/\∀ j:Nat,j<k->Ye f l.Out j=[]) (λi=>f.Code.length-i.toNat) ⟨0,rfl,aAE _,λj h=>absurd h (aAI _)⟩ ?_
  rintro _ ⟨k,rfl,hk,hall⟩;refine .dec (λhlt=>?_) λhge=>?_
  ·have hlt:k<f.Code.length:=by omega
   rw[ApE hf hok hlt,aA];refine .dec (λhp=>?_) λhp=>?_
   ·have hp:0<(Ye f l.Out k).length:=by omega
    refine .chk (by omega) ?_
    have hg:(Ye f l.Out k)[0]? =some ((Ye f l.Out k)[0]):=aAA hp;rw[show(0:Int).toNat=0 from rfl,hg,aA]
    exact .lft (.pure (.inl ⟨hok,k,_,hlt,hall,hg,rfl⟩))
   ·rw[NQ (by omega)]
    refine .cnt ⟨⟨k+1,rfl,hlt,λj hj=>?_⟩,by grind⟩
    grind [aAm]
  ·exact .lft (.pure (.inr ⟨λ_ j hj=>hall j (by omega),rfl⟩))
theorem AcK (hf:OL f) {l:Ox} (hl:QB l.Out):Hs (UQ f l) λe=>(e=0\/e=11)/\(e=0↔Acc f l.Out):=by
 refine(Asn hf hl).bind λr hr=>.cond (λh=>.pure ⟨.inr rfl,λh=>by omega,λh'=>?_⟩) λh=>?_
 ·rw[(hr.acc h'.1).2 h']at h;cases h
 ·refine(AoX f l hl.1 hl.2).bind λb hb=>.cond (λh=>?_) λh2=>?_
  ·have hb':¬ b=true:=by simp_all
   exact .pure ⟨.inr rfl,λh=>by omega,λh=>(hb' (hb.2 h.1)).elim⟩
  ·have hb':b=true:=by simp_all
   exact .pure ⟨.inl rfl,λ_=>(hr.acc (hb.1 hb')).1 h,λ_=>rfl⟩
theorem Sd.len (hf:OL f) (h:Sd f l):QB l:=by
 have hm:(100000:Nat)<=maxLen:=by decide
 have:=hf.len';have:=h.1;exact⟨by omega,λs hs=>by have:=(h.2 s hs).1.length_le;omega⟩
theorem AuG (hf:OL f) (hl:Sd f l):Acc f l↔LE (TM f l) l:=by
 constructor
 ·rintro⟨_,h⟩ k s t hs ht v hv;have hk:k<f.Code.length:=by have:=(aAC.1 ht).1;have:=hl.1;omega
  have e1:s=XT f l k:=by grind [TM]
  have e2:t=Ou l k:=by grind [Ou]
  subst e1 e2;rw[(ZP hf hl hk).2]at hv;obtain⟨j,hj,hv⟩:=hv;refine aAc λhn=>?_
  have:v∈Ye f l k:=((Akr hf hl hk).2 v).2 ⟨j,hj,hv,hn⟩;simp_all
 ·intro h;refine⟨hl,λk hk=>?_⟩
  refine List.eq_nil_iff_forall_not_mem.2 λv hv=>?_
  obtain⟨j,hj,h1,h2⟩:=((Akr hf hl hk).2 v).1 hv;refine h2 (h k (XT f l k) (Ou l k) (by grind [TM]) ?_ v (((ZP hf hl hk).2 v).2 ⟨j,hj,h1⟩))
  have:=(hl.at (j:=(k:Int)) (by omega) (by omega)).1
  simp_all
theorem Acc.mem (hf:OL f) (h:Acc f l) (hk:k<f.Code.length) (hj:j∈RJ (NO f k) k) (hv:v∈inN (NO f j) (Ou l j)):v∈Ou l k:=by
 refine aAc λhn=>?_
 have:v∈Ye f l k:=((Akr hf h.1 hk).2 v).2 ⟨j,hj,hv,hn⟩;rw[h.2 k hk]at this;cases this
theorem AlW.acc (hf:OL f) (h:AlW f l):Acc f l:=by
 rw[AuG hf h.ok,h.fix];intro k s t hs ht v hv;simp_all
def I64 (v:Int):Prop:=-9223372036854775808<=v/\v<=9223372036854775807
theorem AuT (n:Int):I64 (IntKind.i64.wrap n):=by
 grind [I64,IntKind.wrap,aAs,aAw]
def Acv (l:List (List Int)):Prop:=∀ s∈l,s.length<=512/\∀ v∈s,I64 v
def Ym (l:List (List Int)):Prop:=∀ s∈l,Po s
theorem Ym.rows (h:Ym l):Acv l:=λs hs=>⟨(h s hs).length_le,λv hv=>by have:=(h s hs).2 v hv;grind [I64]⟩
theorem Ym.set (h:Ym l) (hs:Po s):Ym (l.set k s):=by
 intro t ht;rcases aAb ht with h1|rfl
 ·exact h t h1
 ·exact hs
theorem Po.add (h:Po s) (n:Int):Po (Ra n s):=by
 unfold Ra;split
 ·exact h.Tm (by assumption)
 ·exact h
theorem Acv.len (hf:OL f) (h1:l.length<=f.Code.length) (h2:Acv l):QB l:=by
 have hm:(100000:Nat)<=maxLen:=by decide
 have:=hf.len';exact⟨by omega,λs hs=>by have:=(h2 s hs).1;omega⟩
def AcZ (x:NJ):Int×Bool:=if x.Op=16\/x.Op=17 then(x.A,true)else(0,false)
theorem AdN (x:NJ):Rg x=some (AcZ x):=by
 grind [Rg,RW,AcZ]
def QZ (f:NI):Prop:=∀ x∈f.Code,(x.Op=16\/x.Op=17)->0<=x.A/\x.A<f.Slots.length
theorem Sc.defs {i most:Int} (h:Sc ps i most f):QZ f:=by
 intro x hx hop;obtain⟨k,hk⟩:=aAH hx;have hkl:=(aAC.1 hk).1
 by_cases hk1:k+1<f.Code.length
 ·have hins:=h.body k x hk hk1;cases hins with
  | store a b h0 h1 h2=>simp_all
  | move a b h0 h1 h2=>exact⟨h0.1,h0.2.1⟩
  | bin op a b c h1 h2 h3 h4 h5 h6=>grind
  | un op a h1 h2=>grind
  | _=>simp at hop
 ·have he:=h.last x (by grind)
  rcases he with rfl|⟨w,_,rfl⟩<;>simp at hop
def Ajl (x:NJ) (v:Int):Bool:=x.Op==17&&x.B==v
def Aks (_:NJ) (_:Int):Bool:=false
def Aod (mv:NJ->Int->Bool) (f:NI) (l:List (List Int)) (k:Nat) (a v:Int):Prop :=
 a=(NO f k).A/\((NO f k).Op=16\/(NO f k).Op=17)/\¬ ((NO f k).Op=17/\(NO f k).A=(NO f k).B)/\v∈Ou l k/\v≠a/\mv (NO f k) v=false
def Aaw (mv:NJ->Int->Bool) (f:NI) (l:List (List Int)) (k:Nat) (a v:Int):Prop:=∃ j<k,Aod mv f l j a v
def Ed (mv:NJ->Int->Bool) (f:NI) (l:List (List Int)) (a v:Int):Prop:=Aaw mv f l f.Code.length a v
def AcV (mv:NJ->Int->Bool) (f:NI) (l:List (List Int)) (k i:Nat) (a v:Int):Prop :=
 Aaw mv f l k a v\/(a=(NO f k).A/\v∈(Ou l k).take i/\v≠a/\mv (NO f k) v=false)
theorem Anb:Aaw mv f l (k+1) a v↔Aaw mv f l k a v\/Aod mv f l k a v:=by
 constructor
 ·rintro⟨j,hj,h⟩
  by_cases e:j=k
  ·simp_all
  ·exact .inl ⟨j,by omega,h⟩
 ·rintro(⟨j,hj,h⟩|h)
  ·exact⟨j,by omega,h⟩
  ·exact⟨k,by omega,h⟩
theorem ArL:AcV mv f l k 0 a v↔Aaw mv f l k a v:=by simp[AcV]
theorem Atq (h1:(NO f k).Op=16\/(NO f k).Op=17) (h2:¬ ((NO f k).Op=17/\(NO f k).A=(NO f k).B)) :
  AcV mv f l k (Ou l k).length a v↔Aaw mv f l (k+1) a v:=by
 grind [Anb,AcV,Aod]
theorem AmZ {x:Int} (hx:(Ou l k)[i]? =some x) :
  AcV mv f l k (i+1) a v↔AcV mv f l k i a v\/(a=(NO f k).A/\v=x/\x≠a/\mv (NO f k) x=false):=by
 grind [aAY,AcV]
theorem Ana (h:((NO f k).Op≠16/\(NO f k).Op≠17)\/((NO f k).Op=17/\(NO f k).A=(NO f k).B)) :
  Aaw mv f l (k+1) a v↔Aaw mv f l k a v:=by
 rw[Anb];constructor
 ·rintro(h1|⟨_,h2,h3,_⟩)
  all_goals omega
 simp_all
theorem ArK {x:Int} (hx:(Ou l k)[i]? =some x) (h:x=(NO f k).A\/mv (NO f k) x=true) :
  AcV mv f l k (i+1) a v↔AcV mv f l k i a v:=by
 grind [AmZ]
def AeN (m:List (List Bool)) (a v:Nat):Bool:=(((m[a]?).getD [])[v]?).getD false
def Aje (n:Nat) (m:List (List Bool)) (P:Int->Int->Prop):Prop :=
 m.length=n/\(∀ row∈m,row.length=n)/\∀ a v:Nat,a<n->v<n->(AeN m a v=true↔P a v\/P v a)
theorem Aje.congr {n:Nat} {P Q:Int->Int->Prop} (h:Aje n m P) (hq:∀ a v,Q a v↔P a v):Aje n m Q :=
 ⟨h.1,h.2.1,λa v ha hv=>by rw[h.2.2 a v ha hv,hq,hq]⟩
theorem AmY {n:Nat} (hl:m.length=n) {d:Nat} (hd:d<n) (r:List Bool) (a v:Nat):AeN (m.set d r) a v=if a=d then(r[v]?).getD false else AeN m a v:=by
 unfold AeN
 grind
theorem Aow {n:Nat} {r:List Bool} (hl:r.length=n) {v:Nat} (hv:v<n) (b:Nat):((r.set v true)[b]?).getD false=if b=v then true else(r[b]?).getD false:=by
 grind
theorem Aje.set {n:Nat} {P:Int->Int->Prop} (h:Aje n m P) {d v:Nat} {r1 r2:List Bool} (hd:d<n) (hv:v<n) (hne:d≠v) (h1:m[d]? =some r1) (h2:m[v]? =some r2) :
  Aje n ((m.set d (r1.set v true)).set v (r2.set d true)) (λa b=>P a b\/(a=d/\b=v)):=by
 obtain⟨hl,hr,hc⟩:=h;have l1:=hr _ (aAB h1);have l2:=hr _ (aAB h2);refine⟨by simp[hl],λrow hrow=>?_,λa b ha hb=>?_⟩
 ·grind
 ·rw[AmY (n:=n) (by simp[hl]) hv,AmY hl hd,Aow l2 hd,Aow l1 hv]
  have e1:(r1[b]?).getD false=AeN m d b:=by grind [AeN]
  have e2:(r2[b]?).getD false=AeN m v b:=by grind [AeN]
  grind
def Rj (n:Nat) (out:List (List Int)) (Q:Nat->Int->Prop):Prop:=out.length=n/\∀ (a:Nat) s,out[a]? =some s->ON n s/\∀ v,v∈s↔Q a v
theorem Rj.congr {n:Nat} {out:List (List Int)} {P:Nat->Int->Prop} (h:Rj n out P) (hq:∀ a v,a<n->(Q a v↔P a v)):Rj n out Q :=
 ⟨h.1,λa s hs=>⟨(h.2 a s hs).1,λv=>by rw[(h.2 a s hs).2 v,hq a v (by have:=(aAC.1 hs).1;have:=h.1;omega)]⟩⟩
theorem Rj.ext {n:Nat} {o1 o2:List (List Int)} (h1:Rj n o1 Q) (h2:Rj n o2 Q):o1=o2:=by
 apply aAT;intro a
 by_cases ha:a<n
 ·have e1:o1[a]? =some (o1[a]'(by have:=h1.1;omega)):=aAA _
  have e2:o2[a]? =some (o2[a]'(by have:=h2.1;omega)):=aAA _
  rw[e1,e2,(h1.2 a _ e1).1.1.ext (h2.2 a _ e2).1.1 λv=>by rw[(h1.2 a _ e1).2 v,(h2.2 a _ e2).2 v]]
 ·rw[aAP (by have:=h1.1;omega),aAP (by have:=h2.1;omega)]
theorem Rj.nil (n:Nat) (hq:∀ a v,¬ Q a v):Rj n (aAu n []) Q :=
 ⟨by simp,λa s hs=>by
  grind [ON.nil]⟩
theorem Rj.set {n:Nat} {out:List (List Int)} {P:Nat->Int->Prop} (h:Rj n out P) {d:Nat} (_hd:d<n) (hs:ON n s) (h1:∀ v,v∈s↔Q d v) (h2:∀ a v,a≠d->(Q a v↔P a v)):Rj n (out.set d s) Q:=by
 refine⟨by simp[h.1],λa t ht=>?_⟩
 by_cases e:a=d
 ·grind
 ·rw[aAZ (λh=>e h.symm)]at ht
  exact⟨(h.2 a t ht).1,λv=>by rw[(h.2 a t ht).2 v,h2 a v e]⟩
def Zv (mv:NJ->Int->Bool) (f:NI) (l:List (List Int)) (r:List (List Int)×Int):Prop :=
 (r.2=0/\Acc f l/\Rj f.Slots.length r.1 λa v=>Ed mv f l a v\/Ed mv f l v a)\/(r.2=11/\¬ Acc f l/\r.1=[])
theorem Zv.unique {r q:List (List Int)×Int} (h:Zv mv f l r) (k:Zv mv f l q):r=q:=by
 obtain⟨r1,r2⟩:=r;obtain⟨q1,q2⟩:=q;rcases h with⟨h1,h2,h3⟩|⟨h1,h2,h3⟩<;>rcases k with⟨k1,k2,k3⟩|⟨k1,k2,k3⟩
 ·simp only at h1 k1 h3 k3;rw[h1,k1,h3.ext k3]
 all_goals simp_all
def Oq (to:List Int) (s:Int):Int:=(to[s.toNat]?).getD 0
def Qj (f:NI) (s:Int):Int:=((f.Slots[s.toNat]?).map Og.Size).getD 0
def Akg (f:NI) (to:List Int):Prop :=
 to.length=f.Slots.length/\∀ s:Nat,s<to.length->0<=Oq to s/\Oq to s<to.length/\Qj f (Oq to s)=Qj f s/\Oq to (Oq to s)=Oq to s
theorem So {s:Int} (h0:0<=s) (h:s<to.length):to[s.toNat]? =some (Oq to s):=by
 grind [Oq]
theorem AdF {s:Int} {x:Og} (h:f.Slots[s.toNat]? =some x):x.Size=Qj f s:=by
 simp[Qj,h]
def OO (keep:List Bool) (k:Nat):Bool:=(keep[k]?).getD true
def Tf (f:NI) (r:Oi):Prop :=
 Akg f r.To/\r.Keep.length=f.Code.length/\∀ k:Nat,k<f.Code.length->OO r.Keep k=false->(NO f k).Op=16\/(NO f k).Op=17
def rnS (to:List Int) (s:Int):Int:=if 0<=s/\s<to.length then Oq to s else s
theorem Awq (to:List Int) (s:Int):SY s to=some (rnS to s):=by
 unfold SY rnS
 by_cases h0:s<0
 ·grind
 ·rw[decide_eq_false h0,cond_false]
  by_cases h1:s>=(to.length:Int)
  ·grind
  ·rw[decide_eq_false h1,cond_false,if_pos (by omega),Py _ (by omega),So (by omega) (by omega)]
   rfl
def rnI (to:List Int) (x:NJ):NJ :=
 if x.Op=15 then⟨x.Op,x.A,rnS to x.B,x.C,x.Imm⟩else if x.Op=16 then⟨x.Op,rnS to x.A,x.B,x.C,x.Imm⟩else if x.Op=17 then⟨x.Op,rnS to x.A,rnS to x.B,x.C,x.Imm⟩else x
theorem AoU (x:NJ) (to:List Int):VG x to=some (rnI to x):=by
 unfold VG rnI;simp only[Awq,aA]
 grind
theorem AcR (to:List Int) (x:NJ):(rnI to x).Op=x.Op:=by
 unfold rnI
 grind
def kept (keep:List Bool) (k:Nat):Nat:=(keep.take k).countP id
theorem Aji (keep:List Bool) (k:Nat):kept keep k<=k:=by
 grind [kept,List.countP_le_length]
theorem Yv {keep:List Bool} {b:Bool} (h:keep[k]? =some b):kept keep (k+1)=kept keep k+(if b then 1 else 0):=by
 grind [kept,aAY]
theorem Anm (r:Oi) (hl:r.Keep.length<=1000000):Hs (Aba r) λl=>l.length=r.Keep.length/\∀ j:Nat,j<r.Keep.length->l[j]? =some (kept r.Keep j:Int):=by
 refine Hs.loop (λs=>∃ k:Nat,s.2.2=(k:Int)/\k<=r.Keep.length/\s.2.1=(kept r.Keep k:Int)/\s.1.length=k/\∀ j:Nat,j<k->s.1[j]? =some (kept r.Keep j:Int)) (λs=>r.Keep.length-s.2.2.toNat) ⟨0,rfl,aAE _,rfl,rfl,λj hj=>absurd hj (aAI _)⟩ ?_
 rintro⟨l,n,_⟩ ⟨k,rfl,hk,hn,hll,hj⟩;subst hn;replace hll:l.length=k:=hll;refine .dec (λhlt=>?_) λhge=>.lft (.pure ?_)
 ·have hlt:k<r.Keep.length:=by simp_all
  have hg:r.Keep[k]? =some r.Keep[k]:=aAA _;generalize r.Keep[k]=b at hg;have hkl:=Aji r.Keep k;have hks:=Yv hg;have hap:∀ j:Nat,j<k+1->(l++[(kept r.Keep k:Int)])[j]? =some (kept r.Keep j:Int):=by
   grind
  refine .chk (by simp;omega) ?_
  simp only[PE,hg,aA];rw[NQ (show k<9223372036854775807 by omega),NQ (show kept r.Keep k<9223372036854775807 by omega)]
  refine .cond (λh=>?_) λh=>?_
  ·subst h;exact .cnt ⟨⟨k+1,rfl,hlt,by simp_all,by simp[hll],hap⟩,by grind⟩
  ·subst h;exact .cnt ⟨⟨k+1,rfl,hlt,by simp_all,by simp[hll],hap⟩,by grind⟩
 ·have hkk:k=r.Keep.length:=by grind
  subst hkk;exact⟨hll,hj⟩
theorem Aoj (x:NJ):UN x=some (QQ x):=by
 grind [UN,QQ]
theorem Akg.rng (h:Akg f to) {s:Int} (h0:0<=s) (h1:s<f.Slots.length):0<=rnS to s/\rnS to s<f.Slots.length/\rnS to s=Oq to s:=by
 obtain⟨j,rfl⟩:∃ j:Nat,s=(j:Int):=⟨s.toNat,by omega⟩
 have hl:=h.1;have:=h.2 j (by omega)
 simp_all[rnS]
def Pl (x:NJ):List Int:=QQ x++(if x.Op=16\/x.Op=17 then[x.A]else[])
theorem AcJ (hf:OL f) (hd:QZ f) (h:Akg f to) (hx:x∈f.Code):∀ v∈Pl (rnI to x),0<=v/\v<f.Slots.length:=by
 intro v hv;have hu:=hf.uses x hx;have hdf:=hd x hx;have key:∀ s:Int,0<=s->s<f.Slots.length->0<=rnS to s/\rnS to s<f.Slots.length:=λs h0 h1=>⟨(h.rng h0 h1).1,(h.rng h0 h1).2.1⟩
 grind [Pl,QQ,rnI]
theorem AvC (hf:OL f) (hd:QZ f) (hr:Tf f r):Hs (YZ f r) λl=>ON f.Slots.length l/\∀ k:Nat,k<f.Code.length->OO r.Keep k=true->∀ v∈Pl (rnI r.To (NO f k)),v∈l:=by
 have hlen:=hf.len';have hsl:=hf.slots;have hkl:=hr.2.1;unfold YZ;refine Hs.loop (λs=>∃ k:Nat,s.2=(k:Int)/\k<=f.Code.length/\ON f.Slots.length s.1/\∀ j:Nat,j<k->OO r.Keep j=true->∀ v∈Pl (rnI r.To (NO f j)),v∈s.1) (λs=>f.Code.length-s.2.toNat) ⟨0,rfl,aAE _,ON.nil _,λj hj=>absurd hj (aAI _)⟩ ?_
 rintro⟨l,_⟩ ⟨k,rfl,hk,hs,hj⟩;replace hs:ON f.Slots.length l:=hs;replace hj:∀ j:Nat,j<k->OO r.Keep j=true->∀ v∈Pl (rnI r.To (NO f j)),v∈l:=hj;unfold Adg;refine .dec (λhlt=>.dec (λ_=>?_) λh=>?_) λhge=>.lft (.pure ⟨hs,λj h=>hj j (by omega)⟩)
 ·have hlt:k<f.Code.length:=by omega
  have hx:=hf.at (j:=(k:Int)) (by omega) (by omega)
  rw[aAD]at hx;have hg:r.Keep[k]? =some (OO r.Keep k):=by grind [OO]
  have hnr:=AcJ hf hd hr.1 hx.2;unfold XI;simp only[PE,hg,hx.1,aA,AoU,Aoj,AdN,NQ (show k<9223372036854775807 by omega)]
  refine .cond (λh=>.cnt ⟨⟨k+1,rfl,hlt,hs,λj h' hkj=>?_⟩,by grind⟩) λh=>?_
  ·grind
  ·obtain⟨y,hy⟩:∃ y,y=rnI r.To (NO f k):=⟨_,rfl⟩;rw[<- hy]at hnr ⊢;have hul:(QQ y).length<=1:=by grind [QQ]
   have hll:=hs.1.length_le;rw[union_eq _ _ (by omega),aA]
   obtain⟨u1,u2⟩:=Xx (n:=f.Slots.length) (by omega) (b:=QQ y) (a:=l) hs (λx hx=>hnr x (by grind [Pl]))
   by_cases hdy:y.Op=16\/y.Op=17
   ·simp only[AcZ,if_pos hdy,cond_true];have hA:=hnr y.A (by simp_all[Pl])
    obtain⟨a1,a2⟩:=ON.add (n:=f.Slots.length) u1 hA (by omega)
    have a3:=(ON.AdS u1 hA (by omega)).2.2
    rw[a2,aA];refine .cnt ⟨⟨k+1,rfl,hlt,a1,λj h' hkj v hv=>?_⟩,by grind⟩
    show v∈Ra y.A (RQ l (QQ y));rw[a3,u2]
    by_cases e:j=k
    ·subst e;rw[<- hy]at hv;unfold Pl at hv
     grind
    grind
   ·simp only[AcZ,if_neg hdy,cond_false];refine .cnt ⟨⟨k+1,rfl,hlt,u1,λj h' hkj v hv=>?_⟩,by grind⟩
    show v∈RQ l (QQ y);rw[u2]
    by_cases e:j=k
    ·simp_all[Pl]
    grind
 omega
theorem Alq (hl:r.To.length<=500) (hu:used.length<=512):Hs (XJ r used) λl=>l.length=r.To.length/\∀ (s:Nat) x,l[s]? =some x->0<=x/\(Oq r.To s∈used->used[x.toNat]? =some (Oq r.To s)):=by
 unfold XJ;refine Hs.loop (λz=>∃ k:Nat,z.2=(k:Int)/\k<=r.To.length/\z.1.length=k/\∀ (s:Nat) x,z.1[s]? =some x->0<=x/\(Oq r.To s∈used->used[x.toNat]? =some (Oq r.To s))) (λz=>r.To.length-z.2.toNat) ⟨0,rfl,aAE _,rfl,λs x h=>by simp at h⟩ ?_
 rintro⟨l,_⟩ ⟨k,rfl,hk,hll,hq⟩;replace hll:l.length=k:=hll;refine .dec (λhlt=>?_) λhge=>.lft (.pure ?_)
 ·have hlt:k<r.To.length:=by omega
  have hg:=So (to:=r.To) (s:=(k:Int)) (by omega) (by omega)
  rw[aAD]at hg;refine Hs.loop (λz=>∃ i:Nat,z.2=(i:Int)/\i<=used.length/\0<=z.1/\(Oq r.To k∈used.take i->used[z.1.toNat]? =some (Oq r.To k))) (λz=>used.length-z.2.toNat) ⟨0,rfl,aAE _,aAW _,λh=>by simp at h⟩ ?_
  rintro⟨n,_⟩ ⟨i,rfl,hi,hn,hm⟩;refine .dec (λhlt2=>?_) λhge2=>.lft (.chk (by simp;omega) ?_)
  ·have hlt2:i<used.length:=by omega
   have hgx:used[i]? =some used[i]:=aAA _;have htk:used.take (i+1)=used.take i++[used[i]]:=by simp_all
   generalize used[i]=y at hgx htk;simp only[PE,hgx,hg,aA];rw[NQ (by omega)]
   refine .beq (λh=>.cnt ⟨⟨i+1,rfl,hlt2,by omega,λ_=>?_⟩,by grind⟩) λh=>.cnt ⟨⟨i+1,rfl,hlt2,hn,λh'=>?_⟩,by simp only;omega⟩
   all_goals grind [aAD]
  ·have hii:i=used.length:=by omega
   subst hii;unfold Xt;rw[NQ (by omega)]
   refine .cnt ⟨⟨k+1,rfl,hlt,by simp[hll],λs x hx=>?_⟩,by simp only;omega⟩
   have hx:(l++[n])[s]? =some x:=hx
   by_cases e:s=k
   ·simp_all
   ·have hsl:s<l.length:=by
     have:=(aAC.1 hx).1;simp at this;omega
    rw[aAQ hsl]at hx;exact hq s x hx
 ·have hkk:k=r.To.length:=by simp only at hge;omega
  subst hkk;exact⟨hll,hq⟩
def mvI (pl:List Int) (x:NJ):NJ :=
 if x.Op=20 then⟨x.Op,(pl[x.A.toNat]?).getD 0,x.B,x.C,x.Imm⟩else if x.Op=21 then⟨x.Op,x.A,(pl[x.B.toNat]?).getD 0,x.C,x.Imm⟩else x
def UM (f:NI) (keep:List Bool) (to pl:List Int) (k:Nat):List NJ:=(List.range k).filterMap λj=>if OO keep j=true then some (mvI pl (rnI to (NO f (j:Nat))))else none
theorem Anl (f:NI) (keep:List Bool) (to pl:List Int) (k:Nat):UM f keep to pl (k+1)=UM f keep to pl k++(if OO keep k=true then[mvI pl (rnI to (NO f (k:Nat)))]else[]):=by
 grind [UM,List.range_succ]
theorem Vp {f:NI} {keep:List Bool} {to pl:List Int}:∀ k:Nat,k<=keep.length->(UM f keep to pl k).length=kept keep k/\∀ (p:Nat) x,(UM f keep to pl k)[p]? =some x->∃ j:Nat,j<k/\OO keep j=true/\kept keep j=p/\x=mvI pl (rnI to (NO f (j:Nat)))
 | 0,_=>⟨rfl,λp x h=>by grind [UM]⟩
 | k+1,hk=>by
  obtain⟨h1,h2⟩:=Vp (f:=f) (keep:=keep) (to:=to) (pl:=pl) k (by omega)
  have hg:keep[k]? =some (OO keep k):=by grind [OO]
  rw[Anl]
  by_cases h:OO keep k=true
  ·rw[if_pos h];rw[h]at hg;have hs:=Yv hg
   grind
  ·rw[if_neg h,aAo]
   grind [Yv]
theorem Afh (h:x.Op=20\/x.Op=21):rnI to x=x:=by
 unfold rnI
 grind
theorem AlS (hf:OL f) (hk:k<f.Code.length):((NO f k).Op=20->0<=(NO f k).A/\(NO f k).A<f.Code.length)/\((NO f k).Op=21->0<=(NO f k).B/\(NO f k).B<f.Code.length):=by
 have hx:=hf.at (j:=(k:Int)) (by omega) (by omega)
 rw[aAD]at hx;have hn:=hf.next k _ hx.1;refine⟨λh=>hn _ (by simp[RJ,h]),λh=>hn _ ?_⟩
 unfold RJ
 grind
theorem Aog (hf:OL f) (hkl:r.Keep.length=f.Code.length) (to pl:List Int) (hpl:pl.length=r.Keep.length) (sl:List Og) :
  Hs (NZ (λs=>AbN f r to pl sl s.1 s.2) ([],0)) λq=>q=(⟨f.Params,sl,UM f r.Keep to pl f.Code.length⟩,0):=by
 have hlen:=hf.len';refine Hs.loop (λs=>∃ k:Nat,s.2=(k:Int)/\k<=f.Code.length/\s.1=UM f r.Keep to pl k) (λs=>f.Code.length-s.2.toNat) ⟨0,rfl,aAE _,rfl⟩ ?_
 rintro⟨_,_⟩ ⟨k,rfl,hk,rfl⟩;refine .dec (λhlt=>?_) λhge=>.lft (.pure ?_)
 ·have hlt:k<f.Code.length:=by omega
  have hx:=hf.at (j:=(k:Int)) (by omega) (by omega)
  rw[aAD]at hx;have hg:r.Keep[k]? =some (OO r.Keep k):=by grind [OO]
  have hol:=(Vp (f:=f) (keep:=r.Keep) (to:=to) (pl:=pl) k (by omega)).1
  have hkk:=Aji r.Keep k;have hs:=Anl f r.Keep to pl k;obtain⟨t1,t2⟩:=AlS hf hlt;simp only[PE,hg,hx.1,aA,AoU];refine .cond (λh=>?_) λh=>?_
  ·have hkf:¬ OO r.Keep k=true:=λh'=>by simp_all
   rw[if_neg hkf,aAo]at hs;rw[NQ (by omega)]
   exact .cnt ⟨⟨k+1,rfl,hlt,hs.symm⟩,by grind⟩
  ·have hkt:OO r.Keep k=true:=by simp_all
   rw[if_pos hkt]at hs;have fin:∀ a b:Int,(⟨(rnI to (NO f k)).Op,a,b,(rnI to (NO f k)).C,(rnI to (NO f k)).Imm⟩:NJ)=mvI pl (rnI to (NO f k))->Hs (Tw (UM f r.Keep to pl k) (rnI to (NO f k)) (k:Int) a b) (Rnd (λs:List NJ×Int=>∃ k:Nat,s.2=(k:Int)/\k<=f.Code.length/\s.1=UM f r.Keep to pl k) (λs=>f.Code.length-s.2.toNat) (UM f r.Keep to pl k,(k:Int)) λq=>q=(⟨f.Params,sl,UM f r.Keep to pl f.Code.length⟩,0)):=by
    intro a b hab;unfold Tw;refine .chk (by simp;omega) (.chk (by simp;omega) ?_)
    rw[NQ (by omega)]
    refine .cnt ⟨⟨k+1,rfl,hlt,?_⟩,by grind⟩
    simp_all
   refine .beq (λh20=>?_) λh20=>.beq (λh21=>?_) λh21=>fin _ _ ?_
   ·simp_all[AcR,Afh,chk,mvI]
   ·simp_all[AcR,Afh,chk,mvI]
   simp_all[mvI]
 ·have hkk:k=f.Code.length:=by omega
  subst hkk;rfl
theorem Awo {n:Nat} {out:List (List Int)} {P:Int->Int->Prop} (hs:Rj n out λa v=>P a v\/P v a) (hn:n<=500) {d y:Nat} (hd:d<n) (hy:y<n) (hne:d≠y) (t:Bool) (hi:i<1000000) (p q r s:Bool) :
  ∃ out',Sy ((d:Int),t) out (y:Int) (i:Int) p q r s=some (.inl (out',((i+1:Nat):Int)))/\Rj n out' λa v=>(P a v\/((a:Int)=d/\v=y))\/(P v a\/(v=d/\(a:Int)=y)):=by
 have e1:out[d]? =some (out[d]'(by have:=hs.1;omega)):=aAA _
 have e2:out[y]? =some (out[y]'(by have:=hs.1;omega)):=aAA _
 generalize out[d]'(by grind)=sd at e1
 generalize out[y]'(by grind)=sy at e2
 have q1:=hs.2 d _ e1;have q2:=hs.2 y _ e2;have a1:=q1.1.add (m:=(y:Int)) (by omega) (by omega)
 have a2:=q2.1.add (m:=(d:Int)) (by omega) (by omega)
 have m1:=(ON.AdS (m:=(y:Int)) q1.1 (by omega) (by omega)).2.2
 have m2:=(ON.AdS (m:=(d:Int)) q2.1 (by omega) (by omega)).2.2
 have e3:(out.set d (Ra y sd))[y]? =some sy:=by simp_all
 have hl:=hs.1;have h1:0<=(d:Int)/\(d:Int)<out.length:=by omega
 have h2:0<=(y:Int)/\(y:Int)<out.length:=by omega
 have h3:0<=(y:Int)/\(y:Int)<(out.set d (Ra y sd)).length:=by simp_all
 have w:=NQ (show i<9223372036854775807 by omega)
 refine⟨(out.set d (Ra y sd)).set y (Ra d sy),by grind [Sy,aAD,Ot,ApQ],by simp[hl],λa s hs'=>?_⟩
 by_cases ea:a=y
 ·grind
 ·rw[aAZ (λh=>ea h.symm)]at hs'
  by_cases ed:a=d
  ·grind
  ·rw[aAZ (λh=>ed h.symm)]at hs'
   refine⟨(hs.2 a s hs').1,λv=>?_⟩
   rw[(hs.2 a s hs').2 v]
   grind
def Aoe (mv:NJ->Int->Bool) (f:NI) (l:List (List Int)) (s:List (List Int)×Int):Prop :=
 ∃ k:Nat,s.2=(k:Int)/\k<=f.Code.length/\Rj f.Slots.length s.1 λa v=>Aaw mv f l k a v\/Aaw mv f l k v a
def Aqh (mv:NJ->Int->Bool) (f:NI) (l:List (List Int)) (k:Nat) (s:List (List Int)×Int):Prop :=
 ∃ i:Nat,s.2=(i:Int)/\i<=(Ou l k).length/\Rj f.Slots.length s.1 λa v=>AcV mv f l k i a v\/AcV mv f l k i v a
theorem Anr (hf:OL f) (hd:QZ f) {l:Ox} (hl:QB l.Out) (b:Bool):Hs (ZL f l b) (Zv (bif b then Aks else Ajl) f l.Out):=by
 have hlen:=hf.len';have hsl:=hf.slots;refine(AcK hf hl).bind λe he=>.bne (λh=>.pure (.inr ⟨he.1.resolve_left h,λha=>h (he.2.2 ha),rfl⟩)) λh=>?_
 have hacc:Acc f l.Out:=he.2.1 h;refine .chk (by omega) ?_
 generalize hmv:(bif b then Aks else Ajl)=mv
 refine Hs.loop (Aoe mv f l.Out) (λs=>f.Code.length-s.2.toNat) ⟨0,rfl,aAE _,?_⟩ ?_
 ·exact Rj.nil _ λa v h=>by rcases h with⟨j,hj,_⟩|⟨j,hj,_⟩<;>omega
 rintro⟨out,_⟩ ⟨k,rfl,hk,hs⟩;refine .dec (λhlt=>?_) λhge=>.lft (.pure (.inl ⟨rfl,hacc,?_⟩))
 ·have hlt:k<f.Code.length:=by omega
  have hx:=hf.at (j:=(k:Int)) (by omega) (by omega)
  rw[aAD]at hx;have hrow:=hacc.1.at (j:=(k:Int)) (by omega) (by omega)
  rw[aAD]at hrow;simp only[PE,hx.1,aA,AdN];have next:∀ out',(Rj f.Slots.length out' λa v=>Aaw mv f l.Out (k+1) a v\/Aaw mv f l.Out (k+1) v a)->∀ a b c d e,Hs (Tu (k:Int) a b c d e out') (Rnd (Aoe mv f l.Out) (λs=>f.Code.length-s.2.toNat) (out,(k:Int)) (Zv mv f l.Out)):=by
   intro out' h' a b c d e;unfold Tu;rw[NQ (by omega)]
   exact .cnt ⟨⟨k+1,rfl,hlt,h'⟩,by grind⟩
  have inner:¬ ((NO f k).Op=17/\(NO f k).A=(NO f k).B)->Hs (WX l (k:Int) (AcZ (NO f k)) b (NO f k) out) (Rnd (Aoe mv f l.Out) (λs=>f.Code.length-s.2.toNat) (out,(k:Int)) (Zv mv f l.Out)):=by
   intro hnm
   by_cases hdef:(NO f k).Op=16\/(NO f k).Op=17
   ·have hdn:AcZ (NO f k)=((NO f k).A,true):=if_pos hdef;have hA:=hd _ hx.2 hdef;rw[hdn];have hlo:=hrow.2.1.length_le;refine Hs.loop (Aqh mv f l.Out k) (λs=>(Ou l.Out k).length-s.2.toNat) ⟨0,rfl,aAE _,hs.congr λa v _=>by grind [ArL]⟩ ?_
    rintro⟨out2,_⟩ ⟨i,rfl,hi,hs2⟩;unfold YU;simp only[PE,hrow.1,aA];refine .dec (λhlt2=>?_) λhge2=>.lft (next _ (hs2.congr λa v _=>?_) _ _ _ _ _)
    ·have hlt2:i<(Ou l.Out k).length:=by omega
     have hgx:(Ou l.Out k)[i]? =some (Ou l.Out k)[i]:=aAA _;have hxm:=aAF hlt2;generalize(Ou l.Out k)[i]=x at hgx hxm;have hx0:=hrow.2.1.2 x hxm;have hxn:=hrow.2.2 x hxm;unfold YV;simp only[PE,hrow.1,hgx,aA];have skip:x=(NO f k).A\/mv (NO f k) x=true->Hs (cnt (out2,IntKind.i64.wrap ((i:Int)+1))) (Rnd (Aqh mv f l.Out k) (λs=>(Ou l.Out k).length-s.2.toNat) (out2,(i:Int)) (Rnd (Aoe mv f l.Out) (λs=>f.Code.length-s.2.toNat) (out,(k:Int)) (Zv mv f l.Out))):=by
      intro hh;rw[NQ (by omega)]
      exact .cnt ⟨⟨i+1,rfl,hlt2,hs2.congr λa v _=>by grind [ArK]⟩,by grind⟩
     have add:x≠(NO f k).A->mv (NO f k) x=false->∀ p q r s,Hs (Sy ((NO f k).A,true) out2 x (i:Int) p q r s) (Rnd (Aqh mv f l.Out k) (λs=>(Ou l.Out k).length-s.2.toNat) (out2,(i:Int)) (Rnd (Aoe mv f l.Out) (λs=>f.Code.length-s.2.toNat) (out,(k:Int)) (Zv mv f l.Out))):=by
      intro hne hmf p q r s;obtain⟨d,hde⟩:∃ d:Nat,(NO f k).A=(d:Int):=⟨_,(aAV hA.1).symm⟩;obtain⟨y,rfl⟩:∃ y:Nat,x=(y:Int):=⟨_,(aAV hx0.1).symm⟩;obtain⟨out',h1,h2⟩:=Awo (P:=AcV mv f l.Out k i) hs2 (by omega) (d:=d) (y:=y) (by omega) (by omega) (by omega) true (i:=i) (by omega) p q r s
      rw[hde,h1];refine .pure ⟨⟨i+1,rfl,hlt2,h2.congr λa v _=>?_⟩,by grind⟩
      grind [AmZ]
     refine .beq (λh=>skip (.inl h)) λhne=>?_
     subst hmv;cases b
     ·simp only[Bool.not_false,cond_true,cond_false] 
      grind [Ajl]
     ·simp only[aAd,cond_true,cond_false] ;exact add hne rfl _ _ _ _
    grind [Atq]
   ·have hdn:AcZ (NO f k)=(0,false):=if_neg hdef;rw[hdn];have hs':=hs.congr (Q:=λa v=>Aaw mv f l.Out (k+1) a v\/Aaw mv f l.Out (k+1) v a) λa v _=>by grind [Ana]
    refine Hs.loop (λs=>s=(out,0)) (λ_=>0) rfl ?_
    rintro _ rfl;unfold YU;simp only[PE,hrow.1,aA,cond_false];exact .dec (λ_=>.lft (next _ hs' _ _ _ _ _)) λ_=>.lft (next _ hs' _ _ _ _ _)
  refine .beq (λh17=>.beq (λhab=>next _ ?_ _ _ _ _ _) λhab=>inner λhh=>hab hh.2) λh17=>inner λhh=>h17 hh.1
  simp_all[Ana]
 ·have hk:k=f.Code.length:=by omega
  subst hk;exact hs
def Yl (f:NI):Prop:=∀ x∈f.Code,x.Op=17->0<=x.A/\x.A<f.Slots.length/\0<=x.B/\x.B<f.Slots.length/\Qj f x.A=Qj f x.B
theorem Sc.Agf {i most:Int} (h:Sc ps i most f):Yl f:=by
 intro x hx hop;obtain⟨k,hk⟩:=aAH hx;have hkl:=(aAC.1 hk).1
 by_cases hk1:k+1<f.Code.length
 ·have hins:=h.body k x hk hk1;cases hins with
  | move a b h0 h1 h2 =>
   obtain⟨q0,q1,x,y,e1,e2,e3⟩:=h0
   grind [Qj]
  | bin op a b c h1 h2 h3 h4 h5 h6=>simp_all
  | un op a h1 h2=>simp_all
  | _=>simp at hop
 ·have he:=h.last x (by grind)
  rcases he with rfl|⟨w,_,rfl⟩<;>simp at hop
def AkR (f:NI) (out:List PW):Prop:=∀ p∈out,∃ x∈f.Code,x.Op=17/\p=⟨x.A,x.B⟩
theorem Avp (hlen:f.Code.length<=10000):Hs (ZK f) λout=>out.length<=10000/\AkR f out:=by
 unfold ZK;refine Hs.loop (λs=>∃ k:Nat,s.2=(k:Int)/\k<=f.Code.length/\s.1.length<=k/\AkR f s.1) (λs=>f.Code.length-s.2.toNat) ⟨0,rfl,aAE _,aAR _,λp hp=>by cases hp⟩ ?_
 rintro⟨out,_⟩ ⟨k,rfl,hk,hol,hmv⟩;replace hol:out.length<=k:=hol;replace hmv:AkR f out:=hmv;unfold AbM;refine .dec (λhlt=>?_) λhge=>.lft (.pure ⟨show out.length<=10000 by omega,hmv⟩)
 have hlt:k<f.Code.length:=by omega
 have hx:f.Code[k]? =some f.Code[k]:=aAA _;have hxm:=aAF hlt;generalize f.Code[k]=x at hx hxm;simp only[PE,hx,aA];have j3:∀ old:Bool,(old=false->x.Op=17)->Hs (WV out x (k:Int) old) (Rnd (λs:List PW×Int=>∃ k:Nat,s.2=(k:Int)/\k<=f.Code.length/\s.1.length<=k/\AkR f s.1) (λs=>f.Code.length-s.2.toNat) (out,(k:Int)) λout=>out.length<=10000/\AkR f out):=by
  intro old hold;refine Hs.loop (λs=>∃ i:Nat,s.2=(i:Int)/\i<=out.length/\(s.1=false->x.Op=17)) (λs=>out.length-s.2.toNat) ⟨0,rfl,aAE _,hold⟩ ?_
  rintro⟨old,_⟩ ⟨i,rfl,hi,hold⟩;refine .dec (λhlt2=>?_) λ_=>.lft ?_
  ·have hlt2:i<out.length:=by omega
   have hg:out[i]? =some out[i]:=aAA _;simp only[aAD];rw[NQ (by omega)]
   refine .cond (λh=>.cnt ⟨⟨i+1,rfl,hlt2,λh'=>(by cases h')⟩,by grind⟩) λh=>.chk (by omega) ?_
   rw[hg,aA];exact .cnt ⟨⟨i+1,rfl,hlt2,λ_=>hold h⟩,by grind⟩
  ·unfold WU;rw[NQ (by omega)]
   refine .cond (λh=>.chk (by simp;omega) (.cnt ⟨⟨k+1,rfl,hlt,by simp;omega,λp hp=>?_⟩,by grind⟩)) λ_=>.cnt ⟨⟨k+1,rfl,hlt,by grind,hmv⟩,by grind⟩
   rcases aAM.1 hp with hp|hp
   ·exact hmv p hp
   grind
 grind
theorem Ajk (hl:to.length<=500) (s:Int):Hs (VI to s) λl=>l.length<=to.length/\∀ t,t∈l↔∃ j:Nat,j<to.length/\t=(j:Int)/\Oq to j=s:=by
 refine Hs.loop (λz=>∃ k:Nat,z.2=(k:Int)/\k<=to.length/\z.1.length<=k/\∀ t,t∈z.1↔∃ j:Nat,j<k/\t=(j:Int)/\Oq to j=s) (λz=>to.length-z.2.toNat) ⟨0,rfl,aAE _,aAR _,λt=>⟨λh=>(by cases h),λ⟨j,h,_⟩=>absurd h (aAI _)⟩⟩ ?_
 rintro⟨l,_⟩ ⟨k,rfl,hk,hll,hm⟩;replace hll:l.length<=k:=hll;refine .dec (λhlt=>?_) λhge=>.lft (.pure ?_)
 ·have hlt:k<to.length:=by omega
  have hg:=So (to:=to) (s:=(k:Int)) (by omega) (by omega)
  rw[aAD]at hg;simp only[PE,hg,aA];rw[NQ (by omega)]
  refine .beq (λh=>.chk (by simp;omega) (.cnt ⟨⟨k+1,rfl,hlt,by simp;omega,λt=>?_⟩,by grind⟩)) λh=>.cnt ⟨⟨k+1,rfl,hlt,by grind,λt=>?_⟩,by grind⟩
  all_goals grind
 ·have hk:k=to.length:=by omega
  subst hk;exact⟨hll,hm⟩
def Aau (g:List (List Int)) (to:List Int) (a b:Int):Prop:=∀ (x y:Nat) row,x<to.length->y<to.length->Oq to x=a->Oq to y=b->g[x]? =some row->(y:Int)∉row
theorem AsZ {n:Nat} (hg:Rj n g Q) (htn:to.length=n) (hl:n<=500) (a b:Int):Hs (Ack g to a b) λr=>r=true->Aau g to a b:=by
 refine(Ajk (by omega) a).bind λxs hx=>(Ajk (by omega) b).bind λys hy=>?_
 have fin:(∀ x∈xs,∀ y∈ys,∀ row,g[x.toNat]? =some row->y∉row)->Aau g to a b:=by
  intro h x y row h1 h2 h3 h4 h5;exact h x ((hx.2 x).2 ⟨x,h1,rfl,h3⟩) y ((hy.2 y).2 ⟨y,h2,rfl,h4⟩) row (by simp_all)
 refine Hs.loop (λi=>∃ k:Nat,i=(k:Int)/\k<=xs.length/\∀ x∈xs.take k,∀ y∈ys,∀ row,g[x.toNat]? =some row->y∉row) (λi=>xs.length-i.toNat) ⟨0,rfl,aAE _,λx h=>by simp at h⟩ ?_
 rintro _ ⟨k,rfl,hk,hall⟩;refine .dec (λhlt=>?_) λhge=>.lft (.pure λ_=>fin λx hx=>hall x (by grind))
 have hlt:k<xs.length:=by omega
 have hgx:xs[k]? =some xs[k]:=aAA _;have hxm:=aAF hlt;have htk:xs.take (k+1)=xs.take k++[xs[k]]:=by simp_all
 generalize xs[k]=x at hgx hxm htk;obtain⟨jx,hjx,rfl,_⟩:=(hx.2 x).1 hxm;have hgl:=hg.1;have hrow:g[jx]? =some (g[jx]'(by omega)):=aAA _
 generalize g[jx]'(by omega)=row at hrow
 have hset:=(hg.2 jx row hrow).1;have hrl:=hset.1.length_le;refine Hs.loop (λi=>∃ m:Nat,i=(m:Int)/\m<=ys.length/\∀ y∈ys.take m,y∉row) (λi=>ys.length-i.toNat) ⟨0,rfl,aAE _,λx h=>by simp at h⟩ ?_
 rintro _ ⟨m,rfl,hm,hno⟩;refine .dec (λhlt2=>?_) λhge2=>.lft ?_
 ·have hlt2:m<ys.length:=by omega
  have hgy:ys[m]? =some ys[m]:=aAA _;have htm:ys.take (m+1)=ys.take m++[ys[m]]:=by simp_all
  generalize ys[m]=y at hgy htm;refine .chk (by omega) ?_
  simp only[aAD,hgx,aA,PE,hrow];refine .chk (by omega) ?_
  rw[hgy,aA,AaN _ _ (by omega),aA,NQ (by omega)]
  refine .dec (λ_=>.lft (.lft (.pure λh=>(by cases h)))) λh=>.cnt ⟨⟨m+1,rfl,hlt2,λz hz=>?_⟩,by grind⟩
  grind
 ·unfold YW;rw[NQ (by omega)]
  refine .cnt ⟨⟨k+1,rfl,hlt,λz hz y hy row' hr=>?_⟩,by grind⟩
  grind [aAD]
structure Aav (f:NI) (g:List (List Int)) (to:List Int):Prop where
 ok:Akg f to
 apart:∀ (x y:Nat) row,x<to.length->y<to.length->Oq to x=Oq to y->g[x]? =some row->(y:Int)∉row
def Si (a b c:Int):Int:=if c=a\/c=b then Uc a b else c
theorem ApX (a b:Int):Uc a b=a\/Uc a b=b:=by grind [Uc]
theorem Aav.join (hg:Rj f.Slots.length g Q) (hsym:∀ (x y:Nat) r s,g[x]? =some r->g[y]? =some s->(y:Int)∈r->(x:Int)∈s) {to':List Int} (h:Aav f g to) {b:Int} (ha:0<=a/\a<f.Slots.length) (hb:0<=b/\b<f.Slots.length) (haa:Oq to a=a) (hbb:Oq to b=b) (hs:Qj f a=Qj f b) (hap:Aau g to a b) (hl:to'.length=to.length) (hto:∀ j:Nat,j<to.length->Oq to' j=Si a b (Oq to j)):Aav f g to':=by
 have htl:=h.ok.1;have hto2:∀ j:Int,0<=j->j<to.length->Oq to' j=Si a b (Oq to j):=by
  intro j h0 h1;obtain⟨i,rfl⟩:∃ i:Nat,j=(i:Int):=⟨j.toNat,by omega⟩
  simp_all
 have hm:Oq to (Uc a b)=Uc a b/\0<=Uc a b/\Uc a b<f.Slots.length/\Qj f (Uc a b)=Qj f a:=by
  grind [ApX]
 have hj:Si a b (Uc a b)=Uc a b:=by
  simp_all[Si]
 refine⟨⟨by omega,λs hs'=>?_⟩,λx y row hx hy he hr hyr=>?_⟩
 ·obtain⟨q1,q2,q3,q4⟩:=h.ok.2 s (by omega)
  rw[hto s (by omega)]
  by_cases e:Oq to s=a\/Oq to s=b
  ·have ej:Si a b (Oq to s)=Uc a b:=by simp_all[Si]
   grind
  simp_all[Si]
 ·rw[hto x (by omega),hto y (by omega)]at he
  have hgl:=hg.1;have hrow:g[y]? =some (g[y]'(by omega)):=aAA _
  by_cases ex:Oq to x=a\/Oq to x=b<;>by_cases ey:Oq to y=a\/Oq to y=b
  ·rcases ex with ex|ex<;>rcases ey with ey|ey
   ·exact h.apart x y row (by omega) (by omega) (by rw[ex,ey]) hr hyr
   ·exact hap x y row (by omega) (by omega) ex ey hr hyr
   ·exact hap y x _ (by omega) (by omega) ey ex hrow (hsym x y _ _ hr hrow hyr)
   ·exact h.apart x y row (by omega) (by omega) (by rw[ex,ey]) hr hyr
  ·have e1:Si a b (Oq to x)=Uc a b:=by simp_all[Si]
   have e2:Si a b (Oq to y)=Oq to y:=by simp_all[Si]
   grind [ApX]
  ·simp_all[Si,Oq,Uc]
  ·have e1:Si a b (Oq to y)=Oq to y:=by simp_all[Si]
   have e2:Si a b (Oq to x)=Oq to x:=by simp_all[Si]
   rw[e1,e2]at he;exact h.apart x y row (by omega) (by omega) he hr hyr
theorem Ast (f:NI) (to:List Int) (hsl:f.Slots.length<=500):Hs (Acj f to) λb=>b=true↔Akg f to:=by
 refine .bne (λh=>.pure ⟨λh'=>(by cases h'),λh'=>(h (by rw[h'.1])).elim⟩) λh=>?_
 have hl:to.length=f.Slots.length:=by omega
 refine Hs.loop (λi=>∃ k:Nat,i=(k:Int)/\k<=to.length/\∀ s:Nat,s<k->0<=Oq to s/\Oq to s<to.length) (λi=>to.length-i.toNat) ⟨0,rfl,aAE _,λs hs=>absurd hs (aAI _)⟩ ?_
 rintro _ ⟨k,rfl,hk,hall⟩;refine .dec (λhlt=>?_) λhge=>.lft ?_
 ·have hlt:k<to.length:=by omega
  have hg:to[k]? =some (Oq to k):=by have:=So (to:=to) (s:=k) (by omega) (by omega);simp_all
  simp only[PE,hg,aA];refine .dec (λh0=>.lft (.pure ⟨λh=>(by cases h),λh=>?_⟩)) λh0=>.dec (λh1=>.lft (.pure ⟨λh=>(by cases h),λh=>?_⟩)) λh1=>?_
  ·have:=(h.2 k hlt).1;omega
  ·have:=(h.2 k hlt).2.1;omega
  rw[NQ (by omega)]
  refine .cnt ⟨⟨k+1,rfl,hlt,λs hs=>?_⟩,by grind⟩
  grind
 have hkk:k=to.length:=by omega
 subst hkk;refine Hs.loop (λi=>∃ k:Nat,i=(k:Int)/\k<=to.length/\∀ s:Nat,s<k->Qj f (Oq to s)=Qj f s/\Oq to (Oq to s)=Oq to s) (λi=>to.length-i.toNat) ⟨0,rfl,aAE _,λs hs=>absurd hs (aAI _)⟩ ?_
 rintro _ ⟨k,rfl,hk,hall2⟩;refine .dec (λhlt=>?_) λhge=>.lft (.pure ?_)
 ·have hlt:k<to.length:=by omega
  obtain⟨q0,q1⟩:=hall k hlt;have hg:to[k]? =some (Oq to k):=by have:=So (to:=to) (s:=k) (by omega) (by omega);simp_all
  simp only[PE,hg,aA];refine Hs.bind (Hs.ix (i:=Oq to k) (P:=λx=>x.Size=Qj f (Oq to k)) (by omega) (by omega) λx hx=>AdF hx) λa ha=>?_
  refine Hs.bind (Hs.get (i:=(k:Int)) (P:=λx=>x.Size=Qj f k) (by omega) (by omega) λx hx=>AdF hx) λb hb=>?_
  rw[ha,hb];refine .bne (λh2=>.lft (.pure ⟨λh=>(by cases h),λh=>(h2 (h.2 k hlt).2.2.1).elim⟩)) λh2=>?_
  rw[Py _ (by omega),So (by omega) (by omega),aA]
  refine .bne (λh3=>.lft (.pure ⟨λh=>(by cases h),λh=>(h3 (h.2 k hlt).2.2.2).elim⟩)) λh3=>?_
  rw[NQ (by omega)]
  refine .cnt ⟨⟨k+1,rfl,hlt,λs hs=>?_⟩,by grind⟩
  grind
 ·exact⟨λ_=>⟨hl,λs hs=>⟨(hall s hs).1,(hall s hs).2,(hall2 s (by omega)).1,(hall2 s (by omega)).2⟩⟩,λ_=>rfl⟩
theorem Asq (x:NJ):RW x=some (decide (x.Op=16\/x.Op=17)):=by
 unfold RW
 grind
theorem ZH (hf:OL f) (r:Oi):Hs (Wv f r) λe=>(e=0\/e=12)/\(e=0↔Tf f r):=by
 have hlen:=hf.len';unfold Wv;refine(Ast f r.To hf.slots).bind λb hb=>.cond (λh=>.pure ⟨.inr rfl,λh=>by omega,λh'=>?_⟩) λh=>?_
 ·rw[hb.2 h'.1]at h;cases h
 have hv:Akg f r.To:=hb.1 (by simp_all)
 refine .bne (λh=>.pure ⟨.inr rfl,λh=>by omega,λh'=>(h (by rw[h'.2.1])).elim⟩) λh=>?_
 have hkl:r.Keep.length=f.Code.length:=by omega
 unfold YY;refine Hs.loop (λi=>∃ k:Nat,i=(k:Int)/\k<=f.Code.length/\∀ j:Nat,j<k->OO r.Keep j=false->(NO f j).Op=16\/(NO f j).Op=17) (λi=>f.Code.length-i.toNat) ⟨0,rfl,aAE _,λs hs=>absurd hs (aAI _)⟩ ?_
 rintro _ ⟨k,rfl,hk,hall⟩;unfold AbP;refine .dec (λhlt=>?_) λhge=>.lft (.pure ⟨.inl rfl,λ_=>⟨hv,hkl,λj hj=>hall j (by omega)⟩,λ_=>rfl⟩)
 have hlt:k<f.Code.length:=by omega
 have hx:=hf.at (j:=(k:Int)) (by omega) (by omega)
 rw[aAD]at hx;have hg:r.Keep[k]? =some (OO r.Keep k):=by grind [OO]
 have stp:(OO r.Keep k=false->(NO f k).Op=16\/(NO f k).Op=17)->∀ j:Nat,j<k+1->OO r.Keep j=false->(NO f j).Op=16\/(NO f j).Op=17:=by
  grind
 simp only[PE,hx.1,hg,aA,Asq];rw[NQ (by omega)]
 refine .cond (λh=>?_) λh=>.cnt ⟨⟨k+1,rfl,hlt,stp λh'=>by simp_all⟩,by grind⟩
 have hkf:OO r.Keep k=false:=by simp_all
 refine .cond (λh=>.lft (.pure ⟨.inr rfl,λh=>by omega,λh'=>?_⟩)) λh=>.cnt ⟨⟨k+1,rfl,hlt,stp λ_=>aAc λhn=>by simp_all⟩,by grind⟩
 have:=h'.2.2 k hlt hkf;simp_all
theorem Ajh:∀ {l:List Int} {a n:Int},l.Pairwise (· <·)->(∀ x∈l,a<=x/\x<n)->(l.length:Int)<=max 0 (n-a)
 | [],a,n,_,_=>by simp;omega
 | x::l,a,n,hp,hr=>by
  have h:=aAS.1 hp;have hx:=hr x (by simp)
  have:=Ajh (l:=l) (a:=x+1) (n:=n) h.2 λy hy=>⟨by grind,(hr y (by simp[hy])).2⟩
  grind
theorem Ata (_hsl:f.Slots.length<=500) (_htl:r.To.length=f.Slots.length) {_u:Int} {x:Og} {out:List Og} (hi:i<=1000) {l:List Int} (hll:l.length<=1000) (ho:out.length=i) (hl:∀ t∈l,0<=t/\t<f.Slots.length) {Q:NI×Int->Prop} (hI:∀ y:Og,y.Size=x.Size->(∃ t∈x::f.Slots,y.Align=t.Align)->Rnd I μ s0 Q (.inl (out++[y],((i+1:Nat):Int)))):Hs (NZ (λs=>YX l f out x (i:Int) s.1 s.2) (x.Align,0)) (Rnd I μ s0 Q):=by
 refine Hs.loop (λs=>∃ k:Nat,s.2=(k:Int)/\k<=l.length/\∃ t∈x::f.Slots,s.1=t.Align) (λs=>l.length-s.2.toNat) ⟨0,rfl,aAE _,x,by simp,rfl⟩ ?_
 rintro⟨a,_⟩ ⟨k,rfl,hk,t0,ht0,hat⟩;refine .dec (λhlt=>?_) λ_=>.lft (.chk (by simp;omega) (.chk (by simp;omega) ?_))
 ·have hlt:k<l.length:=by omega
  refine .chk (by omega) ((Hs.get (by omega) (by omega) λt ht=>aAB ht).bind λt ht=>?_)
  have:=hl t ht;refine(Hs.ix (P:=λy=>y∈f.Slots) this.1 this.2 λy hy=>aAB hy).bind λy hy=>?_
  rw[NQ (by omega),ApW]
  refine .cnt ⟨⟨k+1,rfl,hlt,?_⟩,by grind⟩
  grind
 ·unfold WY;rw[NQ (by omega)]
  exact .cnt (hI _ rfl ⟨t0,ht0,hat⟩)
def Abr (f:NI) (used:List Int) (out:List Og):Prop :=
 ∀ (j:Nat) y,out[j]? =some y->∃ u x,used[j]? =some u/\f.Slots[u.toNat]? =some x/\y.Size=x.Size/\∃ t∈f.Slots,y.Align=t.Align
theorem Abr.snoc {out:List Og} (h:Abr f used out) (ho:out.length=i) (hu:used[i]? =some u) {x y:Og} (hx:f.Slots[u.toNat]? =some x) (h1:y.Size=x.Size) (h2:∃ t∈x::f.Slots,y.Align=t.Align):Abr f used (out++[y]):=by
 intro j z hz
 by_cases e:j<out.length
 ·rw[aAQ e]at hz;exact h j z hz
 grind
theorem AmS (hf:OL f) (hd:QZ f) (hr:Tf f r):Hs (QJ f r) λq=>q.2=0/\∃ used to pl:List Int,ON f.Slots.length used/\(∀ k:Nat,k<f.Code.length->OO r.Keep k=true->∀ v∈Pl (rnI r.To (NO f k)),v∈used)/\to.length=r.To.length/\(∀ (s:Nat) x,to[s]? =some x->0<=x/\(Oq r.To s∈used->used[x.toNat]? =some (Oq r.To s))) /\
  pl.length=r.Keep.length/\(∀ j:Nat,j<r.Keep.length->pl[j]? =some (kept r.Keep j:Int))/\q.1.Slots.length=used.length/\q.1.Params=f.Params/\q.1.Code=UM f r.Keep to pl f.Code.length/\Abr f used q.1.Slots:=by
 have hlen:=hf.len';have hsl:=hf.slots;have hkl:=hr.2.1;have htl:=hr.1.1;refine(ZH hf r).bind λe he=>.bne (λh=>(h (he.2.2 hr)).elim) λ_=>?_
 refine(AvC hf hd hr).bind λused ⟨hu1,hu2⟩=>?_
 have hul:=hu1.1.length_le;refine Hs.loop (λs=>∃ i:Nat,s.2=(i:Int)/\i<=used.length/\s.1.length=i/\Abr f used s.1) (λs=>used.length-s.2.toNat) ⟨0,rfl,aAE _,rfl,λj y hj=>by simp at hj⟩ ?_
 rintro⟨out,_⟩ ⟨i,rfl,hi,ho,hsa⟩;refine .dec (λhlt=>?_) λhge=>.lft ?_
 ·have hlt:i<used.length:=by omega
  have hgx:used[i]? =some used[i]:=aAA _;have hxm:=aAF hlt;generalize used[i]=u at hgx hxm;have h0:=(hu1.1.2 u hxm).1;have h1:=hu1.2 u hxm;refine .chk (by omega) ?_
  simp only[aAD,hgx,aA];refine(Hs.ix (P:=λx=>f.Slots[u.toNat]? =some x) h0 h1 λx hx=>hx).bind λx hfx=>.chk (by omega) ?_
  refine(Ajk (by omega) u).bind λl hm=>?_
  refine Ata (_u:=u) hsl htl (by omega) (l:=l) (by omega) ho (λt ht=>?_) λy hy1 hy2=>⟨⟨i+1,rfl,hlt,by simp[ho],hsa.snoc ho hgx hfx hy1 hy2⟩,by grind⟩
  grind
 have hii:i=used.length:=by omega
 subst hii;refine(Alq (by omega) hul).bind λto ⟨n1,n2⟩=>(Anm r (by omega)).bind λpl ⟨p1,p2⟩=>?_
 refine(Aog hf hkl to pl p1 out).mono λq hq=>?_
 subst hq;exact⟨rfl,used,to,pl,hu1,hu2,n1,n2,p1,p2,ho,rfl,rfl,hsa⟩
theorem Akh (hf:OL f) (hd:QZ f) (hr:Tf f r):Hs (QJ f r) λq=>q.2=0/\∃ used to pl:List Int,ON f.Slots.length used/\(∀ k:Nat,k<f.Code.length->OO r.Keep k=true->∀ v∈Pl (rnI r.To (NO f k)),v∈used)/\to.length=r.To.length/\(∀ (s:Nat) x,to[s]? =some x->0<=x/\(Oq r.To s∈used->used[x.toNat]? =some (Oq r.To s))) /\
  pl.length=r.Keep.length/\(∀ j:Nat,j<r.Keep.length->pl[j]? =some (kept r.Keep j:Int))/\q.1.Slots.length=used.length/\q.1.Params=f.Params/\q.1.Code=UM f r.Keep to pl f.Code.length :=
 (AmS hf hd hr).mono λ_q ⟨h0,used,to,pl,u1,u2,n1,n2,p1,p2,sl,pr,cd,_⟩=>⟨h0,used,to,pl,u1,u2,n1,n2,p1,p2,sl,pr,cd⟩
theorem AcG {keep:List Bool} {j:Nat}:∀ {k:Nat},j<=k->k<=keep.length->kept keep j<=kept keep k
 | 0,h,_=>by
  simp_all
 | k+1,h,hk=>by
  by_cases e:j=k+1
  ·simp_all
  ·have h1:=AcG (keep:=keep) (j:=j) (k:=k) (by omega) (by omega)
   have hg:keep[k]? =some (keep[k]'(by omega)):=aAA _
   grind [Yv]
def TO (f:NI):Prop:=(NO f (f.Code.length-1:Nat)).Op=20\/(NO f (f.Code.length-1:Nat)).Op=23\/(NO f (f.Code.length-1:Nat)).Op=24
theorem AfZ (hf:OL f) (hlast:TO f) (hr:Tf f r) {t:Nat} (ht:t<f.Code.length):kept r.Keep t<kept r.Keep f.Code.length:=by
 have hkl:=hr.2.1;have hl:=hf.len;have hk:OO r.Keep (f.Code.length-1)=true:=by
  cases h:OO r.Keep (f.Code.length-1)
  ·have:=hr.2.2 _ (by omega) h
   grind [TO]
  ·rfl
 have hg:r.Keep[f.Code.length-1]? =some true:=by
  grind [OO]
 have h1:=Yv hg;have h2:=AcG (keep:=r.Keep) (j:=t) (k:=f.Code.length-1) (by omega) (by omega)
 grind
theorem Aqi (hf:OL f) (hlast:TO f) (hr:Tf f r) {pl:List Int} (hpl:∀ j:Nat,j<r.Keep.length->pl[j]? =some (kept r.Keep j:Int)) {p:Nat} (hx:(UM f r.Keep to pl f.Code.length)[p]? =some x):∀ t∈RJ x p,0<=t/\t<(kept r.Keep f.Code.length:Int):=by
 have hkl:=hr.2.1;obtain⟨j,hj,hk,rfl,rfl⟩:=(Vp (f:=f) (keep:=r.Keep) (to:=to) (pl:=pl) f.Code.length (by omega)).2 p x hx
 have hcode:=(hf.at (j:=(j:Int)) (by omega) (by omega)).1
 have hn:=hf.next j _ hcode;obtain⟨t1,t2⟩:=AlS hf hj;have hg:r.Keep[j]? =some true:=by
  grind [OO]
 have hs:=Yv hg;simp at hs;have at_:∀ t:Int,0<=t->t<f.Code.length->(pl[t.toNat]?).getD 0=(kept r.Keep t.toNat:Int)/\kept r.Keep t.toNat<kept r.Keep f.Code.length:=λt h0 h1=>by
  simp_all[AfZ]
 have nx:(j:Int)+1<f.Code.length->(kept r.Keep j:Int)+1<kept r.Keep f.Code.length:=λh=>by
  have:=AfZ hf hlast hr (t:=j+1) (by omega)
  omega
 intro t ht
 by_cases h20:(NO f j).Op=20
 ·simp_all[Afh,mvI,RJ]
 ·by_cases h21:(NO f j).Op=21
  ·rw[Afh (.inr h21)]at ht;have a:=at_ _ (t2 h21).1 (t2 h21).2
   have b:=nx (by
    have:=hn ((j:Int)+1) (by
     unfold RJ
     grind)
    omega)
   have hmem:t=(pl[(NO f j).B.toNat]?).getD 0\/t=(kept r.Keep j:Int)+1:=by
    simp only[mvI,if_neg h20,if_pos h21,RJ]at ht
    grind
   omega
  ·have hop:(mvI pl (rnI to (NO f j))).Op=(NO f j).Op:=by
    have h:=AcR to (NO f j);simp_all[mvI]
   unfold RJ at ht;rw[hop,if_neg h20]at ht
   by_cases h23:(NO f j).Op=23\/(NO f j).Op=24
   ·simp_all
   ·rw[if_neg h23,if_neg h21]at ht
    have b:=nx (by
     simp_all[RJ])
    grind
theorem AbA (to:List Int) (x:NJ) (v:Int):v∈Pl (rnI to x)↔∃ s∈Pl x,v=rnS to s:=by
 grind [Pl,QQ,rnI]
theorem AtC (pl:List Int) (x:NJ):Pl (mvI pl x)=Pl x:=by
 grind [mvI,Pl,QQ]
theorem AeT (hf:OL f) (hd:QZ f) (hx:x∈f.Code) {s:Int} (hs:s∈Pl x):0<=s/\s<f.Slots.length:=by
 rcases aAM.1 hs with h|h
 ·exact hf.uses x hx s h
 ·by_cases hop:x.Op=16\/x.Op=17
  ·rw[if_pos hop]at h;rw[aAO.1 h];exact hd x hx hop
  simp_all
theorem Apn (hf:OL f) (hd:QZ f) (hr:Tf f r) {pl:List Int} (hu:∀ k:Nat,k<f.Code.length->OO r.Keep k=true->∀ v∈Pl (rnI r.To (NO f k)),v∈used) (htl:to.length=r.To.length) (hto:∀ (s:Nat) x,to[s]? =some x->0<=x/\(Oq r.To s∈used->used[x.toNat]? =some (Oq r.To s))) {p:Nat} (hx:(UM f r.Keep to pl f.Code.length)[p]? =some x):∀ v∈Pl x,0<=v/\v<used.length:=by
 have hkl:=hr.2.1;have hrl:=hr.1.1;obtain⟨j,hj,hk,rfl,rfl⟩:=(Vp (f:=f) (keep:=r.Keep) (to:=to) (pl:=pl) f.Code.length (by omega)).2 p x hx
 have hxm:=(hf.at (j:=(j:Int)) (by omega) (by omega)).2
 intro v hv;rw[AtC,AbA]at hv;obtain⟨s,hs,rfl⟩:=hv;obtain⟨h0,h1⟩:=AeT hf hd hxm hs;have hm:=hu j hj hk (rnS r.To s) ((AbA _ _ _).2 ⟨s,hs,rfl⟩);rw[(hr.1.rng h0 h1).2.2]at hm;have hg:=So (to:=to) (s:=s) h0 (by omega)
 have e:rnS to s=Oq to s:=by simp_all[rnS]
 grind [aAV]
theorem Sc.Awh {i most:Int} (h:Sc ps i most f):TO f:=by
 have hl:=h.len;have hg:f.Code[f.Code.length-1]? =some (NO f (f.Code.length-1:Nat)):=by grind [NO]
 have he:=h.last _ hg;unfold TO;rcases he with e|⟨w,_,e⟩<;>rw[e]<;>simp
theorem AkT (hf:OL f) (hd:QZ f) (hlast:TO f) (hr:Tf f r):Hs (QJ f r) λq=>q.2=0/\OL q.1/\QZ q.1:=by
 have hkl:=hr.2.1;have hsl:=hf.slots;have hlen:=hf.len';have hl1:=hf.len;refine(Akh hf hd hr).mono λq ⟨h0,used,to,pl,u1,u2,n1,n2,p1,p2,sl,_,cd⟩=>⟨h0,?_⟩
 have hcl:q.1.Code.length=kept r.Keep f.Code.length:=by grind [Vp]
 have hk0:=AfZ hf hlast hr (t:=0) (by omega)
 have hkl2:=Aji r.Keep f.Code.length;have hul:=Ajh (l:=used) (a:=0) (n:=f.Slots.length) u1.1.1 λx hx=>⟨(u1.1.2 x hx).1,u1.2 x hx⟩
 have nm:∀ x∈q.1.Code,∀ v∈Pl x,0<=v/\v<q.1.Slots.length:=by
  intro x hx v hv;obtain⟨p,hp⟩:=aAH hx;rw[cd]at hp;have:=Apn hf hd hr u2 n1 n2 hp v hv;omega
 refine⟨⟨by omega,by omega,by omega,λk x hx j hj=>?_,λx hx v hv=>nm x hx v (List.mem_append_left _ hv)⟩,λx hx hop=>nm x hx x.A (by simp_all[Pl])⟩
 rw[cd]at hx;have:=Aqi hf hlast hr p2 hx j hj;omega
def alS (f:NI) (t:Int):Int:=((f.Slots[t.toNat]?).map Og.Align).getD 0
def Abq (f:NI) (l:List Int) (a0 a:Int):Prop:=a0<=a/\(∀ t∈l,alS f t<=a)/\(a=a0\/∃ t∈l,a=alS f t)
theorem Abq.unique {l l':List Int} {a0 b:Int} (h:Abq f l a0 a) (k:Abq f l' a0 b) (e:∀ t,t∈l↔t∈l'):a=b:=by
 obtain⟨h1,h2,h3⟩:=h;obtain⟨k1,k2,k3⟩:=k
 grind
theorem Abq.nil (f:NI) (a:Int):Abq f [] a a:=⟨aAW _,λt h=>(by cases h),.inl rfl⟩
theorem Abq.snoc {l:List Int} {a0:Int} (h:Abq f l a0 a) (t:Int):Abq f (l++[t]) a0 (max a (alS f t)):=by
 obtain⟨h1,h2,h3⟩:=h;refine⟨by omega,λu hu=>?_,?_⟩
 all_goals grind
def AvJ (to:List Int) (s:Int) (l:List Int):Prop:=∀ t,t∈l↔∃ j:Nat,j<to.length/\t=(j:Int)/\Oq to j=s
def Arl (f:NI) (r:Oi) (used:List Int):Prop:=Aax used λv=>∃ k:Nat,k<f.Code.length/\OO r.Keep k=true/\v∈Pl (rnI r.To (NO f k))
structure Xy (f:NI) (r:Oi) (used:List Int) (out:List Og):Prop where
 len:out.length=used.length
 at_:∀ (i:Nat) (u:Int) (y:Og),used[i]? =some u->out[i]? =some y->∃ x l,f.Slots[u.toNat]? =some x/\y.Size=x.Size/\AvJ r.To u l/\Abq f l x.Align y.Align
theorem Xy.unique {a b:List Og} (h:Xy f r used a) (k:Xy f r used b):a=b:=by
 refine aAT λi=>?_
 by_cases hi:i<used.length
 ·have e1:a[i]? =some (a[i]'(by have:=h.len;omega)):=aAA _
  have e2:b[i]? =some (b[i]'(by have:=k.len;omega)):=aAA _
  have hu:used[i]? =some used[i]:=aAA _;obtain⟨x,l,x1,x2,x3,x4⟩:=h.at_ i _ _ hu e1;obtain⟨x',l',y1,y2,y3,y4⟩:=k.at_ i _ _ hu e2;rw[x1]at y1;cases y1;rw[e1,e2];have ea:=x4.unique y4 λt=>(x3 t).trans (y3 t).symm
  congr 1;generalize a[i]'_=p at *;generalize b[i]'_=q at *;cases p;cases q;simp_all
 ·rw[aAP (by have:=h.len;omega),aAP (by have:=k.len;omega)]
def AnU (r:Oi) (used to:List Int):Prop:=to.length=r.To.length/\∀ (s:Nat) x,to[s]? =some x->Oq r.To s∈used->0<=x/\used[x.toNat]? =some (Oq r.To s)
def Ajg (r:Oi) (pl:List Int):Prop:=pl.length=r.Keep.length/\∀ j:Nat,j<r.Keep.length->pl[j]? =some (kept r.Keep j:Int)
theorem Ajg.unique {a b:List Int} (h:Ajg r a) (k:Ajg r b):a=b:=by
 refine aAT λj=>?_
 by_cases hj:j<r.Keep.length
 ·rw[h.2 j hj,k.2 j hj]
 ·rw[aAP (by have:=h.1;omega),aAP (by have:=k.1;omega)]
theorem Aso {to':List Int} (h:∀ s∈Pl x,rnS to s=rnS to' s):rnI to x=rnI to' x:=by
 simp_all[rnI,Pl,QQ]
theorem Po.inj {l:List Int} (h:Po l) {j:Nat} (hi:l[i]? =some v) (hj:l[j]? =some v):i=j:=by
 obtain⟨a1,a2⟩:=aAC.1 hi;obtain⟨b1,b2⟩:=aAC.1 hj;have hp:=aAk.1 h.1
 grind
theorem AfW {α β:Type} {f g:α->Option β}:∀ {l:List α},(∀ x∈l,f x=g x)->l.filterMap f=l.filterMap g
 | [],_=>rfl
 | a::l,h=>by
  have h0:=h a (aAJ ..);have h1:=AfW (l:=l) λx hx=>h x (aAK _ hx)
  grind
theorem AqT (hf:OL f) (hd:QZ f) (hr:Tf f r) {to' pl:List Int} (hs:Po used) (hu:∀ k:Nat,k<f.Code.length->OO r.Keep k=true->∀ v∈Pl (rnI r.To (NO f k)),v∈used) (h:AnU r used to) (h':AnU r used to') :
  UM f r.Keep to pl f.Code.length=UM f r.Keep to' pl f.Code.length:=by
 have hrl:=hr.1.1;unfold UM;refine AfW λj hj=>?_
 have hj:=List.mem_range.1 hj
 by_cases hk:OO r.Keep j=true
 ·have hxm:=(hf.at (j:=(j:Int)) (by omega) (by omega)).2
  rw[Aso λs hs'=>?_]
  obtain⟨h0,h1⟩:=AeT hf hd hxm hs';have hm:=hu j hj hk (rnS r.To s) ((AbA _ _ _).2 ⟨s,hs',rfl⟩);rw[(hr.1.rng h0 h1).2.2]at hm;have one:∀ {t:List Int},AnU r used t->rnS t s=Oq t s/\0<=Oq t s/\used[(Oq t s).toNat]? =some (Oq r.To s):=fun{t} ht=>by
   have htl:=ht.1;have hg:=So (to:=t) (s:=s) h0 (by omega)
   have:=ht.2 s.toNat _ hg;rw[aAV h0]at this;simp_all[rnS]
  obtain⟨a1,a2,a3⟩:=one h;obtain⟨b1,b2,b3⟩:=one h';have:=hs.inj a3 b3;omega
 simp_all
def AdQ (f:NI) (r:Oi) (q:NI×Int):Prop:=q.2=0/\q.1.Params=f.Params/\∃ used to pl:List Int,Arl f r used/\Xy f r used q.1.Slots/\AnU r used to/\Ajg r pl/\q.1.Code=UM f r.Keep to pl f.Code.length
theorem AdQ.unique (hf:OL f) (hd:QZ f) (hr:Tf f r) {q q':NI×Int} (h:AdQ f r q) (k:AdQ f r q'):q=q':=by
 obtain⟨h1,h2,used,to,pl,h3,h4,h5,h6,h7⟩:=h;obtain⟨k1,k2,used',to',pl',k3,k4,k5,k6,k7⟩:=k;have e1:used=used':=Aax.eq h3 k3 λv _ _=>Iff.rfl
 subst e1;have e2:=h6.unique k6;subst e2;have hm:∀ k:Nat,k<f.Code.length->OO r.Keep k=true->∀ v∈Pl (rnI r.To (NO f k)),v∈used:=λj hj hk v hv=>by
  have hsl:=hf.slots;have hxm:=(hf.at (j:=(j:Int)) (by omega) (by omega)).2
  have:=AcJ hf hd hr.1 hxm v hv;exact(h3.2 v).2 ⟨⟨this.1,by omega⟩,j,hj,hk,hv⟩
 rw[AqT hf hd hr h3.1 hm h5 k5]at h7;obtain⟨⟨p,s,c⟩,e⟩:=q;obtain⟨⟨p',s',c'⟩,e'⟩:=q';simp only at *;rw[h1,k1,h2,k2,h7,k7,h4.unique k4]
section
variable {f:NI}
theorem Arp (_hsl:f.Slots.length<=500) {x:Og} {out:List Og} (hi:i<=1000) {l:List Int} (hll:l.length<=1000) (ho:out.length=i) (hl:∀ t∈l,0<=t/\t<f.Slots.length) {Q:NI×Int->Prop} (hI:∀ y:Og,y.Size=x.Size->Abq f l x.Align y.Align->Rnd I μ s0 Q (.inl (out++[y],((i+1:Nat):Int)))):Hs (NZ (λs=>YX l f out x (i:Int) s.1 s.2) (x.Align,0)) (Rnd I μ s0 Q):=by
 refine Hs.loop (λs=>∃ k:Nat,s.2=(k:Int)/\k<=l.length/\Abq f (l.take k) x.Align s.1) (λs=>l.length-s.2.toNat) ⟨0,rfl,aAE _,by grind [Abq.nil]⟩ ?_
 rintro⟨a,_⟩ ⟨k,rfl,hk,hm⟩;refine .dec (λhlt=>?_) λhge=>.lft (.chk (by simp;omega) (.chk (by simp;omega) ?_))
 ·have hlt:k<l.length:=by omega
  have hg:l[k]? =some l[k]:=aAA _;have htk:l.take (k+1)=l.take k++[l[k]]:=by simp_all
  have ht:=hl _ (aAF hlt);generalize l[k]=t at hg htk ht;refine .chk (by omega) ?_
  rw[aAD,hg,aA];refine(Hs.ix (P:=λy=>alS f t=y.Align) ht.1 ht.2 λy hy=>by grind [alS]).bind λy hy=>?_
  rw[NQ (by omega),ApW,<- hy]
  refine .cnt ⟨⟨k+1,rfl,hlt,?_⟩,by grind⟩
  rw[htk];exact hm.snoc t
 ·have hkk:k=l.length:=by omega
  subst hkk;rw[aAN]at hm;unfold WY;rw[NQ (by omega)]
  exact .cnt (hI _ rfl hm)
theorem Xy.snoc {out:List Og} (ho:out.length=i) (hi:i<=used.length) (h:Xy f r (used.take i) out) (hu:used[i]? =some u) {x y:Og} {l:List Int} (hx:f.Slots[u.toNat]? =some x) (h1:y.Size=x.Size) (hl:AvJ r.To u l) (h2:Abq f l x.Align y.Align):Xy f r (used.take (i+1)) (out++[y]):=by
 have hlt:=(aAC.1 hu).1;refine⟨by grind,λj v z hv hz=>?_⟩
 by_cases e:j<i
 ·rw[aAQ (by omega)]at hz
  refine h.at_ j v z ?_ hz
  grind
 grind
theorem Awu (hf:OL f) (hd:QZ f) (hr:Tf f r):Hs (YZ f r) λl=>Arl f r l/\ON f.Slots.length l:=by
 have hlen:=hf.len';have hsl:=hf.slots;have hkl:=hr.2.1;refine Hs.loop (λs=>∃ k:Nat,s.2=(k:Int)/\k<=f.Code.length/\ON f.Slots.length s.1/\∀ v,v∈s.1↔∃ j:Nat,j<k/\OO r.Keep j=true/\v∈Pl (rnI r.To (NO f j))) (λs=>f.Code.length-s.2.toNat) ⟨0,rfl,aAE _,ON.nil _,λv=>⟨λh=>(by cases h),λ⟨j,hj,_⟩=>absurd hj (aAI _)⟩⟩ ?_
 rintro⟨l,_⟩ ⟨k,rfl,hk,hs,hj⟩;replace hs:ON f.Slots.length l:=hs;have split:∀ v,(∃ j:Nat,j<k+1/\OO r.Keep j=true/\v∈Pl (rnI r.To (NO f j)))↔v∈l\/(OO r.Keep k=true/\v∈Pl (rnI r.To (NO f k))):=λv=>by
  grind
 refine .dec (λhlt=>.dec (λ_=>?_) λh=>?_) λhge=>.lft (.pure ⟨⟨hs.1,λv=>?_⟩,hs⟩)
 ·have hlt:k<f.Code.length:=by omega
  have hx:=hf.at (j:=(k:Int)) (by omega) (by omega)
  rw[aAD]at hx;have hg:r.Keep[k]? =some (OO r.Keep k):=by grind [OO]
  have hnr:=AcJ hf hd hr.1 hx.2;unfold XI;simp only[PE,hg,hx.1,aA,AoU,Aoj,AdN,NQ (show k<9223372036854775807 by omega)]
  refine .cond (λh=>.cnt ⟨⟨k+1,rfl,hlt,hs,λv=>?_⟩,by grind⟩) λh=>?_
  ·simp_all
  ·have hkt:OO r.Keep k=true:=by simp_all
   obtain⟨y,hy⟩:∃ y,y=rnI r.To (NO f k):=⟨_,rfl⟩;rw[<- hy]at hnr ⊢;have hul:(QQ y).length<=1:=by grind [QQ]
   have hll:=hs.1.length_le;rw[union_eq _ _ (by omega),aA]
   obtain⟨u1,u2⟩:=Xx (n:=f.Slots.length) (by omega) (b:=QQ y) (a:=l) hs (λx hx=>hnr x (by grind [Pl]))
   by_cases hdy:y.Op=16\/y.Op=17
   ·simp only[AcZ,if_pos hdy,cond_true];have hA:=hnr y.A (by simp_all[Pl])
    obtain⟨a1,a2⟩:=ON.add (n:=f.Slots.length) u1 hA (by omega)
    have a3:=(ON.AdS u1 hA (by omega)).2.2
    rw[a2,aA];refine .cnt ⟨⟨k+1,rfl,hlt,a1,λv=>?_⟩,by grind⟩
    show v∈Ra y.A (RQ l (QQ y))↔_;rw[split v,a3,u2,<- hy];unfold Pl
    grind
   ·simp only[AcZ,if_neg hdy,cond_false];refine .cnt ⟨⟨k+1,rfl,hlt,u1,λv=>?_⟩,by grind⟩
    simp_all[Pl]
 ·omega
 ·have hkk:k=f.Code.length:=by omega
  subst hkk;constructor
  ·intro h;have:=hs.2 v h;exact⟨⟨(hs.1.2 v h).1,by omega⟩,(hj v).1 h⟩
  simp_all
theorem AtJ (hf:OL f) (hd:QZ f) (hr:Tf f r):Hs (QJ f r) (AdQ f r):=by
 have hlen:=hf.len';have hsl:=hf.slots;have hkl:=hr.2.1;have htl:=hr.1.1;refine(ZH hf r).bind λe he=>.bne (λh=>(h (he.2.2 hr)).elim) λ_=>?_
 refine(Awu hf hd hr).bind λused ⟨hu0,hu1⟩=>?_
 have hul:=hu1.1.length_le;refine Hs.loop (λs=>∃ i:Nat,s.2=(i:Int)/\i<=used.length/\s.1.length=i/\Xy f r (used.take i) s.1) (λs=>used.length-s.2.toNat) ⟨0,rfl,aAE _,rfl,rfl,λj u y hj=>by simp at hj⟩ ?_
 rintro⟨out,_⟩ ⟨i,rfl,hi,ho,hsa⟩;refine .dec (λhlt=>?_) λhge=>.lft ?_
 ·have hlt:i<used.length:=by omega
  have hgx:used[i]? =some used[i]:=aAA _;have hxm:=aAF hlt;generalize used[i]=u at hgx hxm;have h0:=(hu1.1.2 u hxm).1;have h1:=hu1.2 u hxm;refine .chk (by omega) ?_
  simp only[aAD,hgx,aA];refine(Hs.ix (P:=λx=>f.Slots[u.toNat]? =some x) h0 h1 λx hx=>hx).bind λx hfx=>.chk (by omega) ?_
  refine(Ajk (by omega) u).bind λl hm=>?_
  refine Arp hsl (by omega) (l:=l) (by omega) ho (λt ht=>?_) λy hy1 hy2=>⟨⟨i+1,rfl,hlt,by simp[ho],hsa.snoc ho (by omega) hgx hfx hy1 hm.2 hy2⟩,by grind⟩
  grind
 have hii:i=used.length:=by omega
 subst hii;rw[aAN]at hsa;refine(Alq (by omega) hul).bind λto ⟨n1,n2⟩=>(Anm r (by omega)).bind λpl ⟨p1,p2⟩=>?_
 refine(Aog hf hkl to pl p1 out).mono λq hq=>?_
 subst hq;exact⟨rfl,rfl,used,to,pl,hu0,hsa,⟨n1,λs x hs hm=>⟨(n2 s x hs).1,(n2 s x hs).2 hm⟩⟩,⟨p1,p2⟩,rfl⟩
end
open Go Go.Dw Go.Proofs
def Tc (a:On):Prop:=0<=a.Off/\a.Off<=2147483647/\0<=a.Size/\a.Size<=2147483647/\a.Off+a.Size<=2147483647
def AgI (a b:On):Prop:=Tc a/\Tc b/\0<a.Size/\0<b.Size/\a.Off<b.Off+b.Size/\b.Off<a.Off+a.Size
def InI (a:On) (n:Int):Prop:=Tc a/\a.Off+a.Size<=n
instance (a:On):Decidable (Tc a):=by unfold Tc;infer_instance
instance (a b:On):Decidable (AgI a b):=by unfold AgI;infer_instance
instance (a:On) (n:Int):Decidable (InI a n):=by unfold InI;infer_instance
theorem Ahn (a:On):Rp a=some (decide (Tc a)):=by
 unfold Rp;simp only[Yo,aA]
 by_cases h1:0<=a.Off/\a.Off<=2147483647
 ·rw[decide_eq_true h1,cond_true]
  by_cases h2:0<=a.Size/\a.Size<=2147483647
  ·rw[decide_eq_true h2,cond_true,wrap64 (by omega) (by omega)]
   simp_all[Tc]
  ·rw[decide_eq_false h2,cond_false,decide_eq_false (λh=>h2 ⟨h.2.2.1,h.2.2.2.1⟩)]
 ·rw[decide_eq_false h1,cond_false,decide_eq_false (λh=>h1 ⟨h.1,h.2.1⟩)]
theorem AlQ {m:Nat} (hm:m<=24):RB ((2 ^ m:Nat):Int)=some true:=by
 have:Hs (RB ((2 ^ m:Nat):Int)) λb=>b=true:=by
  unfold RB;have hp:2 ^ m<=2 ^ 24:=aAa (by omega) hm
  refine Hs.loop (λk=>∃ j:Nat,k=((2 ^ j:Nat):Int)/\j<=m) (λk=>2 ^ m-k.toNat) ⟨0,rfl,aAE _⟩ ?_
  rintro _ ⟨j,rfl,hj⟩;have hjp:2 ^ j<=2 ^ m:=aAa (by omega) hj
  have hj0:0<2 ^ j:=Nat.two_pow_pos j;unfold RK;refine .dec (λ_=>.beq (λ_=>.lft (.pure rfl)) λhne=>?_) λh=>(h (by omega)).elim
  have hlt:j<m:=by
   grind
  have h2:2 ^ (j+1)<=2 ^ m:=aAa (by omega) hlt
  have h3:2 ^ (j+1)=2 ^ j*2:=Nat.pow_succ 2 j;refine .cnt ⟨⟨j+1,?_,hlt⟩,?_⟩
  all_goals grind [wrap64]
 obtain⟨r,h,rfl⟩:=this;exact h
def upN (n a:Int):Int:=n+(-n) % a
theorem UW {n:Int} (ha:0<a):n<=upN n a/\upN n a<n+a/\upN n a % a=0:=by
 have h1:=aAp (-n) (show a≠0 by omega)
 have h2:=aAh (-n) ha;refine⟨by grind [upN],by grind [upN],?_⟩
 unfold upN;rw[Int.emod_def (-n) a]
 grind [Int.mul_neg,Int.mul_emod_right]
def QA (a:Int):Prop:=∃ m:Nat,m<=24/\a=((2 ^ m:Nat):Int)
theorem QA.rng (h:QA a):1<=a/\a<=16777216:=by
 obtain⟨m,hm,rfl⟩:=h;have hp:2 ^ m<=2 ^ 24:=aAa (by omega) hm
 grind
theorem Ass {n:Int} (h0:0<=n) (h1:n<=1000000000) (ha:QA a):Wu n a=some (upN n a,0):=by
 obtain⟨a1,a2⟩:=ha.rng;obtain⟨m,hm,rfl⟩:=ha;unfold Wu;rw[Yo,aA,decide_eq_true (show 0<=n/\n<=2147483647 by omega)]
 simp only[aAd,cond_false,AlQ hm,aA];generalize((2 ^ m:Nat):Int)=a at *;unfold ZI XO;have ht:n.tmod a=n % a:=aAj h0;have e1:=aAp n (show a≠0 by omega)
 have e2:=aAh n (show 0<a by omega)
 have e3:=aAp (-n) (show a≠0 by omega)
 have e4:=aAh (-n) (show 0<a by omega)
 rw[Ot (by omega),ht]
 have key:(n % a=0->upN n a=n)/\(n % a≠0->upN n a=n-n % a+a):=by
  unfold upN;constructor
  ·simp_all[Int.emod_eq_zero_of_dvd,aAn]
  ·intro h;have hs:(n % a+(-n) % a) % a=0:=by
    rw[Int.emod_def n a,Int.emod_def (-n) a];have:n-a*(n / a)+(-n-a*(-n / a))=a*(-(n / a)+ -(-n / a)):=by grind
    simp_all
   have hq:n % a+(-n) % a=a:=by
    obtain⟨q,hq⟩:=aAn hs;have q1:0<q:=by
     rcases Int.lt_or_le 0 q with h|h
     ·exact h
     ·have:=aAg h (show 0<=a by omega)
      omega
    have q2:q<2:=by
     rcases Int.lt_or_le q 2 with h|h
     ·exact h
     ·have:=aAg h (show 0<=a by omega)
      omega
    grind
   omega
 by_cases h:n % a=0
 ·grind
 ·have:=key.2 h;rw[show(n % a != 0)=true by simp_all,cond_true,Ot (by omega),wrap64 (n:=n-n % a) (by omega) (by omega),wrap64 (by omega) (by omega),<- this,decide_eq_false (by omega),cond_false]
theorem Tc.wrap {a:On} (h:Tc a):IntKind.i64.wrap (a.Off+a.Size)=a.Off+a.Size:=by
 grind [Tc,wrap64]
theorem Ane (a:On) (n:Int):WO a n=some (decide (InI a n)):=by
 unfold WO;rw[Ahn,aA]
 by_cases h:Tc a
 ·rw[decide_eq_true h,cond_true,h.wrap];simp[InI,h]
 simp_all[InI]
theorem Wn (m:Nat) (hm:m<=24):QA ((2 ^ m:Nat):Int):=⟨m,hm,rfl⟩
theorem Zw.al {s:Og} (h:Zw s):QA s.Align/\s.Align<=64/\1<=s.Size/\s.Size<=16:=by
 obtain⟨h1,h2⟩:=h;have ha:QA s.Align/\s.Align<=64:=by
  simp only[aAi,List.not_mem_nil,or_false]at h2;rcases h2 with h|h|h|h|h|h|h|h<;>rw[h]
  ·exact⟨Wn 3 (by omega),by omega⟩
  ·exact⟨Wn 2 (by omega),by omega⟩
  ·exact⟨Wn 0 (by omega),by omega⟩
  ·exact⟨Wn 3 (by omega),by omega⟩
  ·exact⟨Wn 4 (by omega),by omega⟩
  ·exact⟨Wn 1 (by omega),by omega⟩
  ·exact⟨Wn 5 (by omega),by omega⟩
  ·exact⟨Wn 6 (by omega),by omega⟩
 grind
def Aay (s:Og):Prop:=s.Size∈([1,2,4,8,16]:List Int)/\QA s.Align
theorem Aay.al {s:Og} (h:Aay s):QA s.Align/\s.Align<=16777216/\1<=s.Size/\s.Size<=16:=by
 refine⟨h.2,h.2.rng.2,?_⟩;have:=h.1
 grind
theorem Zw.wide {s:Og} (h:Zw s):Aay s:=by
 refine⟨?_,h.al.1⟩;have:=h.1;simp only[aAi,List.not_mem_nil,or_false]at this ⊢;omega
def VB (p:NL) (n:Int) (x:NJ):Int:=if x.Op=18 then Ph n (x.A+1)else if x.Op=22 then Ph n (((p.Funcs[x.A.toNat]?).map NI.Params).getD 0)else n
def PY (p:NL) (f:NI) (k:Nat):Int:=(f.Code.take k).foldl (VB p) 0
def ZR (p:NL) (f:NI):Prop:=∀ x∈f.Code,(x.Op=18->0<=x.A/\x.A<8)/\(x.Op=22->0<=x.A/\∃ g,p.Funcs[x.A.toNat]? =some g/\0<=g.Params/\g.Params<=8)
theorem VL (hk:k<f.Code.length):PY p f (k+1)=VB p (PY p f k) f.Code[k]:=by
 grind [PY,aAe]
theorem AoE {b c:Int} (h0:0<=a/\a<=c) (h1:b<=c):0<=Ph a b/\Ph a b<=c:=by grind [Ph]
theorem Xk {p:NL} {f:NI} (h:ZR p f):∀ {k:Nat},k<=f.Code.length->0<=PY p f k/\PY p f k<=8
 | 0,_=>by simp[PY]
 | k+1,hk=>by
  rw[VL hk];have ih:=Xk h (k:=k) (by omega)
  obtain⟨h1,h2⟩:=h _ (aAF hk);unfold VB;split
  ·exact AoE ih (by omega)
  ·split
   ·obtain⟨_,g,hg,hp⟩:=h2 ‹_›;rw[hg];exact AoE ih (by simp_all)
   ·exact ih
theorem AoL {i:Int} (hi:ixO p.Funcs i=some f) (hl:f.Code.length<=10000) (h:ZR p f):SN p i=some (16*PY p f f.Code.length):=by
 have:Hs (SN p i) λr=>r=16*PY p f f.Code.length:=by
  unfold SN;rw[hi,aA];refine Hs.loop (λq=>∃ k:Nat,q=(PY p f k,(k:Int))/\k<=f.Code.length) (λq=>f.Code.length-q.2.toNat) ⟨0,rfl,aAE _⟩ ?_
  rintro _ ⟨k,rfl,hk⟩;have hr:=Xk h hk;refine .dec (λhlt=>?_) λhge=>.lft (.pure ?_)
  ·have hlt:k<f.Code.length:=by omega
   have e:ixO f.Code (k:Int)=some f.Code[k]:=by simp_all
   obtain⟨h1,h2⟩:=h _ (aAF hlt);simp only[e,aA];rw[NQ (by omega)]
   refine .beq (λh18=>?_) λh18=>.beq (λh22=>?_) λh22=>?_
   ·rw[wrap64 (by omega) (by omega)]
    exact .cnt ⟨⟨k+1,by grind [VL,VB],hlt⟩,by grind⟩
   ·obtain⟨a0,g,hg,hp⟩:=h2 h22;rw[Py _ a0,hg,aA];exact .cnt ⟨⟨k+1,by grind [VL,VB],hlt⟩,by grind⟩
   ·exact .cnt ⟨⟨k+1,by grind [VL,VB],hlt⟩,by grind⟩
  ·have:k=f.Code.length:=by omega
   subst this;rw[wrap64 (by omega) (by omega)]
   show PY p f f.Code.length*16=_;omega
 obtain⟨r,h,rfl⟩:=this;exact h
def ApM (s:List Og):Prop:=s.length<=7/\∀ x∈s,QA x.Align/\x.Align<=64/\1<=x.Size/\x.Size<=16
def Zx (s:List Og):Prop:=s.length<=40/\∀ x∈s,QA x.Align/\x.Align<=16777216/\1<=x.Size/\x.Size<=16
theorem ApM.w {s:List Og} (h:ApM s):Zx s:=⟨by have:=h.1;omega,λx hx=>⟨(h.2 x hx).1,by have:=(h.2 x hx).2.1;omega,(h.2 x hx).2.2⟩⟩
def Aed (q:List Int×Int) (s:Og):List Int×Int:=(q.1++[upN q.2 s.Align],upN q.2 s.Align+s.Size)
def plK (s:List Og) (a:Int) (k:Nat):List Int×Int:=(s.take k).foldl Aed ([],a)
theorem AbD {s:List Og} (hk:k<s.length):plK s a (k+1)=Aed (plK s a k) s[k]:=by
 grind [plK,aAe]
theorem AbC {s:List Og} (h:Zx s) {a:Int} (ha:0<=a/\a<=1000):∀ {k:Nat},k<=s.length->(plK s a k).1.length=k/\a<=(plK s a k).2/\(plK s a k).2<=a+16777240*k
 | 0,_=>by simp[plK]
 | k+1,hk=>by
  have ih:=AbC h ha (k:=k) (by omega)
  obtain⟨h1,h2,h3,h4⟩:=h.2 _ (aAF hk);obtain⟨u1,u2,_⟩:=UW (n:=(plK s a k).2) (a:=s[k].Align) (by have:=h1.rng;omega)
  grind [AbD,Aed]
def PG (p:NL) (f:NI) (al:Int):NT:=⟨16*PY p f f.Code.length,upN (plK f.Slots (16*PY p f f.Code.length) f.Slots.length).2 al,(plK f.Slots (16*PY p f f.Code.length) f.Slots.length).1⟩
theorem Ahm {i:Int} (hi:ixO p.Funcs i=some f) (hl:f.Code.length<=10000) (h:ZR p f) (hs:Zx f.Slots) {al:Int} (ha:QA al) (ha':al<=16777216):RL p i al=some (PG p f al,0):=by
 have hr:=Xk h (k:=f.Code.length) (aAR _);have hsl:=hs.1;have:Hs (RL p i al) λr=>r=(PG p f al,0):=by
  unfold RL;rw[AoL hi hl h,aA,hi,aA];unfold PG;have hr2:0<=16*PY p f f.Code.length/\16*PY p f f.Code.length<=128:=by omega
  generalize 16*PY p f f.Code.length=a0 at *;refine Hs.loop (λq=>∃ k:Nat,q=((plK f.Slots a0 k).1,(k:Int),(plK f.Slots a0 k).2)/\k<=f.Slots.length) (λq=>f.Slots.length-q.2.1.toNat) ⟨0,rfl,aAE _⟩ ?_
  rintro _ ⟨k,rfl,hk⟩;obtain⟨q1,q2,q3⟩:=AbC hs (a:=a0) (by omega) hk
  dsimp only;refine .dec (λhlt=>?_) λhge=>.lft ?_
  ·have hlt:k<f.Slots.length:=by omega
   have e:ixO f.Slots (k:Int)=some f.Slots[k]:=by simp_all
   obtain⟨h1,h2,h3,h4⟩:=hs.2 _ (aAF hlt);obtain⟨u1,u2,_⟩:=UW (n:=(plK f.Slots a0 k).2) (a:=f.Slots[k].Align) (by have:=h1.rng;omega)
   simp only[e,aA];rw[Ass (by omega) (by omega) h1,aA]
   rw[wrap64 (n:=2147483519-f.Slots[k].Size) (by omega) (by omega),decide_eq_false (by omega),cond_false]
   refine .chk (by simp;omega) (.chk (by simp;omega) ?_)
   rw[e,aA,NQ (by omega),wrap64 (by omega) (by omega)]
   exact .cnt ⟨⟨k+1,by grind [AbD,Aed],hlt⟩,by grind⟩
  ·have:k=f.Slots.length:=by omega
   subst this;obtain⟨u1,u2,_⟩:=UW (n:=(plK f.Slots a0 f.Slots.length).2) (a:=al) (by have:=ha.rng;omega)
   rw[Ass (by omega) (by omega) ha,aA]
   rw[decide_eq_false (by omega),cond_false]
   exact .pure rfl
 obtain⟨r,h,rfl⟩:=this;exact h
structure Aug (p:NL) (i:Int) (f:NI) (al:Int):Prop where
 hi:ixO p.Funcs i=some f
 arg:ZR p f
 slots:Zx f.Slots
 alok:QA al
 al16:16<=al
 al64:al<=16777216
 len':f.Code.length<=10000
def AgJ (f:NI) (y:NT) (k:Nat):Prop:=∃ o s,y.Off[k]? =some o/\f.Slots[k]? =some s/\y.Args<=o/\o.tmod s.Align=0/\InI ⟨o,s.Size⟩ y.Size
def Tg (p:NL) (f:NI) (al:Int) (y:NT):Prop :=
 y.Args=16*PY p f f.Code.length/\y.Off.length=f.Slots.length/\(∀ k:Nat,k<f.Slots.length->AgJ f y k)/\y.Size.tmod al=0/\y.Args<=y.Size/\y.Size<=(PG p f al).Size
theorem Amo {s:List Og} {a:Int}:∀ {k:Nat},k<=s.length->(plK s a k).1.length=k
 | 0,_=>by simp[plK]
 | k+1,hk=>by
  have ih:=Amo (s:=s) (a:=a) (k:=k) (by omega)
  grind [AbD,Aed]
theorem Aqb {s:List Og} {a:Int} {j:Nat} (hj:j<s.length):∀ {k:Nat},j<k->k<=s.length->(plK s a k).1[j]? =some (upN (plK s a j).2 s[j].Align)
 | 0,h,_=>absurd h (aAI _)
 | k+1,h,hk=>by
  rw[AbD hk];have hl:=Amo (a:=a) (show k<=s.length by omega)
  unfold Aed
  by_cases e:j=k
  ·simp_all
  ·rw[aAQ (by omega)]
   exact Aqb hj (by omega) (by omega)
theorem Aqa {s:List Og} {j:Nat} (hj:j<s.length):(plK s a (j+1)).2=upN (plK s a j).2 s[j].Align+s[j].Size:=by rw[AbD hj];rfl
theorem Aku {s:List Og} (h:Zx s) {a:Int} {j:Nat}:∀ {k:Nat},j<=k->k<=s.length->(plK s a j).2<=(plK s a k).2
 | 0,h,_=>by simp_all
 | k+1,hjk,hk=>by
  by_cases e:j=k+1
  ·simp_all
  have ih:=Aku h (a:=a) (j:=j) (k:=k) (by omega) (by omega)
  obtain⟨h1,h2,h3,h4⟩:=h.2 _ (aAF hk);obtain⟨u1,u2,_⟩:=UW (n:=(plK s a k).2) (a:=s[k].Align) (by have:=h1.rng;omega)
  grind [Aqa]
section
variable {p:NL} {i:Int} {f:NI} {al:Int} (h:Aug p i f al)
 include h
theorem Asr (y:NT):Hs (Ww p i al y) λe=>(e=0\/e=13)/\(e=0↔Tg p f al y):=by
 have hal:=h.al16;have hsl:=h.slots.1;have no:∀ {Q:Prop},(Tg p f al y->False)->Hs (some (13:Int)) λe=>(e=0\/e=13)/\(e=0↔Tg p f al y):=λhn=>.pure ⟨.inr rfl,⟨λh=>(by cases h),λh=>(hn h).elim⟩⟩
 unfold Ww;rw[Ahm h.hi h.len' h.arg h.slots h.alok h.al64,aA,h.hi,aA,AoL h.hi h.len' h.arg,aA];simp only[bne_self_eq_false,cond_false];refine .bne (λhA=>no (Q:=True) λhq=>hA hq.1) λhA=>.bne (λhL=>no (Q:=True) λhq=>hL (by rw[hq.2.1])) λhL=>?_
 have hL:y.Off.length=f.Slots.length:=by omega
 refine Hs.loop (λq=>∃ k:Nat,q=(k:Int)/\k<=f.Slots.length/\∀ j<k,AgJ f y j) (λq=>f.Slots.length-q.toNat) ⟨0,rfl,aAE _,λj hj=>absurd hj (aAI _)⟩ ?_
 rintro _ ⟨k,rfl,hk,hall⟩;refine .dec (λhlt=>?_) λhge=>.lft ?_
 ·have hlt:k<f.Slots.length:=by omega
  have eo:y.Off[k]? =some (y.Off[k]'(by omega)):=aAA _
  have es:f.Slots[k]? =some f.Slots[k]:=aAA _;have hs:=(h.slots.2 _ (aAF hlt)).1.rng;generalize(y.Off[k]'(by omega))=o at eo
  generalize f.Slots[k]=s at es hs;have key:AgJ f y k↔y.Args<=o/\o.tmod s.Align=0/\InI ⟨o,s.Size⟩ y.Size:=by
   grind [AgJ]
  simp only[PE,eo,es,aA,Ane];refine .dec (λh1=>.lft (no (Q:=True) λhq=>?_)) λh1=>.chk (by omega) (.bne (λh2=>.lft (no (Q:=True) λhq=>?_)) λh2=>.cond (λh3=>.lft (no (Q:=True) λhq=>?_)) λh3=>?_)
  ·have:=key.1 (hq.2.2.1 k hlt);omega
  ·exact h2 (key.1 (hq.2.2.1 k hlt)).2.1
  ·rw[decide_eq_true (key.1 (hq.2.2.1 k hlt)).2.2]at h3;cases h3
  ·rw[NQ (by omega)]
   refine .cnt ⟨⟨k+1,rfl,hlt,λj hj=>?_⟩,by grind⟩
   grind
 ·have hkk:k=f.Slots.length:=by omega
  subst hkk;refine .chk (by omega) (.bne (λh1=>no (Q:=True) λhq=>h1 hq.2.2.2.1) λh1=>.dec (λh2=>no (Q:=True) λhq=>?_) λh2=>.dec (λh3=>no (Q:=True) λhq=>?_) λh3=>.pure ⟨.inl rfl,⟨λ_=>⟨hA,hL,hall,h1,?_,?_⟩,λ_=>rfl⟩⟩)
  ·have:=hq.2.2.2.2.1;omega
  ·have:=hq.2.2.2.2.2;grind
  all_goals simp_all
theorem Aia:(plK f.Slots (16*PY p f f.Code.length) f.Slots.length).2<=(PG p f al).Size/\(PG p f al).Size<(plK f.Slots (16*PY p f f.Code.length) f.Slots.length).2+al/\(PG p f al).Size.tmod al=0/\0<=16*PY p f f.Code.length/\16*PY p f f.Code.length<=(plK f.Slots (16*PY p f f.Code.length) f.Slots.length).2/\(PG p f al).Size<=1000000000:=by
 have hr:=Xk h.arg (k:=f.Code.length) (aAR _);have hsl:=h.slots.1;have h16:=h.al16;have h64:=h.al64;have hp:=AbC h.slots (a:=16*PY p f f.Code.length) (by omega) (aAR _)
 obtain⟨u1,u2,u3⟩:=UW (n:=(plK f.Slots (16*PY p f f.Code.length) f.Slots.length).2) (a:=al) (by omega)
 refine⟨u1,u2,?_,by omega,hp.2.1,?_⟩
 ·show(upN _ al).tmod al=0
  grind
 ·show upN _ al<=1000000000;omega
theorem Atb (hk:k<f.Slots.length):∃ o,(PG p f al).Off[k]? =some o/\(plK f.Slots (16*PY p f f.Code.length) k).2<=o/\o+f.Slots[k].Size=(plK f.Slots (16*PY p f f.Code.length) (k+1)).2/\o.tmod f.Slots[k].Align=0:=by
 have hr:=Xk h.arg (k:=f.Code.length) (aAR _);have hp:=AbC h.slots (a:=16*PY p f f.Code.length) (by omega) (show k<=f.Slots.length by omega)
 obtain⟨h1,h2,h3,h4⟩:=h.slots.2 _ (aAF hk);obtain⟨u1,u2,u3⟩:=UW (n:=(plK f.Slots (16*PY p f f.Code.length) k).2) (a:=f.Slots[k].Align) (by have:=h1.rng;omega)
 refine⟨_,Aqb hk hk (aAR _),u1,(Aqa hk).symm,?_⟩
 grind
theorem AkU:Tg p f al (PG p f al):=by
 obtain⟨b1,b2,b3,b4,b5,b6⟩:=Aia h;refine⟨rfl,Amo (aAR _),λk hk=>?_,b3,?_,aAW _⟩
 ·obtain⟨o,e1,e2,e3,e4⟩:=Atb h hk;have m1:=Aku h.slots (a:=16*PY p f f.Code.length) (j:=0) (k:=k) (by omega) (by omega)
  have m2:=Aku h.slots (a:=16*PY p f f.Code.length) (j:=k+1) (k:=f.Slots.length) hk (aAR _);have m0:(plK f.Slots (16*PY p f f.Code.length) 0).2=16*PY p f f.Code.length:=rfl;have hs:=(h.slots.2 _ (aAF hk)).2.2;refine⟨o,f.Slots[k],e1,aAA _,?_,e4,⟨?_,?_⟩⟩
  ·show 16*PY p f f.Code.length<=o;omega
  ·refine⟨?_,?_,?_,?_,?_⟩<;>simp only<;>omega
  grind
 ·show 16*PY p f f.Code.length<=_;omega
end
open Go Go.Dw Go.Proofs
theorem QA.max {b:Int} (ha:QA a) (hb:QA b):QA (Ph a b):=by grind [Ph]
theorem AtS {B:Int} (hB:16<=B) {s:List Og} (hl:s.length<=512) (h:∀ x∈s,QA x.Align/\x.Align<=B):Hs (TI s) λa=>QA a/\16<=a/\a<=B:=by
 have a16:QA 16:=Wn 4 (by omega)
 unfold TI;refine(AiZ s).bind λe he=>.bne (λ_=>.pure ⟨a16,by omega,by omega⟩) λ_=>?_
 refine Hs.loop (λq=>∃ k:Nat,q.2=(k:Int)/\k<=s.length/\QA q.1/\16<=q.1/\q.1<=B) (λq=>s.length-q.2.toNat) ⟨0,rfl,aAE _,a16,by omega,by omega⟩ ?_
 rintro⟨a,_⟩ ⟨k,rfl,hk,h1,h2,h3⟩;replace h2:16<=a:=h2;replace h3:a<=B:=h3;unfold YN;dsimp only;refine .dec (λhlt=>?_) λ_=>.lft (.pure ⟨h1,h2,h3⟩)
 have hlt:k<s.length:=by omega
 rw[NQ (by omega)]
 refine(Hs.ix (by omega) (by omega) λx hx=>h x (aAB hx)).bind λx hx=>.cnt ⟨⟨k+1,rfl,hlt,h1.max hx.1,?_,?_⟩,by grind⟩
 all_goals grind [Ph]
theorem AtF {B:Int} (hB:16<=B) (hp:p.Funcs.length<=1000) (h:∀ f∈p.Funcs,f.Slots.length<=512/\∀ x∈f.Slots,QA x.Align/\x.Align<=B):Hs (Qi p) λa=>QA a/\16<=a/\a<=B:=by
 have a16:QA 16:=Wn 4 (by omega)
 unfold Qi;refine Hs.loop (λq=>∃ k:Nat,q.2=(k:Int)/\k<=p.Funcs.length/\QA q.1/\16<=q.1/\q.1<=B) (λq=>p.Funcs.length-q.2.toNat) ⟨0,rfl,aAE _,a16,by omega,by omega⟩ ?_
 rintro⟨a,_⟩ ⟨k,rfl,hk,h1,h2,h3⟩;replace h2:16<=a:=h2;replace h3:a<=B:=h3;unfold AbH;dsimp only;refine .dec (λhlt=>?_) λ_=>.lft (.pure ⟨h1,h2,h3⟩)
 have hlt:k<p.Funcs.length:=by omega
 rw[NQ (by omega)]
 refine(Hs.ix (by omega) (by omega) λx hx=>h x (aAB hx)).bind λx hx=>(AtS hB hx.1 hx.2).bind λb hb=>.cnt ⟨⟨k+1,rfl,hlt,h1.max hb.1,?_,?_⟩,by grind⟩
 all_goals grind [Ph]
theorem Sc.args {i most:Int} (h:Sc ps i most f) (hi:0<=i) (hl:p.Funcs.length=ps.length) (hps:Ajf ps) (hall:∀ (j:Nat) g,p.Funcs[j]? =some g->Sc ps j most g):ZR p f:=by
 intro x hx;obtain⟨k,hk⟩:=aAH hx;have hkl:=(aAC.1 hk).1
 by_cases hk1:k+1<f.Code.length
 ·have hins:=h.body k x hk hk1;cases hins with
  | call j h0 h1 =>
   refine⟨λe=>by simp at e,λ_=>⟨by grind,?_⟩⟩
   have hg:p.Funcs[j.toNat]? =some (p.Funcs[j.toNat]'(by omega)):=aAA _
   have:=(hall _ _ hg).par;have:=hps.1 _ (aAB this)
   grind
  | arg a b h0 h1 h2=>grind
  | bin op a b c h1 h2 h3 h4 h5 h6=>grind
  | un op a h1 h2=>grind
  | _=>exact⟨λe=>by simp at e,λe=>by simp at e⟩
 ·have he:=h.last x (by grind)
  rcases he with rfl|⟨w,_,rfl⟩<;>exact⟨λe=>by simp at e,λe=>by simp at e⟩
structure AeJ (p:NL) (i:Int) (f:NI) (al:Int):Prop where
 hi:ixO p.Funcs i=some f
 arg:ZR p f
 slots:Zx f.Slots
 alok:QA al
 al16:16<=al
 al64:al<=16777216
 SI:OL f
 defs:QZ f
 ml:Yl f
theorem AeJ.bas {i:Int} {al:Int} (h:AeJ p i f al):Aug p i f al:=⟨h.hi,h.arg,h.slots,h.alok,h.al16,h.al64,h.SI.len'⟩
section
variable {p:NL} {i:Int} {f:NI} {al:Int} (h:AeJ p i f al)
 include h
theorem AjY (y:NT):Hs (Ww p i al y) λe=>(e=0\/e=13)/\(e=0↔Tg p f al y):=Asr h.bas y
end
open Go Go.Dw Go.Proofs
def Acr (n:Nat) (f:NI):Prop:=∀ x∈f.Code,x.Op=22->0<=x.A/\x.A<n
theorem ApJ {n:Nat} (h:Acr n f) {keep:List Bool} {pl:List Int} (hk:f.Code.length<=keep.length):∀ x∈UM f keep to pl f.Code.length,x.Op=22->0<=x.A/\x.A<n:=by
 intro x hx hop;obtain⟨p,hp⟩:=aAH hx;obtain⟨j,h1,_,_,rfl⟩:=(Vp (f:=f) (keep:=keep) (to:=to) (pl:=pl) _ hk).2 p x hp;have hm:NO f (j:Nat)∈f.Code:=by
  grind [NO]
 have ho:(mvI pl (rnI to (NO f (j:Nat)))).Op=(NO f (j:Nat)).Op:=by
  refine Eq.trans ?_ (AcR to _)
  grind [mvI]
 rw[ho]at hop;have e:mvI pl (rnI to (NO f (j:Nat)))=NO f (j:Nat):=by grind [mvI,rnI]
 rw[e];exact h _ hm hop
theorem Apj (hf:OL f) (hd:QZ f) (hlast:TO f) {n:Nat} (hc:Acr n f) (hr:Tf f r):Hs (QJ f r) λq=>q.2=0/\OL q.1/\QZ q.1/\Acr n q.1:=by
 obtain⟨q,e,h1,h2,h3⟩:=AkT hf hd hlast hr;obtain⟨q',e',_,used,to,pl,_,_,_,_,_,_,_,_,cd⟩:=Akh hf hd hr;rw[e]at e';cases e';refine⟨q,e,h1,h2,h3,?_⟩;unfold Acr;rw[cd];exact ApJ hc (by rw[hr.2.1];omega)
section
variable {p:NL} {i:Int} {f:NI}
theorem Xy.AwL (hs:∀ x∈f.Slots,Aay x) (htl:r.To.length=f.Slots.length) {out:List Og} (h:Xy f r used out):∀ y∈out,Aay y:=by
 intro y hy;obtain⟨j,hj⟩:=aAH hy;have hjl:=(aAC.1 hj).1;have hu:used[j]? =some (used[j]'(by rw[<- h.len];exact hjl)):=aAA _
 obtain⟨x,l,h1,h2,h3,h4⟩:=h.at_ j _ y hu hj;have hx:=hs x (aAB h1);unfold Aay;rw[h2];refine⟨hx.1,?_⟩;rcases h4.2.2 with e|⟨t,ht,e⟩
 ·rw[e];exact hx.2
 ·obtain⟨k,hk,rfl,_⟩:=(h3 t).1 ht;have hs':f.Slots[k]? =some (f.Slots[k]'(by omega)):=aAA _
  have:alS f (k:Int)=(f.Slots[k]'(by omega)).Align:=by grind [alS]
  rw[e,this];exact(hs _ (aAF _)).2
theorem AmR (pl:List Int) (x:NJ):(mvI pl x).Op=x.Op:=by
 grind [mvI]
theorem Apk {pl:List Int} (h:x.Op=18\/x.Op=22):mvI pl (rnI to x)=x:=by
 have e:rnI to x=x:=by
  unfold rnI
  grind
 rw[e];unfold mvI
 grind
theorem ApL {q:NI} (hi:ixO p.Funcs i=some f) (hq:q.Params=f.Params) (a:Nat):((p.Funcs.set i.toNat q)[a]?).map NI.Params=(p.Funcs[a]?).map NI.Params:=by
 obtain⟨i0,i1,h⟩:=Xn hi
 grind
end
theorem AdQ.AvF (hf:OL f) (hd:QZ f) (hml:Yl f) (hr:Tf f r) {q:NI} (hx:AdQ f r (q,0)):Yl q:=by
 obtain⟨_,_,used,to,pl,hu,hsx,hn,hpl,hcode⟩:=hx;have hsx:Xy f r used q.Slots:=hsx;have hcode:q.Code=UM f r.Keep to pl f.Code.length:=hcode;have hrl:=hr.1.1;have hsl:=hf.slots;intro y hy hop;rw[hcode]at hy;obtain⟨pn,hp⟩:=aAH hy;obtain⟨j,hj,hk,_,rfl⟩:=(Vp (f:=f) (keep:=r.Keep) (to:=to) (pl:=pl) _ (by rw[hr.2.1];omega)).2 pn y hp
 have hm:=(hf.at (j:=(j:Int)) (by omega) (by omega)).2
 rw[AmR,AcR]at hop;obtain⟨a0,a1,b0,b1,hsz⟩:=hml _ hm hop;have one:∀ s:Int,s∈Pl (NO f (j:Nat))->0<=rnS to s/\rnS to s<q.Slots.length/\Qj q (rnS to s)=Qj f s:=λs hs=>by
  obtain⟨h0,h1⟩:=AeT hf hd hm hs;have hrn:=AcJ hf hd hr.1 hm (rnS r.To s) ((AbA _ _ _).2 ⟨s,hs,rfl⟩);have hmu:rnS r.To s∈used:=(hu.2 _).2 ⟨⟨hrn.1,by omega⟩,j,hj,hk,(AbA _ _ _).2 ⟨s,hs,rfl⟩⟩
  rw[(hr.1.rng h0 h1).2.2]at hmu;have hg:=So (to:=to) (s:=s) h0 (by have:=hn.1;omega)
  have e:rnS to s=Oq to s:=by unfold rnS;grind
  have hn2:=hn.2 s.toNat _ hg;rw[aAV h0]at hn2;obtain⟨q0,q1⟩:=hn2 hmu;rw[e];have hlt:=(aAC.1 q1).1;have hql:(Oq to s).toNat<q.Slots.length:=by rw[hsx.len];exact hlt
  have hqs:q.Slots[(Oq to s).toNat]? =some q.Slots[(Oq to s).toNat]:=aAA _;obtain⟨x,l,x1,x2,_,_⟩:=hsx.at_ _ _ _ q1 hqs;refine⟨q0,by omega,?_⟩
  have hsz2:=(hr.1.2 s.toNat (by omega)).2.2.1
  grind [Qj]
 have eA:(mvI pl (rnI to (NO f (j:Nat)))).A=rnS to (NO f (j:Nat)).A:=by
  simp_all[mvI,rnI]
 have eB:(mvI pl (rnI to (NO f (j:Nat)))).B=rnS to (NO f (j:Nat)).B:=by
  simp_all[mvI,rnI]
 simp_all[Pl,QQ]
end Go.Proofs.YtmmchhpdaogopaaGreatDoor
