/-
  Plain laws about the typed programs.
-/
import Derived.Test.YtcaoepecbgggcaaGreatDoorDxP
open Bool renaming cond_eq_ite->aAG,not_true->aAf
open Classical renaming byContradiction->aAe
open Int renaming toNat_natCast->aAD,toNat_of_nonneg->aAU,le_refl->aAW,mul_le_mul_of_nonneg_left->aAi,emod_lt_of_pos->aAj,tmod_eq_emod_of_nonneg->aAl,dvd_of_emod_eq_zero->aAo,emod_nonneg->aAq
open Go.IntKind renaming signed->aAt,bits->aAx
open List renaming getElem?_eq_getElem->aAA,mem_of_getElem?->aAB,getElem?_eq_some_iff->aAC,getElem_mem->aAF,getElem?_of_mem->aAH,mem_cons_self->aAJ,mem_cons_of_mem->aAK,mem_append->aAM,mem_singleton->aAN,getElem?_eq_none->aAO,getElem?_append_left->aAP,pairwise_cons->aAR,ext_getElem?->aAS,drop_eq_getElem_cons->aAT,length_eq_zero_iff->aAV,take_of_length_le->aAX,take_add_one->aAY,take_length->aAZ,getElem?_set_ne->aAa,mem_filter->aAc,mem_or_eq_of_mem_set->aAd,take_succ_eq_append_getElem->aAg,range_succ->aAh,mem_cons->aAk,pairwise_iff_getElem->aAm,foldlM_cons->aAn,append_nil->aAp,getElem?_set_self->aAr,set_getElem_self->aAu,replicate->aAv
open Nat renaming zero_le->aAE,not_lt_zero->aAI,le_refl->aAQ,pow_le_pow_right->aAb
open Option renaming bind_some->aA,bind_eq_some_iff->aAL,map_eq_some_iff->aAs,bind_eq_bind->aAw
namespace Go.Dw
section
variable {ι R α:Type} {body:ι->Option (ι⊕R)} {v:R}
theorem SC {α β:Type} (s:List α) (mk:β->Int->ι) (I:β->Nat->Prop) (F:β->List α->Option R)
  (hnil:∀ acc,I acc s.length->∃ v,body (mk acc s.length)=some (.inr v)/\F acc []=some v)
  (hcons:∀ acc (i:Nat) x r,I acc i->s.drop i=x::r->i<s.length->s[i]? =some x ->
   (∃ acc',I acc' (i+1)/\body (mk acc i)=some (.inl (mk acc' ((i+1:Nat):Int)))/\F acc (x::r)=F acc' r)\/(∃ v,body (mk acc i)=some (.inr v)/\F acc (x::r)=some v))
  (acc:β) (h0:I acc 0):NA body (mk acc 0)=F acc s:=by
 have:∀ k i acc,i+k=s.length->I acc i->NA body (mk acc (i:Nat))=F acc (s.drop i):=by
  intro k
  induction k with
  | zero =>
   intro i acc hi hI;simp only[Nat.add_zero]at hi
   grind [Vo]
  | succ k ih =>
   grind [aAT,Vo]
 have:=this s.length 0 acc (by omega) h0
 simp_all
@[simp] theorem NT (l:List α) (i:Nat):ixO l (i:Int)=l[i]?:=by
 unfold ixO;rw[if_neg (by omega)]
 simp
theorem OZ (l:List α) {i:Int} (h:0<=i):ixO l i=l[i.toNat]?:=by
 simp_all[ixO,if_neg]
@[simp] theorem Azu (l:List α) (i:Nat):ixO l ((i:Int)+1)=l[i+1]?:=by
 have:=NT l (i+1);simpa using this
@[simp] theorem AvZ (l:List α):ixO l 0=l[0]?:=OZ l (aAW 0)
theorem wrap64 {n:Int} (h0: -9223372036854775808<=n) (h1:n<=9223372036854775807):IntKind.i64.wrap n=n:=Alj h0 h1
@[simp] theorem AzH:IntKind.i64.wrap 0=0:=by decide
@[simp] theorem AzI:IntKind.i64.wrap 1=1:=by decide
@[simp] theorem AzJ:IntKind.i64.wrap 2=2:=by decide
@[simp] theorem AzK:IntKind.i64.wrap 3=3:=by decide
theorem Nw {i:Nat} (h:i<9223372036854775807):IntKind.i64.wrap ((i:Int)+1)=((i+1:Nat):Int):=by
 grind [wrap64]
@[simp] theorem Azw (r:R):(lft (some r):Option (ι⊕R))=some (.inr r):=rfl
@[simp] theorem Azv:(lft none:Option (ι⊕R))=none:=rfl
@[simp] theorem Axq (s:ι):(cnt s:Option (ι⊕R))=some (.inl s):=rfl
theorem Aop (a b:Int):OA a b=max a b:=by grind [OA]
theorem AxG (a b:Int):Tw a b=min a b:=by grind [Tw]
end
open Go
variable {i:Int}
def Hs {α:Type} (m:Option α) (P:α->Prop):Prop:=∃ r,m=some r/\P r
section
variable {α β ι R:Type}
theorem Hs.pure {a:α} {P:α->Prop} (h:P a):Hs (some a) P:=⟨a,rfl,h⟩
theorem Hs.bind {m:Option α} {f:α->Option β} {P:α->Prop} {Q:β->Prop} (h:Hs m P) (hf:∀ r,P r->Hs (f r) Q):Hs (m.bind f) Q:=by
 obtain⟨r,rfl,hr⟩:=h;simp_all
theorem Hs.mono {m:Option α} {P Q:α->Prop} (h:Hs m P) (hf:∀ r,P r->Q r):Hs m Q:=by
 obtain⟨r,h1,hr⟩:=h;exact⟨r,h1,hf r hr⟩
theorem Hs.chk {p:Prop} [Decidable p] {m:Option α} {P:α->Prop} (hp:p) (h:Hs m P):Hs (chk p m) P:=by
 grind [Oa]
theorem Hs.cond {b:Bool} {x y:Option α} {P:α->Prop} (h1:b=true->Hs x P) (h2:b=false->Hs y P):Hs (bif b then x else y) P:=by
 grind
theorem Hs.dec {p:Prop} [Decidable p] {x y:Option α} {P:α->Prop} (h1:p->Hs x P) (h2:¬ p->Hs y P):Hs (bif decide p then x else y) P :=
 Hs.cond (λh=>h1 (of_decide_eq_true h)) (λh=>h2 (of_decide_eq_false h))
theorem Hs.beq {a b:Int} {x y:Option α} {P:α->Prop} (h1:a=b->Hs x P) (h2:a≠b->Hs y P):Hs (bif a==b then x else y) P :=
 Hs.cond (λh=>h1 (by simp_all)) (λh=>h2 (by simp_all))
theorem Hs.bne {a b:Int} {x y:Option α} {P:α->Prop} (h1:a≠b->Hs x P) (h2:a=b->Hs y P):Hs (bif a != b then x else y) P :=
 Hs.cond (λh=>h1 (by simp_all)) (λh=>h2 (by simp_all))
theorem Hs.cnt {s:ι} {P:ι⊕R->Prop} (h:P (.inl s)):Hs (Go.Dw.cnt s) P:=⟨_,rfl,h⟩
theorem Hs.lft {m:Option R} {P:ι⊕R->Prop} (h:Hs m λr=>P (.inr r)):Hs (Go.Dw.lft m) P:=by
 obtain⟨r,rfl,h⟩:=h;exact⟨_,rfl,h⟩
def Rnd (I:ι->Prop) (μ:ι->Nat) (s:ι) (Q:R->Prop):ι⊕R->Prop
 | .inl s'=>I s'/\μ s'<μ s
 | .inr r=>Q r
theorem Hs.loop {body:ι->Option (ι⊕R)} {s:ι} {Q:R->Prop} (I:ι->Prop) (μ:ι->Nat) (h0:I s) (hb:∀ s,I s->Hs (body s) (Rnd I μ s Q)):Hs (NA body s) Q:=by
 refine AtE I Q μ h0 λs hs=>?_
 obtain⟨z,hz,hq⟩:=hb s hs;cases z with
 | inl s'=>exact .inl ⟨s',hz,hq⟩
 | inr r=>exact .inr ⟨r,hz,hq⟩
theorem Hs.get {l:List α} {P:α->Prop} (h0:0<=i) (h1:i<l.length) (h:∀ x,l[i.toNat]? =some x->P x):Hs (l[i.toNat]?) P:=by
 have:l[i.toNat]? =some (l[i.toNat]'(by omega)):=aAA _
 exact⟨_,this,h _ this⟩
theorem Hs.ix {l:List α} {P:α->Prop} (h0:0<=i) (h1:i<l.length) (h:∀ x,l[i.toNat]? =some x->P x):Hs (ixO l i) P:=by
 grind [OZ,Hs.get]
end
theorem Alh (n:Int):0<=IntKind.u64.wrap n/\IntKind.u64.wrap n<18446744073709551616:=by
 grind [IntKind.wrap,aAt,aAx]
end Go.Dw
namespace Go.Proofs.YtcaoepecbgggcaaGreatDoor
open Go Go.Dw Go.Proofs
attribute [local simp] Oa aAG
variable {s l ps:List Int} {i k:Nat} {x:Lo} {c:Mk} {f:Nn} {sl:List NB} {code:List Lo} {most:Int} {g:List (List Int)}
theorem Aof (n:Int):Wu n=some (decide (0<=n/\n<512)):=by
 grind [Wu]
theorem AkB {n:Int} (h:0<=n/\n<512):Wu n=some true:=by grind [Aof]
theorem Atd {n:Int} (h:¬ (0<=n/\n<512)):Wu n=some false:=by grind [Aof]
theorem Afj (s:List Int) (n:Int) (hs:s.length<=9223372036854775807):Ws s n=some (decide (n∈s)):=by
 refine SC s (λ(_:Unit) i=>i) (λ_ _=>True) (λ_ l=>some (decide (n∈l))) (λ_ _=>⟨_,by simp[Zo],rfl⟩) (λ_ i x r _ hd hi hx=>?_) () trivial
 have w:=Nw (show i<9223372036854775807 by omega)
 by_cases h:x=n
 ·simp_all[Zo]
 ·refine .inl ⟨(),trivial,?_,?_⟩
  ·simp_all[Zo]
  grind
def UB (n:Int):List Int->List Int
 | []=>[n]
 | x::r=>if x<n then x::UB n r else if x=n then x::r else n::x::r
theorem AlX (n:Int):∀ s,(UB n s).length<=s.length+1
 | []=>by simp[UB]
 | x::r=>by
  have:=AlX n r
  grind [UB]
def Rf (n:Int) (s:List Int):List Int:=if 0<=n/\n<512 then UB n s else s
theorem add_eq (s:List Int) (n:Int) (hs:s.length<=1000000):Tp s n=some (Rf n s):=by
 unfold Tp Rf;rw[Aof];simp only[aA];have key:∀ d:Bool,NA (λs_1:List Int×Bool×Int=>Sl s n s_1.1 s_1.2.1 s_1.2.2) ([],d,0)=some (if d then s else UB n s):=by
  intro d;have:=SC (body:=λs_1:List Int×Bool×Int=>Sl s n s_1.1 s_1.2.1 s_1.2.2) s (λ(p:List Int×Bool) i=>(p.1,p.2,i)) (λp i=>p.1.length<=i+(if p.2 then 1 else 0)) (λp l=>some (p.1++(if p.2 then l else UB n l)))
   (λp hp=>by
    obtain⟨out,done⟩:=p;cases done<;>simp only[if_true,Bool.false_eq_true,if_false]at hp
    ·exact⟨out++[n],by simp[Sl,show out.length<=16777215 by omega],by simp[UB]⟩
    simp_all[Sl])
   (λp i x r hp hd hi hx=>by
    obtain⟨out,done⟩:=p;have w:=Nw (show i<9223372036854775807 by omega)
    obtain⟨_,rfl⟩:=aAC.1 hx;left;cases done<;>simp only[if_true,Bool.false_eq_true,if_false]at hp
    ·by_cases h1:n<=s[i]
     ·by_cases h2:n<s[i]
      ·refine⟨(out++[n]++[s[i]],true),by simp;omega,?_,?_⟩
       ·simp[Sl,Up,Tb,hi,h1,h2,w,show out.length<=16777215 by omega,show out.length<=16777214 by omega]
       grind [UB]
      ·refine⟨(out++[s[i]],true),by simp;omega,?_,?_⟩
       ·simp[Sl,Up,Tb,hi,h1,h2,w,show out.length<=16777215 by omega]
       grind [UB]
     ·refine⟨(out++[s[i]],false),by simp;omega,?_,?_⟩
      ·simp[Sl,Up,Tb,hi,h1,w,show out.length<=16777215 by omega]
      grind [UB]
    ·refine⟨(out++[s[i]],true),by simp;omega,?_,?_⟩
     ·simp[Sl,Up,Tb,hi,w,show out.length<=16777215 by omega]
     ·simp)
   ([],d) (by simp)
  simp_all
 grind
def Vp:Option Int->List Int->Bool
 | _,[]=>true
 | p,x::r=>decide (0<=x/\x<512)&&(match p with|none=>true|some y=>decide (y<x))&&Vp (some x) r
theorem Amm (s:List Int) (hs:s.length<=9223372036854775807):Yv s=some (Vp none s):=by
 refine SC s (λ(_:Option Int) i=>i) (λp i=>match i with|0=>p=none|k+1=>s[k]? =p/\p≠none) (λp l=>some (Vp p l)) (λ_ _=>⟨true,by simp[TK],by simp[Vp]⟩) (λp i x r hp hd hi hx=>?_) none rfl
 obtain⟨_,rfl⟩:=aAC.1 hx
 by_cases hg:0<=s[i]/\s[i]<512
 ·cases i with
  | zero =>
   subst hp;exact .inl ⟨some s[0],⟨hx,by simp⟩,by simp[TK,hi,AkB hg],by grind [Vp]⟩
  | succ k =>
   obtain⟨hp,hpn⟩:=hp;have hk:k<s.length:=by omega
   rw[aAA hk]at hp;subst hp;have w:IntKind.i64.wrap ((k:Int)+1+1)=(k:Int)+1+1:=wrap64 (by omega) (by omega)
   have wp:IntKind.i64.wrap (k:Int)=k:=wrap64 (by omega) (by omega)
   have e0:(k:Int)+1-1=k:=by omega
   by_cases hlt:s[k]<s[k+1]
   ·exact .inl ⟨some s[k+1],⟨hx,by simp⟩,by simp[TK,hi,AkB hg,w,wp,e0,hk,show ¬ s[k+1]<=s[k]by omega,show(0:Int)<k+1 by omega,show(k:Int)+1<s.length by omega],by grind [Vp]⟩
   ·exact .inr ⟨false,by simp[TK,hi,AkB hg,w,wp,e0,hk,show s[k+1]<=s[k]by omega,show(0:Int)<k+1 by omega,show(k:Int)+1<s.length by omega],by grind [Vp]⟩
 ·exact .inr ⟨false,by simp_all[TK,Atd],by grind [Vp]⟩
def OB (s:List Int):Prop:=s.Pairwise (· <·)/\∀ x∈s,0<=x/\x<512
theorem Aqn:∀ (p:Option Int) (s:List Int),Vp p s=true↔OB s/\∀ y,p=some y->∀ x∈s,y<x
 | p,[]=>by simp[Vp,OB]
 | p,x::r=>by
  simp only[Vp,Bool.and_eq_true,Aqn (some x) r,decide_eq_true_eq,OB,aAR,aAk,forall_eq_or_imp,Option.some.injEq]
  grind
theorem Acx (s:List Int):Vp none s=true↔OB s:=by
 grind [Aqn]
theorem OB.length_le (h:OB s):s.length<=512:=by
 have:∀ (s:List Int) (a:Int),s.Pairwise (· <·)->(∀ x∈s,a<=x/\x<512)->a<=512->(s.length:Int)<=512-a:=by
  intro s
  induction s with
  | nil=>simp_all
  | cons x r ih =>
   intro a hp hb ha;rw[aAR]at hp;have hx:=hb x (by simp)
   have:=ih (x+1) hp.2 (λy hy=>⟨by grind,(hb y (by simp[hy])).2⟩) (by omega)
   grind
 have:=this s 0 h.1 h.2 (by omega)
 omega
theorem AcH (n m:Int):∀ s,m∈UB n s↔m=n\/m∈s
 | []=>by simp[UB]
 | x::r=>by
  simp only[UB];split
  ·simp only[aAk,AcH n m r]
   grind
  grind
theorem OB.UB {n:Int} (h:OB s) (hn:0<=n/\n<512):OB (Proofs.YtcaoepecbgggcaaGreatDoor.UB n s):=by
 refine⟨?_,λx hx=>?_⟩
 ·replace h:=h.1;clear hn
  induction s<;>grind [Proofs.YtcaoepecbgggcaaGreatDoor.UB,aAR,AcH]
 ·rw[AcH]at hx;rcases hx with rfl|hx
  ·exact hn
  ·exact h.2 x hx
theorem OB.nil:OB []:=⟨List.Pairwise.nil,λx hx=>by cases hx⟩
theorem AgN (n:Int):Ql n=some (decide (0<=n/\n<512)):=by
 grind [Ql]
theorem Ahp {n:Int} (h:0<=n/\n<512):Ql n=some true:=by grind [AgN]
theorem Arz {n:Int} (h:¬ (0<=n/\n<512)):Ql n=some false:=by grind [AgN]
theorem AoY (s:List Int) (hs:s.length<=9223372036854775807):YV s=some (Vp none s):=by
 refine SC s (λ(_:Option Int) i=>i) (λp i=>match i with|0=>p=none|k+1=>s[k]? =p/\p≠none) (λp l=>some (Vp p l)) (λ_ _=>⟨true,by simp[SP],by simp[Vp]⟩) (λp i x r hp hd hi hx=>?_) none rfl
 obtain⟨_,rfl⟩:=aAC.1 hx
 by_cases hg:0<=s[i]/\s[i]<512
 ·cases i with
  | zero =>
   subst hp;exact .inl ⟨some s[0],⟨hx,by simp⟩,by simp[SP,hi,Ahp hg],by grind [Vp]⟩
  | succ k =>
   obtain⟨hp,hpn⟩:=hp;have hk:k<s.length:=by omega
   rw[aAA hk]at hp;subst hp;have w:IntKind.i64.wrap ((k:Int)+1+1)=(k:Int)+1+1:=wrap64 (by omega) (by omega)
   have wp:IntKind.i64.wrap (k:Int)=k:=wrap64 (by omega) (by omega)
   have e0:(k:Int)+1-1=k:=by omega
   by_cases hlt:s[k]<s[k+1]
   ·exact .inl ⟨some s[k+1],⟨hx,by simp⟩,by simp[SP,hi,Ahp hg,w,wp,e0,hk,show ¬ s[k+1]<=s[k]by omega,show(0:Int)<k+1 by omega,show(k:Int)+1<s.length by omega],by grind [Vp]⟩
   ·exact .inr ⟨false,by simp[SP,hi,Ahp hg,w,wp,e0,hk,show s[k+1]<=s[k]by omega,show(0:Int)<k+1 by omega,show(k:Int)+1<s.length by omega],by grind [Vp]⟩
 ·exact .inr ⟨false,by simp_all[SP,Arz],by grind [Vp]⟩
theorem AxV (a b:List Int) (h:a.length<=9223372036854775807):AbU a b=some (decide (a=b)):=by
 unfold AbU
 by_cases hl:a.length=b.length
 ·have:=SC (body:=λi:Int=>VV a b i) a (λ(_:List Int) i=>i) (λacc i=>b.drop i=acc) (λacc l=>some (decide (l=acc)))
   (λacc hacc=>⟨true,by simp[VV],by simp_all⟩) (λacc i x r hacc hd hi hx=>by
    have w:=Nw (show i<9223372036854775807 by omega)
    obtain⟨_,rfl⟩:=aAC.1 hx;have hib:i<b.length:=by omega
    have hdb:=aAT hib
    by_cases e:a[i]=b[i]
    ·exact .inl ⟨b.drop (i+1),rfl,by simp[VV,hi,hib,e,w],by rw[<- hacc,hdb];simp only[List.cons.injEq,e,true_and]⟩
    ·exact .inr ⟨false,by simp[VV,hi,hib,e],by rw[<- hacc,hdb];simp only[List.cons.injEq,e,false_and,decide_false]⟩)
   b (by simp)
  simp_all
 ·have:¬ a=b:=λe=>hl (by rw[e])
  grind
theorem Atv (a b:List (List Int)) (h:a.length<=9223372036854775807) (hr:∀ s∈a,s.length<=9223372036854775807):Yi a b=some (decide (a=b)):=by
 unfold Yi
 by_cases hl:a.length=b.length
 ·have:=SC (body:=λi:Int=>TL a b i) a (λ(_:List (List Int)) i=>i) (λacc i=>b.drop i=acc) (λacc l=>some (decide (l=acc)))
   (λacc hacc=>⟨true,by simp[TL],by simp_all⟩) (λacc i x r hacc hd hi hx=>by
    have w:=Nw (show i<9223372036854775807 by omega)
    obtain⟨_,rfl⟩:=aAC.1 hx;have hib:i<b.length:=by omega
    have hdb:=aAT hib;have hs:=AxV a[i] b[i] (hr _ (aAF _))
    by_cases e:a[i]=b[i]
    ·refine .inl ⟨b.drop (i+1),rfl,?_,by rw[<- hacc,hdb];simp only[List.cons.injEq,e,true_and]⟩
     rw[decide_eq_true e]at hs;simp[TL,hi,hib,hs,w]
    ·refine .inr ⟨false,?_,by rw[<- hacc,hdb];simp only[List.cons.injEq,e,false_and,decide_false]⟩
     rw[decide_eq_false e]at hs
     simp[TL,hi,hib,hs])
   b (by simp)
  simp_all
 ·have:¬ a=b:=λe=>hl (by rw[e])
  grind
theorem Apt (s:List Int) (n:Int) (hs:s.length<=16777215):Xv s n=some (s.filter (· != n)):=by
 unfold Xv;have:=SC (body:=λp:List Int×Int=>Uw s n p.1 p.2) s (λ(out:List Int) i=>(out,i)) (λout i=>out.length<=i) (λout l=>some (out++l.filter (· != n)))
  (λout _=>⟨out,by simp[Uw],by simp⟩) (λout i x r ho hd hi hx=>by
   have w:=Nw (show i<9223372036854775807 by omega)
   obtain⟨_,rfl⟩:=aAC.1 hx;left
   by_cases h:s[i]=n
   ·exact⟨out,by omega,by simp_all[Uw],by simp[h]⟩
   ·exact⟨out++[s[i]],by simp;omega,by simp[Uw,hi,h,w,show out.length<=16777215 by omega],by simp[h]⟩)
  [] (by simp)
 simp_all
def QT (a b:List Int):List Int:=b.foldl (λo x=>Rf x o) a
theorem ArD (n:Int) (s:List Int):(Rf n s).length<=s.length+1:=by
 grind [Rf,AlX]
theorem union_eq (a b:List Int) (h:a.length+b.length<=1000000):TY a b=some (QT a b):=by
 unfold TY QT;rw[Oa (by simp;omega)]
 have:=SC (body:=λp:List Int×Int=>Xw b p.1 p.2) b (λ(out:List Int) i=>(out,i)) (λout i=>out.length<=a.length+i) (λout l=>some (l.foldl (λo x=>Rf x o) out))
  (λout _=>⟨out,by simp[Xw],by simp⟩) (λout i x r ho hd hi hx=>by
   have w:=Nw (show i<9223372036854775807 by omega)
   obtain⟨_,rfl⟩:=aAC.1 hx;have hl:=ArD b[i] out;left
   exact⟨Rf b[i] out,by omega,by simp[Xw,hi,add_eq out b[i] (by omega),w],by simp⟩)
  a (by simp)
 simp_all
theorem AnX:∀ {a b:List Int},a.Pairwise (· <·)->b.Pairwise (· <·)->(∀ v∈a,v∈b)->a.Sublist b
 | [],_,_,_,_=>List.nil_sublist _
 | x::a,[],_,_,h=>by grind [aAJ]
 | x::a,y::b,ha,hb,h=>by
  rw[aAR]at ha hb
  by_cases e:x=y
  ·subst e;refine(AnX ha.2 hb.2 λv hv=>?_).cons_cons x
   grind
  ·have hx:x∈b:=by
    simp_all
   have hyx:=hb.1 x hx;refine(AnX (aAR.2 ha) hb.2 λv hv=>?_).cons y
   grind
theorem OB.sub {a b:List Int} (ha:OB a) (hb:OB b) (h:∀ v∈a,v∈b):a.Sublist b:=AnX ha.1 hb.1 h
theorem OB.ext {a b:List Int} (ha:OB a) (hb:OB b) (h:∀ v,v∈a↔v∈b):a=b :=
 (ha.sub hb λv hv=>(h v).1 hv).eq_of_length_le (hb.sub ha λv hv=>(h v).2 hv).length_le
theorem OB.filter {a:List Int} (ha:OB a) (p:Int->Bool):OB (a.filter p) :=
 ⟨ha.1.sublist List.filter_sublist,λx hx=>ha.2 x ((aAc.1 hx).1)⟩
theorem Od.AeZ {n m:Int} (h:OB s/\∀ x∈s,x<n) (hm:0<=m/\m<n) (hn:n<=512):OB (Rf m s)/\(∀ x∈Rf m s,x<n)/\∀ v,v∈Rf m s↔v=m\/v∈s:=by
 unfold Rf;rw[if_pos (by omega)]
 refine⟨h.1.UB (by omega),λx hx=>?_,λv=>AcH _ _ _⟩
 grind [AcH]
theorem Vc {n:Int} (hn:n<=512):∀ {b a:List Int},(OB a/\∀ x∈a,x<n)->(∀ x∈b,0<=x/\x<n)->(OB (QT a b)/\∀ x∈QT a b,x<n)/\∀ v,v∈QT a b↔v∈a\/v∈b
 | [],a,ha,_=>⟨ha,λv=>by simp[QT]⟩
 | x::b,a,ha,hb=>by
  obtain⟨h1,h2,h3⟩:=Od.AeZ ha (hb x (aAJ ..)) hn;obtain⟨h4,h5⟩:=Vc hn ⟨h1,h2⟩ λy hy=>hb y (aAK _ hy)
  grind [QT]
def TU (l:List Int) (p:Int->Prop):Prop:=OB l/\∀ v,v∈l↔(0<=v/\v<512)/\p v
theorem TU.eq {m:List Int} {p q:Int->Prop} (h:TU l p) (k:TU m q) (e:∀ v,0<=v->v<512->(p v↔q v)):l=m :=
 h.1.ext k.1 λv=>by
  rw[h.2,k.2];simp_all
theorem TU.Anw (h:OB l):TU l (· ∈l):=⟨h,λv=>⟨λk=>⟨h.2 v k,k⟩,λk=>k.2⟩⟩
theorem TU.mono {p q:Int->Prop} (h:TU l p) (e:∀ v,0<=v->v<512->(p v↔q v)):TU l q :=
 ⟨h.1,λv=>by rw[h.2];simp_all⟩
abbrev BS:=Nt
def RV (t:BS):Prop:=∀ w∈t.toList,WW w
theorem BS.len (t:BS):t.toList.length=8:=rfl
variable {t:BS}
def Ub (t:BS) (i:Nat):Int:=(t.toList[i]?).getD 0
def hasB (t:BS) (v:Int):Bool:=Acy (Ub t (v.toNat / 64)) (v.toNat % 64)
theorem Zu (h:i<8):t.toList[i]? =some (Ub t i):=by
 have:t.toList[i]? =some (t.toList[i]'(show i<8 from h)):=aAA _
 grind [Ub]
theorem RV.word (h:RV t) (hi:i<8):WW (Ub t i):=h _ (aAB (Zu hi))
theorem Apz {j:Nat} {w:Int} (hi:i<8):Ub (t.set i w) j=if i=j then w else Ub t j:=by
 unfold Ub;rw[RJ,List.getElem?_set]
 by_cases h:i=j
 all_goals simp_all[Nt.toList]
theorem RV.set (h:RV t) {w:Int} (hw:WW w):RV (t.set i w):=by
 intro x hx;rw[RJ]at hx;rcases aAd hx with h1|rfl
 ·exact h x h1
 ·exact hw
theorem RV.zero:RV ⟨0,0,0,0,0,0,0,0⟩:=by
 intro w hw;simp[Nt.toList]at hw;exact⟨by omega,by omega⟩
theorem Aum (v:Int):hasB ⟨0,0,0,0,0,0,0,0⟩ v=false:=by
 have:Ub ⟨0,0,0,0,0,0,0,0⟩ (v.toNat / 64)=0:=by
  have hl:∀ i:Nat,(([0,0,0,0,0,0,0,0]:List Int)[i]?).getD 0=0:=by
   grind
  exact hl _
 simp_all[hasB,Acy]
theorem Aqe (n:Int):0<=(IntKind.u64.wrap n).tmod 64/\(0<=n->n<512->((IntKind.u64.wrap n).tmod 64).toNat=n.toNat % 64):=by
 obtain⟨h0,h1⟩:=Alh n;rw[aAl h0];refine⟨by omega,λha hb=>?_⟩
 rw[AuX ⟨ha,by omega⟩]
 omega
theorem Atq {n:Int} (h0:0<=n) (h1:n<512):IntKind.i64.wrap (n.tdiv 64)=((n.toNat / 64:Nat):Int):=by
 grind [wrap64]
theorem Ayw {n:Int} (h0:0<=n) (h1:n<512):IntKind.u64.wrap (1*2 ^ (Nat.min ((IntKind.u64.wrap n).tmod 64).toNat IntKind.u64.bits))=((2 ^ (n.toNat % 64):Nat):Int):=by
 rw[(Aqe n).2 h0 h1];have e:Nat.min (n.toNat % 64) IntKind.u64.bits=n.toNat % 64:=Nat.min_eq_left (by show n.toNat % 64<=64;omega)
 rw[e,Int.one_mul];have hp:2 ^ (n.toNat % 64)<18446744073709551616:=by
  have:=Nat.pow_lt_pow_right (a:=2) (by decide) (show n.toNat % 64<64 by omega)
  omega
 grind [AeP]
theorem AqY (j:Nat) (h:j<64):2 ^ j<18446744073709551616:=by
 have:=Nat.pow_lt_pow_right (a:=2) (by decide) h
 omega
theorem AyQ {n v:Int} (h0:0<=n) (h0':0<=v) (hne:v≠n) (h:n.toNat / 64=v.toNat / 64):v.toNat % 64≠n.toNat % 64:=by omega
theorem Ara (ht:RV t) (n:Int) (b:Bool):Hs (Sw t n b) λr=>RV r/\∀ v,0<=v->v<512->hasB r v=if v=n then b else hasB t v:=by
 refine .chk (Aqe n).1 ?_;rw[AgN,aA]
 by_cases h:0<=n/\n<512
 ·rw[decide_eq_true h];obtain⟨h0,h1⟩:=h;have hi:n.toNat / 64<8:=by omega
  have hb:=Ayw h0 h1;have hw:=ht.word hi;have hp:WW ((2 ^ (n.toNat % 64):Nat):Int):=WW.nat (AqY _ (by omega))
  have fin:∀ (x:Nat),x<18446744073709551616->(∀ j,j<64->x.testBit j=if j=n.toNat % 64 then b else(Ub t (n.toNat / 64)).toNat.testBit j) ->
    RV (t.set (n.toNat / 64) (x:Int))/\∀ v,0<=v->v<512->hasB (t.set (n.toNat / 64) (x:Int)) v=if v=n then b else hasB t v:=by
   intro x hx hbit;refine⟨ht.set (WW.nat hx),λv hv0 hv1=>?_⟩
   unfold hasB;rw[Apz hi]
   by_cases he:v=n
   ·subst he;rw[if_pos rfl,if_pos rfl];show(x:Int).toNat.testBit _=b;rw[aAD,hbit _ (by omega),if_pos rfl]
   ·rw[if_neg he]
    by_cases hq:n.toNat / 64=v.toNat / 64
    ·rw[if_pos hq];show(x:Int).toNat.testBit _=_;rw[aAD,hbit _ (by omega),if_neg (AyQ h0 hv0 he hq),hq]
     rfl
    simp_all
  cases b with
  | true =>
   simp only[aAf,cond_false,cond_true];rw[Atq h0 h1];refine .chk (by omega) ?_
   rw[aAD,Zu hi,aA];refine .chk (by omega) ?_
   rw[aA];refine .pure ?_;rw[hb,AyW hw hp,aAD];refine fin _ (Auy hw.toNat_lt (AqY _ (by omega))) λj hj=>?_
   rw[Nat.testBit_or,Nat.testBit_two_pow]
   grind
  | false =>
   simp only[aAf,cond_false];rw[Atq h0 h1];refine .chk (by omega) ?_
   rw[aAD,Zu hi,aA];refine .chk (by omega) ?_
   rw[aA];refine .pure ?_;rw[hb,Aqm hw hp,aAD];refine fin _ (AnW hw.toNat_lt) λj hj=>?_
   rw[Aqx hw.toNat_lt (AqY _ (by omega)),Nat.testBit_two_pow]
   grind
 ·rw[decide_eq_false h];exact .pure ⟨ht,λv h0 h1=>by grind⟩
theorem AeJ (l:List Int) (hl:l.length<=9000000000000000000):Hs (QM l) λr=>RV r/\∀ v,0<=v->v<512->hasB r v=decide (v∈l):=by
 refine Hs.loop (λs=>RV s.1/\∃ k:Nat,s.2=(k:Int)/\k<=l.length/\∀ v,0<=v->v<512->hasB s.1 v=decide (v∈l.take k)) (λs=>l.length-s.2.toNat) ⟨RV.zero,0,rfl,aAE _,λv _ _=>by simp[Aum]⟩ ?_
 rintro⟨t,k'⟩ ⟨ht,k,hk',hk,hall⟩;subst hk';refine .dec (λhlt=>?_) λhge=>?_
 ·have hlt:k<l.length:=by omega
  refine Hs.bind (P:=λx=>l[k]? =some x) ⟨l[k],by simp[hlt],by simp[hlt]⟩ λx hx=>(Ara ht x true).bind λr hr=>.cnt ?_
  rw[Nw (by omega)]
  refine⟨⟨hr.1,k+1,rfl,hlt,λv h0 h1=>?_⟩,by grind⟩
  grind [aAY]
 ·have:k=l.length:=by omega
  subst this;exact .lft (.pure ⟨ht,λv h0 h1=>by simp_all⟩)
theorem OB.snoc (h:OB l) {z:Int} (h0:0<=z/\z<512) (hz:∀ x∈l,x<z):OB (l++[z]):=by
 refine⟨List.pairwise_append.2 ⟨h.1,List.pairwise_singleton _ _,λa ha b hb=>?_⟩,λx hx=>?_⟩
 ·simp_all
 ·simp only[aAM,aAN]at hx;rcases hx with h1|rfl
  ·exact h.2 x h1
  ·exact h0
theorem AbC (ht:RV t):Hs (QI t) λr=>r.2=t/\TU r.1 (λv=>hasB t v=true):=by
 refine Hs.loop (λs=>∃ i:Nat,s.2=(i:Int)/\i<=8/\TU s.1 (λv=>v<64*i/\hasB t v=true)) (λs=>8-s.2.toNat) ⟨0,rfl,by omega,⟨OB.nil,λv=>by simp;omega⟩⟩ ?_
 rintro⟨l,i'⟩ ⟨i,hi',hi,hs⟩;subst hi';refine .dec (λhlt=>?_) λhge=>?_
 ·have hlt:i<8:=by omega
  refine .chk (by omega) ?_
  rw[aAD,Zu hlt,aA];have hw:=ht.word hlt;refine Hs.loop (λs=>WW s.2/\∃ c:Nat,c<=64/\TU s.1 (λv=>v<64*i+c/\hasB t v=true)/\∀ j,j<64->Acy s.2 j=(decide (c<=j)&&Acy (Ub t i) j)) (λs=>s.2.toNat) ⟨hw,0,by omega,by simp_all,λj _=>by simp⟩ ?_
  rintro⟨m,x⟩ ⟨hx,c,hc,hm,hb⟩;simp only at hx hm hb;refine .bne (λhne=>?_) λhe=>?_
  ·have hx0:0<x.toNat:=by have:=hx.1;omega
   obtain⟨k1,k2,k3,k4⟩:=Awf hx0 hx.toNat_lt;generalize hk:Lib.ctz 64 x.toNat=k at k1 k2 k3 k4;have ek:Ajc x=some (k:Int):=by
    unfold Ajc;rw[Oa (show 0<=x/\x<18446744073709551616 from hx),hk]
   rw[ek,aA];have hck:c<=k:=by
    grind [Acy]
   have hwk:Acy (Ub t i) k=true:=by
    grind [Acy]
   have e1:IntKind.i64.wrap (IntKind.i64.wrap (64*(i:Int))+(k:Int))=((64*i+k:Nat):Int):=by
    grind [wrap64]
   have e2:IntKind.u64.wrap (x-1)=x-1:=AuX ⟨by omega,by have:=hx.2;omega⟩
   have e3:(x-1).toNat=x.toNat-1:=by omega
   have hz:∀ v∈m,v<((64*i+k:Nat):Int):=λv hv=>by
    have:=((hm.2 v).1 hv).2.1;omega
   have hlen:=hm.1.length_le;refine .chk (by simp;omega) (.cnt ?_)
   rw[e1,e2,AwT hx ⟨by omega,by have:=hx.2;omega⟩,e3]
   refine⟨⟨WW.nat (AnW hx.toNat_lt),k+1,by omega,⟨hm.1.snoc (by omega) hz,λv=>?_⟩,λj hj=>?_⟩,?_⟩
   ·simp only[aAM,aAN,hm.2];constructor
    ·grind [hasB]
    ·rintro⟨a,b,d⟩
     by_cases e:v=((64*i+k:Nat):Int)
     ·exact .inr e
     ·refine .inl ⟨a,?_,d⟩
      grind [Acy,hasB]
   ·simp only;unfold Acy;rw[aAD,k4]
    grind [Acy]
   grind [Nat.and_le_right]
  ·have he:x=0:=he;subst he;refine .lft (.cnt ?_);rw[Nw (by omega)]
   refine⟨⟨i+1,rfl,hlt,hm.mono λv h0 h1=>⟨λ⟨a,b⟩=>⟨by omega,b⟩,λ⟨a,b⟩=>⟨?_,b⟩⟩⟩,by grind⟩
   grind [hasB,Acy]
 ·have:i=8:=by omega
  exact .lft (.pure ⟨rfl,hs.mono λv h0 h1=>⟨λh=>h.2,λh=>⟨by omega,h⟩⟩⟩)
theorem Ave {x y:Int} (hx:WW x) (hy:WW y):Xf x y=some ((x.toNat ||| y.toNat:Nat):Int):=by
 grind [Xf,AyW]
theorem Auv {x y:Int} (hx:WW x) (hy:WW y):Xe x y=some ((Aqw x.toNat y.toNat:Nat):Int):=by
 grind [Xe,Aqm]
theorem Asz {s:BS} (hs:RV s) (ht:RV t) (g:Nat->Nat->Nat) (hg:∀ x y,x<18446744073709551616->y<18446744073709551616->g x y<18446744073709551616) (p:Bool->Bool->Bool) (hp:∀ x y j,x<18446744073709551616->y<18446744073709551616->j<64->(g x y).testBit j=p (x.testBit j) (y.testBit j)) {body:BS×Int->Option ((BS×Int)⊕(BS×BS×BS))} (hend:∀ x,body (x,8)=some (.inr (x,s,t))) (hstep:∀ x (i:Nat),i<8->body (x,(i:Int))=some (.inl (x.set i ((g (Ub s i).toNat (Ub t i).toNat:Nat):Int),((i+1:Nat):Int)))) :
  Hs (NA body (⟨0,0,0,0,0,0,0,0⟩,0)) λr=>RV r.1/\∀ v,0<=v->v<512->hasB r.1 v=p (hasB s v) (hasB t v):=by
 refine Hs.loop (λq=>RV q.1/\∃ i:Nat,q.2=(i:Int)/\i<=8/\∀ j,j<i->Ub q.1 j=((g (Ub s j).toNat (Ub t j).toNat:Nat):Int)) (λq=>8-q.2.toNat) ⟨RV.zero,0,rfl,by omega,λj hj=>by omega⟩ ?_
 rintro⟨x,i'⟩ ⟨hx,i,hi',hi,hall⟩;subst hi'
 by_cases hlt:i<8
 ·refine⟨_,hstep x i hlt,⟨hx.set (WW.nat (hg _ _ (hs.word hlt).toNat_lt (ht.word hlt).toNat_lt)),i+1,rfl,hlt,λj hj=>?_⟩,by grind⟩
  simp only;rw[Apz hlt]
  grind
 ·obtain rfl:i=8:=by omega
  refine⟨_,hend x,hx,λv h0 h1=>?_⟩
  have hv:v.toNat / 64<8:=by omega
  unfold hasB;rw[hall _ hv];unfold Acy;rw[aAD,hp _ _ _ (hs.word hv).toNat_lt (ht.word hv).toNat_lt (by omega)]
theorem ApX {s:BS} (hs:RV s) (ht:RV t):Hs (RX s t) λr=>RV r.1/\∀ v,0<=v->v<512->hasB r.1 v=(hasB s v||hasB t v):=by
 refine Asz hs ht (· ||| ·) (λx y=>Auy) (· ||·) (λx y j _ _ _=>Nat.testBit_or ..) (λx=>by simp[Rt]) λx i hi=>?_
 have w:=Nw (show i<9223372036854775807 by omega)
 simp[Rt,Zu hi,Ave (hs.word hi) (ht.word hi),w,show(i:Int)<8 by omega]
theorem ApW {s:BS} (hs:RV s) (ht:RV t):Hs (RW s t) λr=>RV r.1/\∀ v,0<=v->v<512->hasB r.1 v=(hasB s v&& !hasB t v):=by
 refine Asz hs ht Aqw (λx y hx _=>AnW hx) (λa b=>a&& !b) (λx y j hx hy _=>Aqx hx hy) (λx=>by simp[Rs]) λx i hi=>?_
 have w:=Nw (show i<9223372036854775807 by omega)
 simp[Rs,Zu hi,Auv (hs.word hi) (ht.word hi),w,show(i:Int)<8 by omega]
theorem Aqp (l:List Int) (hl:l.length<=9000000000000000000):Hs (YW l) λr=>TU r (· ∈l):=by
 exact(AeJ l hl).bind λr hr=>(AbC hr.1).bind λq hq=>.pure (hq.2.mono λv h0 h1=>by simp_all)
theorem Aqr (l:List Int) (n:Int) (hl:l.length<=9000000000000000000):Hs (VT l n) λr=>TU r (λv=>v∈l/\v≠n):=by
 unfold VT;refine(AeJ l hl).bind λr hr=>(Ara hr.1 n false).bind λu hu=>(AbC hu.1).bind λq hq=>.pure (hq.2.mono λv h0 h1=>?_)
 grind
theorem ArI (a b:List Int) (ha:a.length<=9000000000000000000) (hb:b.length<=9000000000000000000):Hs (Ud a b) λr=>TU r (λv=>v∈a\/v∈b):=by
 unfold Ud;refine(AeJ a ha).bind λr hr=>(AeJ b hb).bind λu hu=>(ApX hr.1 hu.1).bind λx hx=>(AbC hx.1).bind λq hq=>.pure (hq.2.mono λv h0 h1=>?_)
 simp_all
theorem ArH (a b:List Int) (ha:a.length<=9000000000000000000) (hb:b.length<=9000000000000000000):Hs (Xd a b) λr=>TU r (λv=>v∈a/\v∉b):=by
 unfold Xd;refine(AeJ a ha).bind λr hr=>(AeJ b hb).bind λu hu=>(ApW hr.1 hu.1).bind λx hx=>(AbC hx.1).bind λq hq=>.pure (hq.2.mono λv h0 h1=>?_)
 simp_all
theorem Aqq (hs:OB s) (n:Int):VT s n=some (s.filter (· != n)):=by
 obtain⟨r,h1,h2⟩:=Aqr s n (by have:=hs.length_le;omega)
 rw[h1,h2.eq (TU.Anw (hs.filter (· != n))) λv _ _=>by simp_all]
theorem AgW {a b:List Int} (ha:OB a) (hb:∀ x∈b,0<=x/\x<512) (hl:b.length<=1000):Ud a b=some (QT a b):=by
 obtain⟨r,h1,h2⟩:=ArI a b (by have:=ha.length_le;omega) (by omega)
 obtain⟨h3,h4⟩:=Vc (n:=512) (by omega) (b:=b) ⟨ha,λx hx=>(ha.2 x hx).2⟩ hb
 rw[h1,h2.eq (TU.Anw h3.1) λv _ _=>by rw[h4]]
theorem AvD {b:List Int} (hb:∀ x∈b,0<=x/\x<512) (hl:b.length<=1000):YW b=some (QT [] b):=by
 obtain⟨r,h1,h2⟩:=Aqp b (by omega)
 obtain⟨h3,h4⟩:=Vc (n:=512) (by omega) (b:=b) ⟨OB.nil,λx hx=>by cases hx⟩ hb
 rw[h1,h2.eq (TU.Anw h3.1) λv _ _=>by simp_all]
def okC (c:Mk):Prop:=0<=c.at_/\c.at_<=c.list.length/\c.list.length<=1000/\∀ v∈c.list,0<=v/\v<=255
theorem AyU (l:List Int) (n:Int) (hl:qL (Pf .u8) l) (h0:0<=n) (h1:n<=1000):∃ c,Aff l n=some c/\okC c:=by
 unfold Aff;have e:Tw (l.length:Int) n=min (l.length:Int) n:=AxG _ _;refine⟨_,by rw[Oa (by omega)],by simp,?_,?_,?_⟩
 ·simp
 ·grind
 ·intro v hv;have:=hl.2 v (List.mem_of_mem_take hv)
  grind [Pf,IntKind.min,IntKind.max,aAt,aAx]
theorem AxJ (c:Mk) (h:okC c) (n:Int) (h1:n<=1099511627776):∃ r c',Ny c n=some (r,c')/\okC c'/\0<=r/\(r<n\/r=0):=by
 obtain⟨ha,hb,hc,hd⟩:=h;unfold Ny YF
 by_cases hl:c.at_<c.list.length
 ·by_cases hn:n<1
  ·exact⟨0,c,by simp_all,⟨ha,hb,hc,hd⟩,by omega,.inr rfl⟩
  ·have hx:c.list[c.at_.toNat]? =some (c.list[c.at_.toNat]'(by omega)):=aAA _
   have hv:=hd _ (aAF (show c.at_.toNat<c.list.length by omega))
   generalize hq:c.list[c.at_.toNat]'(by omega)=v at hx hv
   have e1:IntKind.i64.wrap v=v:=wrap64 (by omega) (by omega)
   have hm0:0<=v*n:=Int.mul_nonneg hv.1 (by omega)
   have hm1:v*n<=255*n:=Int.mul_le_mul_of_nonneg_right hv.2 (by omega)
   have e2:IntKind.i64.wrap (v*n)=v*n:=wrap64 (by omega) (by omega)
   have e3:(v*n).tdiv 256=v*n / 256:=Int.tdiv_eq_ediv_of_nonneg hm0;have e4:IntKind.i64.wrap (v*n / 256)=v*n / 256:=wrap64 (by omega) (by omega)
   have e5:IntKind.i64.wrap (c.at_+1)=c.at_+1:=wrap64 (by omega) (by omega)
   refine⟨v*n / 256,⟨c.list,c.at_+1⟩,?_,⟨by grind,by grind,hc,hd⟩,by omega,.inl (by omega)⟩
   grind [Wg,OZ]
 ·exact⟨0,c,by simp[hl],⟨ha,hb,hc,hd⟩,by omega,.inr rfl⟩
theorem AxI (h:okC c) {n:Int} (h1:n<=1099511627776):Hs (Ny c n) λp=>okC p.2/\0<=p.1/\(p.1<n\/p.1=0):=by
 obtain⟨r,c',e,h2,h3,h4⟩:=AxJ c h n h1;exact⟨(r,c'),e,h2,h3,h4⟩
theorem NM (h:okC c) {n:Int} (h0:1<=n) (h1:n<=1099511627776):Hs (Ny c n) λp=>okC p.2/\0<=p.1/\p.1<n :=
 (AxI h h1).mono λr hr=>⟨hr.1,hr.2.1,by omega⟩
def Aan (s:NB):Prop:=s.Size∈([8,4,8,1,2,16,8]:List Int)/\s.Align∈([8,4,1,8,16,2,32,64]:List Int)
def W64 (w:Int):Prop:=0<=w/\w<18446744073709551616
def Reg (a:Int):Prop:=0<=a/\a<4
theorem Aya (h:okC c):Hs (YG c) λp=>okC p.2/\Aan p.1:=by
 refine(NM h (by omega) (by omega)).bind λr hr=>.chk (by simp;omega) ?_
 refine(Hs.get hr.2.1 (by simp;omega) λx hx=>aAB hx).bind λx hx=>?_
 refine(NM hr.1 (by omega) (by omega)).bind λr' hr'=>.chk (by simp;omega) ?_
 refine(Hs.get hr'.2.1 (by simp;omega) λx hx=>aAB hx).bind λy hy=>?_
 exact .pure ⟨hr'.1,hx,hy⟩
theorem AwE (h:okC c) {m:Int} (hm:0<=m) (hm':m<=1000):Hs (Vr c m) λp=>okC p.2/\(p.1.length:Int)<=m/\∀ s∈p.1,Aan s:=by
 unfold Vr;have w:IntKind.i64.wrap (m+1)=m+1:=wrap64 (by omega) (by omega)
 refine(NM h (by omega) (by omega)).bind λr hr=>?_
 refine Hs.loop (λs=>okC ⟨s.1,s.2.1⟩/\(s.2.2.1.length:Int)+s.2.2.2<=m/\(∀ x∈s.2.2.1,Aan x)/\0<=s.2.2.2) (λs=>s.2.2.2.toNat) ⟨hr.1,by simp;omega,by simp,hr.2.1⟩ ?_
 rintro⟨l,a,sl,n⟩ ⟨hc,hl,hs,hn⟩;simp only at hc hl hs hn;refine .dec (λhlt=>?_) λhlt=>?_
 ·have hlt:0<n:=hlt;have w:IntKind.i64.wrap (n-1)=n-1:=wrap64 (by omega) (by omega)
  refine(Aya hc).bind λx hx=>.chk (by simp;omega) (.cnt ⟨⟨hx.1,?_,?_,?_⟩,?_⟩)
  all_goals grind
 ·exact .lft (.pure ⟨hc,by grind,hs⟩)
theorem AsA (h:okC c):Hs (Wi c) λp=>okC p.2/\W64 p.1:=by
 refine(NM h (by omega) (by omega)).bind λr hr=>.beq (λ_=>?_) λ_=>.beq (λ_=>?_) λ_=>.beq (λ_=>?_) λ_=>?_
 ·exact(NM hr.1 (by omega) (by omega)).bind λr' hr'=>.pure ⟨hr'.1,Alh _⟩
 ·exact(NM hr.1 (by omega) (by omega)).bind λr' hr'=>.chk hr'.2.1 (.pure ⟨hr'.1,Alh _⟩)
 ·exact .pure ⟨hr.1,by grind [W64]⟩
 ·exact(NM hr.1 (by omega) (by omega)).bind λr' hr'=>.pure ⟨hr'.1,Alh _⟩
def Aqk (sl:List NB) (a b:Int):Prop:=0<=a/\a<sl.length/\∃ x y,sl[a.toNat]? =some x/\sl[b.toNat]? =some y/\x.Size=y.Size
theorem Asl (h:okC c) {s:Int} (h0:0<=s) (h1:s<f.Slots.length) (hl:f.Slots.length<=1000):Hs (Wl c f s) λp=>okC p.2/\Aqk f.Slots p.1 s:=by
 refine Hs.loop (λst=>0<=st.2/\st.2<=f.Slots.length/\(st.1.length:Int)<=st.2/\(∀ v∈st.1,Aqk f.Slots v s)/\(s<st.2->0<st.1.length)) (λst=>f.Slots.length-st.2.toNat) ⟨by simp,by simp,by simp,by simp,λh=>by omega⟩ ?_
 rintro⟨l,k⟩ ⟨hk0,hk1,hll,hv,hne⟩;simp only at hk0 hk1 hll hv hne;refine .dec (λhlt=>?_) λhlt=>.lft ?_
 ·have w:IntKind.i64.wrap (k+1)=k+1:=wrap64 (by omega) (by omega)
  refine(Hs.ix hk0 hlt λx hx=>hx).bind λx hx=>(Hs.ix h0 h1 λx hx=>hx).bind λy hy=>.beq (λhe=>?_) λhe=>?_
  ·refine .chk (by simp;omega) (.cnt ⟨⟨by grind,by grind,by simp_all,?_,by simp⟩,by grind⟩)
   intro v hv';rcases aAM.1 hv' with h2|h2
   ·simp_all
   ·rw[aAN]at h2;subst h2;exact⟨hk0,hlt,x,y,hx,hy,he⟩
  ·refine .cnt ⟨⟨by grind,by grind,by grind,hv,λh3=>?_⟩,by grind⟩
   grind
 ·refine(NM h (n:=(l.length:Int)) (by omega) (by omega)).bind λr hr=>.chk ⟨hr.2.1,hr.2.2⟩ ?_
  exact(Hs.get hr.2.1 hr.2.2 λx hx=>hv x (aAB hx)).bind λx hx=>.pure ⟨hr.1,hx⟩
inductive PV (sl:List NB) (np i:Int) (ps:List Int) (T:Int->Prop):Lo->Prop
 | store (a b:Int):0<=a->a<sl.length->Reg b->PV sl np i ps T ⟨16,a,b,0,0⟩
 | load (a b:Int):Reg a->0<=b->b<sl.length->PV sl np i ps T ⟨15,a,b,0,0⟩
 | move (a b:Int):Aqk sl a b->0<=b->b<sl.length->PV sl np i ps T ⟨17,a,b,0,0⟩
 | const (a w:Int):Reg a->W64 w->PV sl np i ps T ⟨0,a,0,0,w⟩
 | bin (op a b c:Int):2<=op->op<12->Reg a->Reg b->0<=c->c<8->PV sl np i ps T ⟨op,a,b,c,0⟩
 | out (a:Int):Reg a->PV sl np i ps T ⟨14,a,0,0,0⟩
 | un (op a:Int):(op=13\/op=12\/op=1)->Reg a->PV sl np i ps T ⟨op,a,0,0,0⟩
 | param (a b:Int):Reg a->0<=b->b<np->PV sl np i ps T ⟨19,a,b,0,0⟩
 | arg (a b:Int):0<=a->a<4->Reg b->PV sl np i ps T ⟨18,a,b,0,0⟩
 | call (j:Int):i<j->j<ps.length->PV sl np i ps T ⟨22,j,0,0,0⟩
 | jump (t:Int):T t->PV sl np i ps T ⟨20,t,0,0,0⟩
 | branch (a t:Int):Reg a->T t->PV sl np i ps T ⟨21,a,t,0,0⟩
def AkY (ps:List Int):Prop:=(∀ v∈ps,0<=v/\v<4)/\ps.length<=1000
theorem Axl (h:okC c) {i:Int} (T:Int->Prop) (hf:f.Slots.length<=1000) (hp:f.Params<4) (hi:0<=i) (hi':i<ps.length) (hps:AkY ps) :
  Hs (Wj c f i ps) λp=>okC p.2/\p.1.length<=4/\∀ x∈p.1,PV f.Slots f.Params i ps T x:=by
 unfold Wj;refine(NM h (by omega) (by omega)).bind λr hr=>(NM hr.1 (by omega) (by omega)).bind λk hk=>?_
 have hreg:Reg r.1:=hr.2;have one:∀ {x:Lo} {c':Mk},okC c'->PV f.Slots f.Params i ps T x->Hs (some (([x]:List Lo),c')) λp=>okC p.2/\p.1.length<=4/\∀ x∈p.1,PV f.Slots f.Params i ps T x:=λhc hx=>.pure ⟨hc,by simp,by simp_all⟩
 have j6:∀ b,(b=true->i+1<ps.length)->Hs (Uk k ps i r b) λp=>okC p.2/\p.1.length<=4/\∀ x∈p.1,PV f.Slots f.Params i ps T x:=by
  intro b hb;refine .cond (λhb'=>?_) λ_=>one hk.1 (.out _ hreg)
  have hil:=hb hb';have hlen:=hps.2;have w1:IntKind.i64.wrap ((ps.length:Int)-i)=(ps.length:Int)-i:=wrap64 (by omega) (by omega)
  have w2:IntKind.i64.wrap ((ps.length:Int)-i-1)=(ps.length:Int)-i-1:=wrap64 (by omega) (by omega)
  have w3:IntKind.i64.wrap (i+1)=i+1:=wrap64 (by omega) (by omega)
  rw[w1,w2];refine(NM hk.1 (by omega) (by omega)).bind λq hq=>?_
  have w4:IntKind.i64.wrap (i+1+q.1)=i+1+q.1:=wrap64 (by omega) (by omega)
  refine Hs.loop (λs=>okC ⟨s.1,s.2.1⟩/\(s.2.2.1.length:Int)<=s.2.2.2/\0<=s.2.2.2/\s.2.2.2<=3/\∀ x∈s.2.2.1,PV f.Slots f.Params i ps T x) (λs=>(3-s.2.2.2).toNat) ⟨hq.1,by simp,by simp,by simp,by simp⟩ ?_
  rintro⟨l,a,out,n⟩ ⟨hc,ho,hn0,hn3,hall⟩;simp only at hc ho hn0 hn3 hall;unfold Zb;simp only[w3,w4];refine(Hs.ix (by omega) (by omega) λx hx=>hps.1 x (aAB hx)).bind λx hx=>.dec (λhlt=>?_) λhlt=>.lft ?_
  ·have w5:IntKind.i64.wrap (n+1)=n+1:=wrap64 (by omega) (by omega)
   refine(NM hc (by omega) (by omega)).bind λu hu=>.dec (λ_=>?_) λ_=>?_
   ·refine(NM hu.1 (by omega) (by omega)).bind λv hv=>.chk (by simp;omega) (.cnt ⟨⟨hv.1,by simp_all,by grind,by grind,?_⟩,by grind⟩)
    intro y hy;rcases aAM.1 hy with h2|h2
    ·simp_all
    ·rw[aAN]at h2;subst h2;exact .arg _ _ hn0 (by omega) hv.2
   ·exact .cnt ⟨⟨hu.1,by grind,by grind,by grind,hall⟩,by grind⟩
  ·refine .chk (by simp;omega) (.pure ⟨hc,by grind,?_⟩)
   intro y hy;rcases aAM.1 hy with h2|h2
   ·simp_all
   ·rw[aAN]at h2;subst h2;exact .call _ (by omega) (by omega)
 have j5:∀ b,(b=true->0<f.Params)->Hs (Uj k f r ps i b) λp=>okC p.2/\p.1.length<=4/\∀ x∈p.1,PV f.Slots f.Params i ps T x:=by
  intro b hb;refine .cond (λhb'=>?_) λ_=>.dec (λ_=>j6 _ λhd=>?_) λ_=>j6 _ λhd=>(by cases hd)
  ·have:=hb hb';exact(NM hk.1 (by omega) (by omega)).bind λu hu=>one hu.1 (.param _ _ hreg hu.2.1 hu.2.2)
  ·have hlen:=hps.2;have:=of_decide_eq_true hd
   grind [wrap64]
 have j4:∀ b,(b=true->0<f.Slots.length)->Hs (Ui k f r ps i b) λp=>okC p.2/\p.1.length<=4/\∀ x∈p.1,PV f.Slots f.Params i ps T x:=by
  intro b hb;refine .cond (λhb'=>?_) λ_=>.dec (λ_=>?_) λ_=>.dec (λ_=>?_) λ_=>.dec (λ_=>one hk.1 (.out _ hreg)) λ_=>.beq (λ_=>?_) λ_=>.beq (λ_=>j5 _ λhd=>of_decide_eq_true hd) λ_=>j5 _ λhd=>(by cases hd)
  ·have:=hb hb';exact(NM hk.1 (by omega) (by omega)).bind λu hu=>(Asl hu.1 hu.2.1 hu.2.2 hf).bind λv hv=>one hv.1 (.move _ _ hv.2 hu.2.1 hu.2.2)
  ·exact(AsA hk.1).bind λu hu=>one hu.1 (.const _ _ hreg hu.2)
  ·refine(NM hk.1 (by omega) (by omega)).bind λu hu=>(NM hu.1 (by omega) (by omega)).bind λv hv=>(NM hv.1 (by omega) (by omega)).bind λz hz=>one hz.1 ?_
   rw[wrap64 (by omega) (by omega)]
   exact .bin _ _ _ _ (by omega) (by omega) hreg hv.2 hz.2.1 hz.2.2
  ·refine(NM hk.1 (by omega) (by omega)).bind λu hu=>.chk (by simp;omega) ?_
   refine(Hs.get hu.2.1 (by simp;omega) λx hx=>aAB hx).bind λx hx=>one hu.1 (.un _ _ (by simp_all) hreg)
 have j3:∀ b,(b=true->0<f.Slots.length)->Hs (Uh k f r ps i b) λp=>okC p.2/\p.1.length<=4/\∀ x∈p.1,PV f.Slots f.Params i ps T x:=by
  intro b hb;refine .cond (λhb'=>?_) λ_=>.dec (λ_=>j4 _ λhd=>by simp_all) λ_=>j4 _ λhd=>(by cases hd)
  have:=hb hb';exact(NM hk.1 (by omega) (by omega)).bind λu hu=>one hu.1 (.load _ _ hreg hu.2.1 hu.2.2)
 have j2:∀ b,(b=true->0<f.Slots.length)->Hs (Ug k f r ps i b) λp=>okC p.2/\p.1.length<=4/\∀ x∈p.1,PV f.Slots f.Params i ps T x:=by
  intro b hb;refine .cond (λhb'=>?_) λ_=>.dec (λ_=>j3 _ λhd=>by simp_all) λ_=>j3 _ λhd=>(by cases hd)
  have:=hb hb';exact(NM hk.1 (by omega) (by omega)).bind λu hu=>one hu.1 (.store _ _ hu.2.1 hu.2.2 hreg)
 grind
theorem PV.mono {np i:Int} {T T':Int->Prop} (h:PV sl np i ps T x) (hT:∀ t,T t->T' t):PV sl np i ps T' x:=by
 cases h with
 | store a b h1 h2 h3=>exact .store a b h1 h2 h3
 | load a b h1 h2 h3=>exact .load a b h1 h2 h3
 | move a b h1 h2 h3=>exact .move a b h1 h2 h3
 | const a w h1 h2=>exact .const a w h1 h2
 | bin op a b c h1 h2 h3 h4 h5 h6=>exact .bin op a b c h1 h2 h3 h4 h5 h6
 | out a h1=>exact .out a h1
 | un op a h1 h2=>exact .un op a h1 h2
 | param a b h1 h2 h3=>exact .param a b h1 h2 h3
 | arg a b h1 h2 h3=>exact .arg a b h1 h2 h3
 | call j h1 h2=>exact .call j h1 h2
 | jump t h1=>exact .jump t (hT t h1)
 | branch a t h1 h2=>exact .branch a t h1 (hT t h2)
def AeD (x:Lo):Prop:=x=⟨23,0,0,0,0⟩\/∃ w,W64 w/\x=⟨24,0,0,0,w⟩
def AcB (x:Lo) (t:Int):Lo :=
 if x.Op=20/\x.A<0 then⟨x.Op,t,x.B,x.C,x.Imm⟩else if x.Op=21/\x.B<0 then⟨x.Op,x.A,t,x.C,x.Imm⟩else x
theorem AeD.fix (h:AeD x) (t:Int):AcB x t=x:=by
 rcases h with rfl|⟨w,_,rfl⟩<;>simp[AcB]
theorem PV.fix {np i:Int} {T:Int->Prop} (h:PV sl np i ps (· = -1) x) {t:Int} (ht:T t):PV sl np i ps T (AcB x t):=by
 cases h with
 | store a b h1 h2 h3=>exact .store a b h1 h2 h3
 | load a b h1 h2 h3=>exact .load a b h1 h2 h3
 | move a b h1 h2 h3=>exact .move a b h1 h2 h3
 | const a w h1 h2=>exact .const a w h1 h2
 | bin op a b c h1 h2 h3 h4 h5 h6 =>
  have:AcB ⟨op,a,b,c,0⟩ t=⟨op,a,b,c,0⟩:=by grind [AcB]
  rw[this];exact .bin op a b c h1 h2 h3 h4 h5 h6
 | out a h1=>exact .out a h1
 | un op a h1 h2 =>
  have:AcB ⟨op,a,0,0,0⟩ t=⟨op,a,0,0,0⟩:=by grind [AcB]
  rw[this];exact .un op a h1 h2
 | param a b h1 h2 h3=>exact .param a b h1 h2 h3
 | arg a b h1 h2 h3=>exact .arg a b h1 h2 h3
 | call j h1 h2=>exact .call j h1 h2
 | jump q h1=>subst h1;exact .jump t ht
 | branch a q h1 h2=>subst h2;exact .branch a t h1 ht
theorem Azj (h:code[k]? =some x) (r:Int×Mk) (t:Int):PZ (k:Int) code r t=some (.inl (r.2.list,r.2.at_,code.set k (AcB x t),IntKind.i64.wrap ((k:Int)+1))):=by
 obtain⟨hl,hx⟩:=aAC.1 h;have hset:code.set k x=code:=by grind [aAu]
 obtain⟨op,a,b,c,w⟩:=x;unfold PZ Sh
 by_cases h20:op=20
 ·subst h20
  by_cases ha:a<0
  ·simp_all[Oa,AcB]
  ·simp[Oa,hl,hx,AcB,ha,hset]
 ·by_cases h21:op=21
  ·subst h21
   by_cases hb:b<0
   ·simp_all[Oa,AcB]
   ·simp[Oa,hl,hx,AcB,hb,hset]
  ·have e20:(op==20)=false:=by simp_all
   have e21:(op==21)=false:=by simp_all
   simp[Oa,hl,hx,AcB,h20,h21,hset]
structure Sc (ps:List Int) (i most:Int) (f:Nn):Prop where
 par:ps[i.toNat]? =some f.Params
 slots:f.Slots.length<=6
 slot:∀ s∈f.Slots,Aan s
 len:1<=f.Code.length
 len':(f.Code.length:Int)<=7+5*most
 body:∀ (k:Nat) x,f.Code[k]? =some x->k+1<f.Code.length->PV f.Slots f.Params i ps (λt=>0<=t/\t<f.Code.length) x
 last:∀ x,f.Code[f.Code.length-1]? =some x->AeD x
theorem AyP {a:Int} (h:okC ⟨l,a⟩) {np i:Int} (hpar:ps[i.toNat]? =some np) (hsl:sl.length<=6) (hsl':∀ s∈sl,Aan s) (hlen:1<=code.length) (hlen':(code.length:Int)<=7+5*most) (hm:most<=1000) (hb:∀ (k:Nat) x,code[k]? =some x->k+1<code.length->PV sl np i ps (· = -1) x) (he:∀ x,code[code.length-1]? =some x->AeD x) :
  Hs (NA (λs:List Int×Int×List Lo×Int=>WG np sl s.1 s.2.1 s.2.2.1 s.2.2.2) (l,a,code,0)) λp=>okC p.2/\Sc ps i most p.1:=by
 refine Hs.loop (λs=>okC ⟨s.1,s.2.1⟩/\s.2.2.1.length=code.length/\∃ k:Nat,s.2.2.2=(k:Int)/\k<=code.length/\(∀ x,s.2.2.1[code.length-1]? =some x->AeD x) /\
  ∀ (j:Nat) x,s.2.2.1[j]? =some x->j+1<code.length->PV sl np i ps (λt=>if j<k then 0<=t/\t<code.length else t= -1) x) (λs=>code.length-s.2.2.2.toNat) ⟨h,rfl,0,rfl,aAE _,he,λj x hj hj'=>(hb j x hj hj').mono λt ht=>by simp_all⟩ ?_
 rintro⟨l,a,code',k⟩ ⟨hc,hl,k,rfl,hk,he',hall⟩;simp only at hc hl he' hall;refine .dec (λhlt=>?_) λhlt=>?_
 ·have hlt:k<code.length:=by simp_all
  have w:=Nw (show k<9223372036854775807 by omega)
  have hx:code'[k]? =some (code'[k]'(by omega)):=aAA _
  generalize code'[k]'(by omega)=x at hx
  have step:∀ (r:Int×Mk) (t:Int),okC r.2->0<=t->t<code.length->Hs (PZ (k:Int) code' r t) (Rnd (λs:List Int×Int×List Lo×Int=>okC ⟨s.1,s.2.1⟩/\s.2.2.1.length=code.length/\∃ k:Nat,s.2.2.2=(k:Int)/\k<=code.length/\(∀ x,s.2.2.1[code.length-1]? =some x->AeD x) /\
    ∀ (j:Nat) x,s.2.2.1[j]? =some x->j+1<code.length->PV sl np i ps (λt=>if j<k then 0<=t/\t<code.length else t= -1) x) (λs=>code.length-s.2.2.2.toNat) (l,a,code',(k:Int)) (λp:Nn×Mk=>okC p.2/\Sc ps i most p.1)):=by
   intro r t hr ht0 ht1;rw[Azj hx];refine .pure ⟨⟨hr,by simp[hl],k+1,w,hlt,?_,?_⟩,by grind⟩
   ·intro y hy;simp only at hy
    by_cases e:k=code.length-1
    ·rw[<- e,aAr (by omega)]at hy
     obtain rfl:=Option.some.inj hy;have hex:=he' x (by simp_all)
     rw[hex.fix];exact hex
    simp_all
   ·intro j y hy hj;simp only at hy
    by_cases e:k=j
    ·subst e;rw[aAr (by omega)]at hy
     obtain rfl:=Option.some.inj hy;exact((hall k x hx hj).mono λt ht=>by simp_all).fix (by simp_all)
    grind
  refine(NM hc (by omega) (by omega)).bind λr hr=>?_
  have w1:IntKind.i64.wrap ((k:Int)+r.1)=(k:Int)+r.1:=wrap64 (by omega) (by omega)
  grind [wrap64]
 ·have hlt:¬ k<code'.length:=λh=>hlt (Int.ofNat_lt.2 h)
  have hkl:k=code.length:=by omega
  refine .lft (.pure ⟨hc,hpar,hsl,hsl',by simp_all,by simp_all,?_,?_⟩)
  all_goals grind
theorem AwX {a:Int} (h:okC ⟨l,a⟩) {np i:Int} (hpar:ps[i.toNat]? =some np) (hsl:sl.length<=6) (hsl':∀ s∈sl,Aan s) (hlen:(code.length:Int)<=6+5*most) (hm:most<=1000) (hb:∀ x∈code,PV sl np i ps (· = -1) x) {e1 e2:Int} (he:AeD ⟨e1,0,0,0,e2⟩) :
  Hs (Rm code np sl l a e1 e2) λp=>okC p.2/\Sc ps i most p.1:=by
 unfold Rm;refine .chk (by simp;omega) (AyP h hpar hsl hsl' (by simp) (by simp;omega) hm ?_ ?_)
 all_goals grind
theorem ArN (h:okC c) {i:Int} (hi:0<=i) (hi':i<ps.length) (hps:AkY ps) (hm0:0<=most) (hm:most<=1000) :
  Hs (VK c i ps most) λp=>okC p.2/\Sc ps i most p.1:=by
 refine(Hs.ix hi hi' λx hx=>hx).bind λnp hnp=>(AwE h (by omega) (by omega)).bind λsl hsl=>?_
 obtain⟨hc0,hsl1,hsl2⟩:=hsl;have hnp4:=hps.1 np (aAB hnp);refine Hs.loop (λs=>okC ⟨s.1,s.2.1⟩/\0<=s.2.2.2/\s.2.2.2<=sl.1.length/\(s.2.2.1.length:Int)<=s.2.2.2/\∀ x∈s.2.2.1,PV sl.1 np i ps (· = -1) x) (λs=>sl.1.length-s.2.2.2.toNat) ⟨hc0,by simp,by simp,by simp,by simp⟩ ?_
 rintro⟨l,a,code,s⟩ ⟨hc,hs0,hs1,hcl,hall⟩;simp only at hc hs0 hs1 hcl hall;refine .dec (λhlt=>?_) λhlt=>?_
 ·have hlt:s<sl.1.length:=hlt;have w:IntKind.i64.wrap (s+1)=s+1:=wrap64 (by omega) (by omega)
  refine(NM hc (by omega) (by omega)).bind λr hr=>.dec (λ_=>?_) λ_=>?_
  ·refine(NM hr.1 (by omega) (by omega)).bind λq hq=>.chk (by simp;omega) (.cnt ⟨⟨hq.1,by grind,by grind,by simp_all,?_⟩,by grind⟩)
   intro y hy;rcases aAM.1 hy with h2|h2
   ·simp_all
   ·rw[aAN]at h2;subst h2;exact .store _ _ hs0 hlt hq.2
  ·exact .cnt ⟨⟨hr.1,by grind,by grind,by grind,hall⟩,by grind⟩
 ·have w:IntKind.i64.wrap (most+1)=most+1:=wrap64 (by omega) (by omega)
  refine .lft ((NM hc (by omega) (by omega)).bind λr hr=>?_)
  refine Hs.loop (λs=>okC ⟨s.1,s.2.1⟩/\s.2.2.2.1=sl.1/\0<=s.2.2.2.2/\s.2.2.2.2<=most/\(s.2.2.1.length:Int)<=6+5*(most-s.2.2.2.2)/\∀ x∈s.2.2.1,PV sl.1 np i ps (· = -1) x) (λs=>s.2.2.2.2.toNat) ⟨hr.1,rfl,hr.2.1,by grind,by grind,hall⟩ ?_
  rintro⟨l,a,code,sl',n⟩ ⟨hc,rfl,hn0,hn1,hcl,hall⟩;simp only at hc hn0 hn1 hcl hall;refine .dec (λhlt=>?_) λhlt=>.lft ?_
  ·have hlt:0<n:=hlt;have w:IntKind.i64.wrap (n-1)=n-1:=wrap64 (by omega) (by omega)
   refine(Axl hc (· = -1) (by grind) hnp4.2 hi hi' hps).bind λb hb=>.chk (by simp;omega) ?_
   have hall2:∀ x∈code++b.1,PV sl.1 np i ps (· = -1) x:=by
    grind
   have hall3:∀ x,PV sl.1 np i ps (· = -1) x->∀ y∈(code++b.1)++[x],PV sl.1 np i ps (· = -1) y:=by
    grind
   refine(NM hb.1 (by omega) (by omega)).bind λr hr=>.beq (λ_=>?_) λ_=>.beq (λ_=>?_) λ_=>?_
   ·refine(NM hr.1 (by omega) (by omega)).bind λq hq=>.chk (by simp;omega) (.cnt ⟨⟨hq.1,rfl,by grind,by grind,by grind,hall3 _ (.branch _ _ hq.2 rfl)⟩,by grind⟩)
   ·refine(NM hr.1 (by omega) (by omega)).bind λq hq=>.beq (λ_=>?_) λ_=>?_
    ·exact .chk (by simp;omega) (.cnt ⟨⟨hq.1,rfl,by grind,by grind,by grind,hall3 _ (.jump _ rfl)⟩,by grind⟩)
    ·exact .cnt ⟨⟨hq.1,rfl,by grind,by grind,by grind,hall2⟩,by grind⟩
   ·exact .cnt ⟨⟨hr.1,rfl,by grind,by grind,by grind,hall2⟩,by grind⟩
  ·refine(NM hc (by omega) (by omega)).bind λr hr=>.beq (λ_=>?_) λ_=>?_
   ·exact(AsA hr.1).bind λq hq=>AwX hq.1 hnp (by omega) hsl2 (by omega) hm hall (.inr ⟨_,hq.2,rfl⟩)
   ·exact AwX hr.1 hnp (by omega) hsl2 (by omega) hm hall (.inl rfl)
def AeX (funcs most:Int) (p:Nv):Prop :=
 ∃ ps,AkY ps/\ps[0]? =some 0/\1<=ps.length/\(ps.length:Int)<=funcs/\p.Funcs.length=ps.length/\∀ (j:Nat) f,p.Funcs[j]? =some f->Sc ps j most f
theorem Atp (h:okC c) {funcs:Int} (hf:1<=funcs) (hf':funcs<=1000) (hm0:0<=most) (hm:most<=1000) :
  Hs (Wh c funcs most) λp=>okC p.2/\AeX funcs most p.1:=by
 refine(NM h hf (by omega)).bind λr hr=>?_
 refine Hs.loop (λs=>okC ⟨s.1,s.2.1⟩/\(∀ v∈s.2.2.1,0<=v/\v<4)/\s.2.2.1[0]? =some 0/\0<=s.2.2.2/\(s.2.2.1.length:Int)+s.2.2.2<=funcs) (λs=>s.2.2.2.toNat) ⟨hr.1,by simp,by simp,hr.2.1,by simp;omega⟩ ?_
 rintro⟨l,a,ps,n⟩ ⟨hc,hv,hz,hn0,hn1⟩;simp only at hc hv hz hn0 hn1;have hp1:1<=ps.length:=by grind
 refine .dec (λhlt=>?_) λhlt=>.lft ?_
 ·have hlt:0<n:=hlt;have w:IntKind.i64.wrap (n-1)=n-1:=wrap64 (by omega) (by omega)
  refine(NM hc (by omega) (by omega)).bind λq hq=>.chk (by simp;omega) (.cnt ⟨⟨hq.1,?_,by grind,by grind,by grind⟩,by grind⟩)
  grind
 ·have hps:AkY ps:=⟨hv,by omega⟩
  refine Hs.loop (λs=>okC ⟨s.1,s.2.1⟩/\s.2.2.2.2=ps/\∃ i:Nat,s.2.2.2.1=(i:Int)/\i<=ps.length/\s.2.2.1.length=i/\∀ (j:Nat) f,s.2.2.1[j]? =some f->Sc ps j most f) (λs=>ps.length-s.2.2.2.1.toNat) ⟨hc,rfl,0,rfl,aAE _,rfl,λj f hj=>by simp at hj⟩ ?_
  rintro⟨l,a,fs,i',ps'⟩ ⟨hc,hpe,i,hie,hi,hfl,hall⟩;simp only at hc hpe hie hi hfl hall;subst hpe hie;unfold Xj;refine .dec (λhlt=>?_) λhlt=>.lft (.pure ⟨hc,ps',hps,hz,hp1,by omega,?_,hall⟩)
  ·have hlt:i<ps'.length:=Int.ofNat_lt.1 hlt;have w:=Nw (show i<9223372036854775807 by omega)
   have hpl:=hps.2;refine .chk (by simp;omega) ((ArN hc (i:=(i:Int)) (ps:=ps') (by omega) (by omega) hps hm0 hm).bind λf hf=>.chk (by simp;omega) (.cnt ⟨⟨hf.1,rfl,i+1,w,hlt,by simp;omega,?_⟩,by grind⟩))
   grind
  grind
def Rc (x:Lo) (k:Int):List Int :=
 if x.Op=20 then[x.A]else if x.Op=23\/x.Op=24 then[]else
 if x.Op=21 then(if x.B<k+1 then[x.B,k+1]else if k+1<x.B then[k+1,x.B]else[k+1])else[k+1]
theorem Arf (h:f.Code[k]? =some x) (hk:k<9223372036854775807):ZJ f (k:Int)=some (Rc x k):=by
 obtain⟨hl,hx⟩:=aAC.1 h;have hnl:¬ f.Code.length<=k:=by omega
 have w:IntKind.i64.wrap ((k:Int)+1)=(k:Int)+1:=wrap64 (by omega) (by omega)
 unfold ZJ AaP Rc;obtain⟨op,a,b,c,i⟩:=x
 by_cases h20:op=20
 ·subst h20;simp[hx,hl,hnl,show ¬ (k:Int)<0 by omega]
 ·by_cases h23:op=23
  ·simp_all[RF]
  ·by_cases h24:op=24
   ·simp_all[RF]
   ·by_cases h21:op=21
    ·subst h21
     by_cases hb:b<(k:Int)+1
     ·simp[hx,hl,hnl,show ¬ (k:Int)<0 by omega,RF,w,hb]
     ·by_cases hb':(k:Int)+1<b
      ·simp[hx,hl,hnl,show ¬ (k:Int)<0 by omega,RF,w,hb,hb']
      ·simp[hx,hl,hnl,show ¬ (k:Int)<0 by omega,RF,w,hb,hb']
    ·simp[hx,hl,hnl,show ¬ (k:Int)<0 by omega,RF,w,h20,h23,h24,h21]
def Pm (x:Lo):List Int:=if x.Op=15\/x.Op=17 then[x.B]else[]
structure NS (f:Nn):Prop where
 len:1<=f.Code.length
 len':f.Code.length<=10000
 slots:f.Slots.length<=500
 next:∀ (k:Nat) x,f.Code[k]? =some x->∀ j∈Rc x k,0<=j/\j<f.Code.length
 uses:∀ x∈f.Code,∀ v∈Pm x,0<=v/\v<f.Slots.length
theorem Sc.Um {i:Int} (h:Sc ps i most f) (hm:most<=1000):NS f:=by
 have hl:=h.len;have hl':=h.len';have hs:=h.slots;refine⟨hl,by omega,by omega,λk x hx j hj=>?_,λx hx v hv=>?_⟩
 ·have hkl:=(aAC.1 hx).1
  by_cases hk:k+1<f.Code.length
  ·have hins:=h.body k x hx hk;cases hins<;>grind [Rc]
  ·have he:=h.last x (by grind)
   rcases he with rfl|⟨w,_,rfl⟩<;>simp[Rc]at hj
 ·obtain⟨k,hk⟩:=aAH hx;have hkl:=(aAC.1 hk).1
  by_cases hk1:k+1<f.Code.length
  ·have hins:=h.body k x hk hk1;cases hins<;>grind [Pm]
  ·have he:=h.last x (by grind)
   rcases he with rfl|⟨w,_,rfl⟩<;>simp[Pm]at hv
def Od (n:Int) (s:List Int):Prop:=OB s/\∀ x∈s,x<n
theorem Od.nil (n:Int):Od n []:=⟨OB.nil,λx hx=>by cases hx⟩
theorem Od.add {n m:Int} (h:Od n s) (hm:0<=m/\m<n) (hn:n<=512):Od n (Rf m s)/\Tp s m=some (Rf m s):=by
 have hl:=h.1.length_le;refine⟨?_,add_eq s m (by omega)⟩
 unfold Rf;rw[if_pos (by omega)]
 refine⟨h.1.UB (by omega),λx hx=>?_⟩
 rw[AcH]at hx;rcases hx with rfl|hx
 ·exact hm.2
 ·exact h.2 x hx
def RowsIn (n:Int) (g:List (List Int)):Prop:=∀ s∈g,Od n s
theorem RowsIn.set {n:Int} (h:RowsIn n g) (hs:Od n s):RowsIn n (g.set i s):=by
 intro x hx;rcases aAd hx with h1|rfl
 ·exact h x h1
 ·exact hs
def inN (x:Lo) (s:List Int):List Int:=QT (if x.Op=16\/x.Op=17 then s.filter (· != x.A)else s) (Pm x)
theorem AwW (x:Lo) (s:List Int) (h:s.length<=900000):AcQ x s=some (inN x s):=by
 obtain⟨op,a,b,c,i⟩:=x;have hu:UZ ⟨op,a,b,c,i⟩=some (Pm ⟨op,a,b,c,i⟩):=by
  grind [UZ,Pm]
 have hul:(Pm ⟨op,a,b,c,i⟩).length<=1:=by grind [Pm]
 have hfl:(s.filter (· != a)).length<=s.length:=List.length_filter_le ..;have hr:=Apt s a (by omega)
 grind [union_eq,AcQ,Sp,Sa,inN]
theorem AcD (hf:NS f) (hx:x∈f.Code) (hs:Od f.Slots.length s) :
  Od f.Slots.length (inN x s)/\∀ v,v∈inN x s↔(v∈s/\¬ ((x.Op=16\/x.Op=17)/\x.A=v))\/v∈Pm x:=by
 have hsl:=hf.slots;have h0:Od f.Slots.length (if x.Op=16\/x.Op=17 then s.filter (· != x.A)else s):=by
  split
  ·exact⟨hs.1.filter _,λv hv=>hs.2 v (aAc.1 hv).1⟩
  ·exact hs
 obtain⟨h1,h2⟩:=Vc (n:=f.Slots.length) (by omega) (b:=Pm x) h0 (hf.uses x hx)
 refine⟨h1,λv=>?_⟩
 unfold inN
 grind
def Ns (f:Nn) (j:Int):Lo:=(f.Code[j.toNat]?).getD default
def NP (l:List (List Int)) (j:Int):List Int:=(l[j.toNat]?).getD []
def YA (f:Nn) (l:List (List Int)) (k:Int):List Int:=(Rc (Ns f k) k).foldl (λo j=>QT o (inN (Ns f j) (NP l j))) []
def Ua (f:Nn) (l:List (List Int)):List (List Int):=(List.range f.Code.length).map λk=>YA f l (k:Nat)
def RH (f:Nn) (l:List (List Int)):Prop:=l.length=f.Code.length/\∀ s∈l,Od f.Slots.length s
theorem AqG {f:Nn} (hf:NS f) {l:List (List Int)} (hl:RH f l):∀ {js:List Int} {o:List Int},(∀ j∈js,0<=j/\j<f.Code.length)->Od f.Slots.length o ->
  Od f.Slots.length (js.foldl (λo j=>QT o (inN (Ns f j) (NP l j))) o)/\∀ v,v∈js.foldl (λo j=>QT o (inN (Ns f j) (NP l j))) o↔v∈o\/∃ j∈js,v∈inN (Ns f j) (NP l j)
 | [],o,_,ho=>⟨ho,λv=>by simp⟩
 | j::js,o,hj,ho=>by
  have hsl:=hf.slots;have h0:=hj j (aAJ ..);have hc:Ns f j∈f.Code:=by
   grind [Ns]
  have ho':Od f.Slots.length (NP l j):=by
   unfold NP;rw[aAA (show j.toNat<l.length by have:=hl.1;omega)]
   exact hl.2 _ (aAF _)
  obtain⟨h1,h2⟩:=AcD hf hc ho';obtain⟨h3,h4⟩:=Vc (n:=f.Slots.length) (by omega) (b:=inN (Ns f j) (NP l j)) ho λx hx=>⟨(h1.1.2 x hx).1,h1.2 x hx⟩
  obtain⟨h5,h6⟩:=AqG hf hl (λq hq=>hj q (aAK _ hq)) h3
  grind
theorem AaI (hf:NS f) {l:List (List Int)} (hl:RH f l) (hk:k<f.Code.length) :
  Od f.Slots.length (YA f l k)/\∀ v,v∈YA f l k↔∃ j∈Rc (Ns f k) k,v∈inN (Ns f j) (NP l j):=by
 have hx:f.Code[k]? =some (Ns f k):=by grind [Ns]
 obtain⟨h1,h2⟩:=AqG hf hl (js:=Rc (Ns f k) k) (hf.next k _ hx) (Od.nil _)
 grind [YA]
theorem Aru (hf:NS f) {l:List (List Int)} (hl:RH f l):RH f (Ua f l):=by
 refine⟨by simp[Ua],λs hs=>?_⟩
 obtain⟨k,hk,rfl⟩:=List.mem_map.1 hs
 grind [AaI]
theorem step_eq (hf:NS f) {l:List (List Int)} (hl:RH f l):AbX f ⟨l⟩=some ⟨Ua f l⟩:=by
 have hlen:=hf.len';unfold AbX;rw[Oa (by omega)]
 have key:Hs (NA (λs:List (List Int)×Int=>Yj f ⟨l⟩ s.1 s.2) (aAv (f.Code.length:Int).toNat ([]:List Int),0)) λr=>r=⟨Ua f l⟩:=by
  refine Hs.loop (λs=>s.1.length=f.Code.length/\∃ k:Nat,s.2=(k:Int)/\k<=f.Code.length/\∀ (j:Nat) r,s.1[j]? =some r->r=if j<k then YA f l j else[]) (λs=>f.Code.length-s.2.toNat) ⟨by simp,0,rfl,aAE _,λj r hj=>?_⟩ ?_
  ·grind
  rintro⟨x,k'⟩ ⟨hxl,k,hke,hk,hall⟩;simp only at hxl hke hall;subst hke
  by_cases hlt:k<f.Code.length
  ·have w:=Nw (show k<9223372036854775807 by omega)
   have hx:f.Code[k]? =some (Ns f k):=by grind [Ns]
   have hxk:x[k]? =some []:=by
    grind
   have hset:x.set k []=x:=by
    grind [aAu]
   have inner:=SC (body:=λs:List (List Int)×Int=>Yk (Rc (Ns f k) k) k f ⟨l⟩ s.1 s.2) (Rc (Ns f k) k) (λ(o:List Int) i=>(x.set k o,i)) (λo _=>Od f.Slots.length o)
    (λo js=>some (.inl (x.set k (js.foldl (λo j=>QT o (inN (Ns f j) (NP l j))) o),((k+1:Nat):Int))))
    (λo _=>⟨_,by simp[Yk,AaQ,w];rfl,by simp⟩) (λo i j r ho hd hi hj=>by
     left
     have wi:=Nw (show i<9223372036854775807 by
      grind [Rc])
     have hjm:=hf.next k _ hx j (aAB hj);have hjc:f.Code[j.toNat]? =some (Ns f j):=by grind [Ns]
     have hjl:j.toNat<l.length:=by have:=hl.1;omega
     have hjo:l[j.toNat]? =some (NP l j):=by grind [NP]
     have hos:Od f.Slots.length (NP l j):=hl.2 _ (aAB hjo);have hsl:=hf.slots;obtain⟨g1,g2⟩:=AcD hf (aAB hjc) hos;obtain⟨g3,g4⟩:=Vc (n:=f.Slots.length) (by omega) (b:=inN (Ns f j) (NP l j)) ho λx hx=>⟨(g1.1.2 x hx).1,g1.2 x hx⟩
     have e1:=AwW (Ns f j) (NP l j) (by have:=hos.1.length_le;omega)
     have e2:=union_eq o (inN (Ns f j) (NP l j)) (by have:=ho.1.length_le;have:=g1.1.length_le;omega)
     obtain⟨_,hje⟩:=aAC.1 hj;refine⟨QT o (inN (Ns f j) (NP l j)),g3,?_,by simp⟩
     simp_all[Yk,OZ]) [] (Od.nil _)
   simp only[hset]at inner;refine⟨.inl (x.set k (YA f l k),((k+1:Nat):Int)),?_,⟨by simp_all,k+1,rfl,hlt,λj r hj=>?_⟩,by grind⟩
   ·simp only[Yj,decide_eq_true (Int.ofNat_lt.2 hlt),cond_true,Arf hx (by omega),aA]
    exact inner
   grind
  ·refine⟨.inr ⟨x⟩,by simp[Yj,hlt],?_⟩
   congr 1;refine List.ext_getElem (by grind [Ua]) λj h1 h2=>?_
   have:=hall j _ (aAA h1);rw[this,if_pos (by omega)]
   simp[Ua]
 obtain⟨r,h1,rfl⟩:=key;exact h1
def LE (a b:List (List Int)):Prop:=∀ (k:Nat) s t,a[k]? =some s->b[k]? =some t->∀ v∈s,v∈t
theorem LE.trans {a b c:List (List Int)} (h1:LE a b) (h2:LE b c) (hl:a.length=b.length):LE a c:=by
 intro k s t hs ht v hv;have hk:=(aAC.1 hs).1;have hb:b[k]? =some (b[k]'(by omega)):=aAA _
 exact h2 k _ t hb ht v (h1 k s _ hs hb v hv)
theorem AuT:∀ {a b:List (List Int)},a.length=b.length->(∀ s∈a,OB s)->(∀ s∈b,OB s)->LE a b->(a.map List.length).sum<=(b.map List.length).sum/\((a.map List.length).sum=(b.map List.length).sum->a=b)
 | [],[],_,_,_,_=>⟨aAQ _,λ_=>rfl⟩
 | [],y::b,h,_,_,_=>by simp at h
 | x::a,[],h,_,_,_=>by simp at h
 | x::a,y::b,h,ha,hb,hle=>by
  have hsub:=(ha x (aAJ ..)).sub (hb y (aAJ ..)) (hle 0 x y rfl rfl);obtain⟨h1,h2⟩:=AuT (a:=a) (b:=b) (by simp_all) (λs hs=>ha s (aAK _ hs)) (λs hs=>hb s (aAK _ hs)) λk s t hs ht=>hle (k+1) s t (by simp_all) (by simp_all)
  grind
theorem Apy:∀ {a:List (List Int)},(∀ s∈a,OB s)->(a.map List.length).sum<=512*a.length
 | [],_=>by simp
 | x::a,ha=>by
  have h1:=(ha x (aAJ ..)).length_le;have h2:=Apy (a:=a) λs hs=>ha s (aAK _ hs)
  grind
theorem AvX (hf:NS f) (hx:x∈f.Code) {t:List Int} (hs:Od f.Slots.length s) (ht:Od f.Slots.length t) (h:∀ v∈s,v∈t):∀ v∈inN x s,v∈inN x t:=by
 intro v hv;rw[(AcD hf hx hs).2]at hv;rw[(AcD hf hx ht).2]
 grind
theorem Apw (hf:NS f) {a b:List (List Int)} (ha:RH f a) (hb:RH f b) (h:LE a b):LE (Ua f a) (Ua f b):=by
 intro k s t hs ht v hv;have hk:k<f.Code.length:=by grind [Ua]
 have e1:s=YA f a k:=by grind [Ua]
 have e2:t=YA f b k:=by grind [Ua]
 subst e1 e2;rw[(AaI hf ha hk).2]at hv;rw[(AaI hf hb hk).2];obtain⟨j,hj,hv⟩:=hv;have hx:f.Code[k]? =some (Ns f k):=by grind [Ns]
 have hjm:=hf.next k _ hx j hj;have hjc:f.Code[j.toNat]? =some (Ns f j):=by grind [Ns]
 have hja:a[j.toNat]? =some (NP a j):=by simp[NP,show j.toNat<a.length by have:=ha.1;omega]
 have hjb:b[j.toNat]? =some (NP b j):=by simp[NP,show j.toNat<b.length by have:=hb.1;omega]
 exact⟨j,hj,AvX hf (aAB hjc) (ha.2 _ (aAB hja)) (hb.2 _ (aAB hjb)) (h _ _ _ hja hjb) v hv⟩
structure AnT (f:Nn) (l:List (List Int)):Prop where
 ok:RH f l
 fix:Ua f l=l
 least:∀ b,RH f b->LE (Ua f b) b->LE l b
theorem AmV (hf:NS f):Hs (Yy f) λl=>AnT f l.Out:=by
 have hlen:=hf.len';refine .chk (by omega) ?_
 refine Hs.loop (λl=>RH f l/\LE l (Ua f l)/\∀ b,RH f b->LE (Ua f b) b->LE l b) (λl=>512*f.Code.length-(l.map List.length).sum) ⟨⟨by simp,λs hs=>?_⟩,λk s t hs ht v hv=>?_,λb _ _ k s t hs ht v hv=>?_⟩ ?_
 ·grind [Od.nil]
 ·grind
 ·grind
 ·rintro l ⟨hl,hle,hleast⟩;have hl':=Aru hf hl;have e1:=step_eq hf hl;have e2:AbW ⟨Ua f l⟩ ⟨l⟩=some (decide (Ua f l=l)):=by
   unfold AbW;rw[Atv _ _ (by have:=hl'.1;grind) (λs hs=>by have:=(hl'.2 s hs).1.length_le;omega)]
   rfl
  obtain⟨s1,s2⟩:=AuT (by rw[hl.1,hl'.1]) (λs hs=>(hl.2 s hs).1) (λs hs=>(hl'.2 s hs).1) hle
  have s3:=Apy λs hs=>(hl'.2 s hs).1
  rw[hl'.1]at s3;unfold AcR;rw[e1,aA,e2,aA]
  by_cases he:Ua f l=l
  ·simp only[he,decide_true,cond_true];exact .lft (.pure ⟨hl,he,hleast⟩)
  ·simp only[he,decide_false,cond_false];refine .cnt ⟨⟨hl',Apw hf hl hl' hle,λb hb hb'=>(Apw hf hl hb (hleast b hb hb')).trans hb' (by rw[hl'.1,(Aru hf hb).1])⟩,?_⟩
   grind
theorem AqC (x:Lo):WH x=some (Pm x):=by
 grind [WH,Pm]
theorem AhH (x:Lo):RO x=some (if x.Op=16\/x.Op=17 then(x.A,true)else(0,false)):=by
 grind [RO]
theorem Asw (x:Lo):(Pm x).length<=1:=by grind [Pm]
theorem Avf (x:Lo) (hu:∀ v∈Pm x,0<=v/\v<512):QT [] (Pm x)=Pm x:=by
 unfold Pm at hu ⊢;split
 all_goals simp_all[QT,Rf,UB]
theorem AyM (hs:OB s) (hu:∀ v∈Pm x,0<=v/\v<512):AdO x s=some (inN x s):=by
 have hl:=Asw x;have h1:=AvD hu (by omega)
 rw[Avf x hu]at h1;have h2:=Aqq hs x.A;have h3:=AgW (hs.filter (· != x.A)) hu (by omega)
 have h4:=AgW hs hu (by omega)
 unfold AdO inN;rw[AhH,aA,AqC]
 grind
theorem ArG {a b:List Int} (ha:OB a) (hb:OB b):Xd a b=some (a.filter λv=>!decide (v∈b)):=by
 obtain⟨r,h1,h2⟩:=ArH a b (by have:=ha.length_le;omega) (by have:=hb.length_le;omega)
 rw[h1,h2.eq (TU.Anw (ha.filter λv=>!decide (v∈b))) λv _ _=>by simp_all]
theorem AuJ (a b:List Int) (ha:a.length<=16777215) (hb:b.length<=9223372036854775807):AaA a b=some (a.filter λv=>!decide (v∈b)):=by
 unfold AaA;have:=SC (body:=λp:List Int×Int=>Vl a b p.1 p.2) a (λ(out:List Int) i=>(out,i)) (λout i=>out.length<=i) (λout l=>some (out++l.filter λv=>!decide (v∈b)))
  (λout _=>⟨out,by simp[Vl],by simp⟩) (λout i x r ho hd hi hx=>by
   have w:=Nw (show i<9223372036854775807 by omega)
   obtain⟨_,rfl⟩:=aAC.1 hx;left
   by_cases h:a[i]∈b
   ·exact⟨out,by omega,by simp_all[Vl,Afj],by simp[h]⟩
   ·exact⟨out++[a[i]],by simp;omega,by simp[Vl,hi,Afj b _ hb,h,w,show out.length<=16777215 by omega],by simp[h]⟩)
  [] (by simp)
 simp_all
theorem AsB (ht:RV t) (n:Int):Ry t n=some (decide (0<=n/\n<512)&&hasB t n,t):=by
 unfold Ry;rw[AgN,aA]
 by_cases h:0<=n/\n<512
 ·rw[decide_eq_true h];obtain⟨h0,h1⟩:=h;have hi:n.toNat / 64<8:=by omega
  have hw:=ht.word hi;simp only[cond_true,Bool.true_and];rw[Atq h0 h1,Oa (by omega),aAD,Zu hi,aA,Oa (Aqe n).1,(Aqe n).2 h0 h1]
  have e:Nat.min (n.toNat % 64) IntKind.u64.bits=n.toNat % 64:=Nat.min_eq_left (by show n.toNat % 64<=64;omega)
  have e2:(Ub t (n.toNat / 64)).fdiv (2 ^ (n.toNat % 64))=(((Ub t (n.toNat / 64)).toNat / 2 ^ (n.toNat % 64):Nat):Int):=by
   rw[Int.fdiv_eq_ediv_of_nonneg _ (Int.pow_nonneg (by omega))]
   have:Ub t (n.toNat / 64)=(((Ub t (n.toNat / 64)).toNat:Nat):Int):=by have:=hw.1;omega
   grind
  have hlt:(Ub t (n.toNat / 64)).toNat / 2 ^ (n.toNat % 64)<18446744073709551616:=Nat.lt_of_le_of_lt (Nat.div_le_self ..) hw.toNat_lt;rw[e,e2,AwT (WW.nat hlt) ⟨by omega,by omega⟩]
  congr 2;unfold hasB Acy
  grind
 grind
theorem Ayn (t:BS) (n:Int):Sv t n=(Ry t n).map (·.1):=by
 unfold Sv Ry;rw[Option.map_bind];congr 1;funext b;cases b
 ·rfl
 ·simp only[cond_true,Function.comp]
  by_cases h:0<=IntKind.i64.wrap (n.tdiv 64)/\IntKind.i64.wrap (n.tdiv 64)<8
  ·rw[Oa h,Oa h,Option.map_bind];congr 1;funext e;simp_all[chk]
  grind [chk]
theorem Aym (hl:l.length<=9000000000000000000) {n:Int} (h0:0<=n) (h1:n<512):Abx l n=some (decide (n∈l)):=by
 unfold Abx;obtain⟨r,e1,e2,e3⟩:=AeJ l hl
 grind [AsB]
theorem AtB {a b:List Int} (ha:∀ v∈a,0<=v/\v<512) (hla:a.length<=1000000) (hb:b.length<=9000000000000000000):Yc a b=some (decide (∀ v∈a,v∈b)):=by
 unfold Yc;obtain⟨r,e1,e2,e3⟩:=AeJ b hb;rw[e1,aA];unfold Qj;have key:∃ k:Int,QF a r=some k/\(0<=k↔¬ ∀ v∈a,v∈b):=by
  have h1:∀ v,0<=v->v<512->Ue v r=some (!decide (v∈b)):=by
   grind [Ue,Ayn,AsB]
  refine Hs.loop (λi=>0<=i/\i<=a.length/\∀ v∈a.take i.toNat,v∈b) (λi=>a.length-i.toNat) ⟨by omega,by omega,by simp⟩ λi ⟨h0,h2,h3⟩=>?_
  refine .dec (λh=>?_) λh=>?_
  ·refine Hs.bind (P:=λx=>a[i.toNat]? =some x) (.ix h0 h λx hx=>hx) λx hx=>?_
   have hm:=aAB hx;rw[h1 x (ha x hm).1 (ha x hm).2,aA];refine .cond (λe=>.lft (.pure ?_)) λe=>.cnt ⟨⟨?_,?_,?_⟩,?_⟩
   ·refine⟨λ_ hall=>?_,λ_=>h0⟩
    simp_all
   all_goals rw[Alj (by omega) (by omega)]
   ·omega
   ·omega
   ·rw[show(i+1).toNat=i.toNat+1 by omega,aAY,hx]
    grind
   grind
  ·refine .lft (.pure ⟨λk=>absurd k (by decide),λk=>absurd (λv hv=>h3 v ?_) k⟩)
   grind [aAX]
 grind
theorem AoU (hs:OB s) {n:Int} (h:0<=n/\n<512):Abw s n=some (Rf n s):=by
 unfold Abw;obtain⟨r,e1,e2,e3⟩:=AeJ s (by have:=hs.length_le;omega)
 obtain⟨u,f1,f2,f3⟩:=Ara e2 n true;obtain⟨q,g1,g2,g3⟩:=AbC f2;rw[e1,aA,f1,aA,g1,aA];congr 1;have hk:=Od.AeZ (n:=512) (m:=n) (s:=s) ⟨hs,λx hx=>(hs.2 x hx).2⟩ h (aAW _)
 refine g3.1.ext hk.1 λv=>?_
 rw[g3.2,hk.2.2];constructor
 ·simp_all
 ·intro hv;have hr:0<=v/\v<512:=hv.elim (λe=>e▸h) (hs.2 v)
  simp_all
structure GrY (g:List (List Int)):Prop where
 len:g.length<=500
 row:∀ s∈g,OB s/\∀ x∈s,x<g.length
theorem GrY.at_ (h:GrY g) (hi:g[i]? =some s):OB s/\∀ x∈s,x<g.length:=h.row s (aAB hi)
theorem Asj {ι R:Type} {body:ι->Option (ι⊕R)} {s:ι} {m:Option R} (h:body s=lft m):NA body s=m:=by
 rw[Vo,h];cases m<;>rfl
def nxY (g:List (List Int)) (done:List Int):Nat->Nat->Int
 | 0,_=>-1
 | d+1,k=>if ¬ (k:Int)∈done/\∀ v∈g.getD k [],v∈done then k else nxY g done d (k+1)
theorem AqV {g:List (List Int)} {done:List Int}:∀ (d k:Nat),nxY g done d k= -1\/∃ j:Nat,nxY g done d k=j/\k<=j/\j<k+d/\¬ (j:Int)∈done/\∀ v∈g.getD j [],v∈done
 | 0,_=>.inl rfl
 | d+1,k=>by
  unfold nxY;split
  ·grind
  ·rcases AqV (g:=g) (done:=done) d (k+1)with h|⟨j,h1,h2,h3,h4⟩
   all_goals grind
section
variable {g:List (List Int)} (hg:GrY g) {done:List Int} (hd:OB done)
 include hg hd
theorem Apc (order:List Int):∀ (d k:Nat),k+d=g.length->NA (λs=>Sy g done order s) (k:Int)=Vj order done (nxY g done d k)
 | 0,k,hk=>Asj (by
  grind [Sy,nxY])
 | d+1,k,hk=>by
  have hl:=hg.len;have hk':(k:Int)<g.length:=by omega
  have hkl:k<g.length:=by omega
  have hx:g[k]? =some g[k]:=aAA hkl;have hgd:g.getD k []=g[k]:=by simp_all
  obtain⟨h1,h2⟩:=hg.at_ hx;have hdl:=hd.length_le;have h1l:=h1.length_le;have w:IntKind.i64.wrap ((k:Int)+1)=((k+1:Nat):Int):=by grind [Alj]
  have hH:=Aym (l:=done) (by omega) (n:=(k:Int)) (by omega) (by omega)
  have hW:=AtB (a:=g[k]) (b:=done) h1.2 (by omega) (by omega)
  have ih:=Apc order d (k+1) (by omega)
  by_cases hc:¬ (k:Int)∈done/\∀ v∈g.getD k [],v∈done
  ·have hc2:∀ v∈g[k],v∈done:=hgd▸hc.2;refine Asj ?_;simp_all[nxY,Sy]
  ·unfold nxY;rw[if_neg hc,<- ih,Vo];have hb:Sy g done order (k:Int)=some (.inl ((k+1:Nat):Int)):=by
    by_cases e:(k:Int)∈done
    ·simp_all[Sy]
    simp_all[Sy,decide_eq_false]
   rw[hb]
end
structure TC (g:List (List Int)) (order done:List Int):Prop where
 set:OB done
 mem:∀ v,v∈done↔v∈order
 nodup:order.Nodup
 rng:∀ x∈order,0<=x/\x<g.length
 top:∀ (j:Nat) x,order[j]? =some x->∀ v∈g.getD x.toNat [],v∈order.take j
theorem TC.nil (g:List (List Int)):TC g [] []:=⟨⟨by simp,by simp⟩,by simp,by simp,by simp,by simp⟩
theorem TC.snoc (hg:GrY g) {order done:List Int} (h:TC g order done) {j:Nat} (hj:j<g.length) (hn:¬ (j:Int)∈done) (hc:∀ v∈g.getD j [],v∈done):TC g (order++[(j:Int)]) (Rf (j:Int) done):=by
 have hl:=hg.len;have hk:=Od.AeZ (n:=512) (m:=(j:Int)) (s:=done) ⟨h.set,λx hx=>(h.set.2 x hx).2⟩ (by omega) (aAW _)
 refine⟨hk.1,λv=>by rw[hk.2.2,h.mem];grind,?_,?_,?_⟩
 ·refine List.nodup_append.2 ⟨h.nodup,by simp,λa ha b hb e=>?_⟩
  simp at hb;subst hb;subst e;exact hn ((h.mem _).2 ha)
 ·intro x hx;rcases aAM.1 hx with hx|hx
  ·exact h.rng x hx
  simp_all
 ·intro i x hi v hv
  by_cases e:i<order.length
  ·rw[aAP e]at hi;rw[List.take_append_of_le_length (by omega)]
   exact h.top i x hi v hv
  ·rw[List.getElem?_append_right (by omega)]at hi
   have hi0:i-order.length=0:=by
    grind
   rw[hi0]at hi;simp at hi;subst hi;have:i=order.length:=by omega
   subst this;rw[List.take_left];exact(h.mem v).1 (hc v hv)
def Adu (g:List (List Int)) (order done:List Int):(List Int×List Int)⊕(List Int×Int) :=
 if order.length<g.length then(if nxY g done g.length 0<0 then .inr ([],8)else .inl (order++[nxY g done g.length 0],Rf (nxY g done g.length 0) done))else .inr (order,0)
theorem Arv (hg:GrY g) {order done:List Int} (h:TC g order done) {s:List Int×List Int} (hs:Adu g order done= .inl s):TC g s.1 s.2/\s.1.length=order.length+1/\order.length<g.length:=by
 unfold Adu at hs;split at hs
 ·rename_i hlt;split at hs
  all_goals grind [AqV,TC.snoc]
 ·cases hs
end Go.Proofs.YtcaoepecbgggcaaGreatDoor
namespace Go.Dw
open Go
section
variable {α β ι R:Type}
def Le (x y:Option α):Prop:=∀ z,x=some z->y=some z
theorem Le.refl (x:Option α):Le x x:=λ_ h=>h
theorem Le.none (y:Option α):Le none y:=λ_ h=>nomatch h
theorem Le.trans {x y z:Option α} (h:Le x y) (h':Le y z):Le x z:=λr hr=>h' r (h r hr)
theorem Le.bind {x y:Option α} {f g:α->Option β} (h:Le x y) (hf:∀ a,Le (f a) (g a)):Le (x.bind f) (y.bind g):=by
 intro z hz;obtain⟨a,h1,h2⟩:=aAL.1 hz;exact aAL.2 ⟨a,h a h1,hf a z h2⟩
theorem Le.chk {p:Prop} [Decidable p] {x y:Option α} (h:Le x y):Le (chk p x) (Go.Dw.chk p y):=by
 intro z hz;unfold Go.Dw.chk at hz ⊢;split at hz
 ·rename_i hp;rw[if_pos hp];exact h z hz
 ·cases hz
theorem Le.cond {b:Bool} {x y x' y':Option α} (h:Le x y) (h':Le x' y'):Le (bif b then x else x') (bif b then y else y'):=by
 grind
theorem Le.loop {body body':ι->Option (ι⊕R)} {s:ι} (h:∀ s,Le (body s) (body' s)):Le (NA body s) (NA body' s):=by
 intro r hr;obtain⟨n,hn⟩:=Adz.1 hr;clear hr
 induction n generalizing s with
 | zero=>cases hn
 | succ n ih =>
  rw[Vo];unfold AbQ at hn;cases e:body s with
  | none=>simp_all
  | some z =>
   rw[e]at hn;rw[h s z e]
   grind
theorem Axz {m:Nat->Option α} (hm:∀ n,Le (m n) (m (n+1))) {n:Nat} {r:α} (h:m n=some r):Akz m=some r:=by
 have up:∀ k n,Le (m n) (m (n+k)):=by
  intro k
  induction k with
  | zero=>intro n;exact .refl _
  | succ k ih=>intro n;exact(ih n).trans (hm (n+k))
 obtain⟨r',h1,h2⟩:=AxA (P:=λr'=>r'=r) h λn' r' h'=>by
  have a:=up n' n r h;have b:=up n n' r' h'
  grind
 rw[h1,h2]
end
end Go.Dw
namespace Go.Proofs.YtcaoepecbgggcaaGreatDoor
open Go Go.Dw Go.Proofs
attribute [local simp] Oa aAG
variable {p:Nv} {i k:Nat} {s ps to used:List Int} {j a v u:Int} {x:Lo} {g l:List (List Int)} {m:List (List Bool)} {r:ND} {f:Nn} {mv:Lo->Int->Bool} {Q:Nat->Int->Prop} {I:List NB×Int->Prop} {μ:List NB×Int->Nat} {s0:List NB×Int}
def bF (g:List (List Int)) (w:List Int):Nat->Nat->Option Int
 | 0,_=>none
 | n+1,i=>(g[i]?).bind λs=>(w[i]?).bind λx=>(s.foldlM (λa j=>(bF g w n j.toNat).map (OA a)) 0).bind λm=>if x+m<=2147483647 then some (x+m)else none
def vB (g:List (List Int)) (w:List Int) (i:Nat):Option Int:=bF g w g.length i
def mB (g:List (List Int)) (w:List Int) (s:List Int):Option Int:=s.foldlM (λa j=>(vB g w j.toNat).map (OA a)) 0
theorem foldlM_congr {α β:Type} {f h:β->α->Option β}:∀ {s:List α} {b:β},(∀ a x,x∈s->f a x=h a x)->s.foldlM f b=s.foldlM h b
 | [],_,_=>rfl
 | x::s,b,hx=>by
  simp only[aAn];rw[hx b x (by simp)]
  congr 1;funext c;exact foldlM_congr λa y hy=>hx a y (by simp[hy])
section
variable {g:List (List Int)} {w order done:List Int} (hg:GrY g) (ho:TC g order done)
 include hg ho
theorem AmE {p:Nat} (hp:order[p]? =some (i:Int)) (hs:g[i]? =some s) (hj:j∈s):∃ q:Nat,q<p/\order[q]? =some ((j.toNat:Nat):Int)/\0<=j:=by
 have h:=ho.top p i hp j (by simp_all)
 obtain⟨q,hq⟩:=aAH h;rw[List.getElem?_take]at hq;split at hq
 ·have h0:=((hg.at_ hs).1.2 j hj).1
  grind
 ·cases hq
theorem Axk:∀ (p n m i:Nat),order[p]? =some (i:Int)->p<n->p<m->bF g w n i=bF g w m i:=by
 intro p
 induction p using Nat.strongRecOn with
 | ind p ih =>
  intro n m i hp hn hm;obtain⟨n,rfl⟩:∃ n',n=n'+1:=⟨n-1,by omega⟩
  obtain⟨m,rfl⟩:∃ m',m=m'+1:=⟨m-1,by omega⟩
  unfold bF;cases hs:g[i]? with
  | none=>rfl
  | some s =>
   simp only[aA]
   grind [foldlM_congr,AmE]
theorem Aqf (hl:order.length=g.length) {p:Nat} {x:Int} (hp:order[p]? =some (i:Int)) (hs:g[i]? =some s) (hx:w[i]? =some x) :
  vB g w i=(mB g w s).bind λm=>if x+m<=2147483647 then some (x+m)else none:=by
 have hpl:p<g.length:=hl▸(aAC.1 hp).1;unfold vB mB;obtain⟨k,hk⟩:∃ k,g.length=k+1:=⟨g.length-1,by omega⟩
 rw[hk]
 conv=>lhs;unfold bF
 rw[hs,aA,hx,aA]
 grind [foldlM_congr,AmE,vB,Axk]
end
theorem Avi {b:Int} (ha:0<=a/\a<=2147483647) (hb:0<=b/\b<=2147483647):0<=OA a b/\OA a b<=2147483647:=by
 grind [OA]
def WtY (g:List (List Int)) (w:List Int):Prop:=w.length=g.length/\∀ x∈w,0<=x/\x<=2147483647
theorem AkA {f:Nat->Option Int} (hf:∀ i x,f i=some x->0<=x/\x<=2147483647):∀ {s:List Int} {b m:Int},0<=b/\b<=2147483647->s.foldlM (λa j=>(f j.toNat).map (OA a)) b=some m->0<=m/\m<=2147483647
 | [],b,m,hb,h=>by simp_all
 | x::s,b,m,hb,h=>by
  simp only[aAn,aAw,aAL]at h;obtain⟨c,hc,h⟩:=h;obtain⟨y,hy,rfl⟩:=aAs.1 hc;exact AkA hf (Avi hb (hf _ _ hy)) h
theorem AtI {g:List (List Int)} {w:List Int} (hw:WtY g w):∀ (n i:Nat) (x:Int),bF g w n i=some x->0<=x/\x<=2147483647
 | 0,_,_,h=>by cases h
 | n+1,i,x,h=>by
  unfold bF at h;simp only[aAL]at h;obtain⟨s,hs,y,hy,m,hm,h⟩:=h;have h1:=hw.2 y (aAB hy);have h2:=AkA (AtI hw n) ⟨aAW 0,by decide⟩ hm
  grind
theorem Avg {w:List Int} (hw:WtY g w) {x:Int} (h:vB g w i=some x):0<=x/\x<=2147483647:=AtI hw _ _ _ h
theorem AqT {w:List Int} (hw:WtY g w) {m:Int} (h:mB g w s=some m):0<=m/\m<=2147483647:=AkA (f:=vB g w) (λ_ _ h=>Avg hw h) ⟨aAW 0,by decide⟩ h
theorem AwR {x y:Int} (hx:0<=x/\x<=2147483647) (hy:0<=y/\y<=2147483647):UP x y=some (if x+y<=2147483647 then(x+y,0)else(0,9)):=by
 grind [Alj,UP,SX,Ye,TI]
open Go Go.Dw Go.Proofs
attribute [local simp] Oa aAG
theorem AeI:∀ (n:Nat) (l:List Int),l.Nodup->(∀ x∈l,0<=x/\x<n)->l.length<=n/\(l.length=n->∀ i:Int,0<=i->i<n->i∈l)
 | 0,l,_,hr=>by
  have:l=[]:=by
   cases l with
   | nil=>rfl
   | cons x l=>have:=hr x (by simp);omega
  simp_all
 | n+1,l,hn,hr=>by
  by_cases h:(n:Int)∈l
  ·have h1:=AeI n (l.erase n) (hn.erase _) λx hx=>by
    grind
   grind
  ·have h1:=AeI n l hn λx hx=>by
    grind
   omega
theorem TC.full {order done:List Int} (ho:TC g order done) (hl:order.length=g.length) (hi:i<g.length):∃ p:Nat,order[p]? =some (i:Int) :=
 aAH ((AeI g.length order ho.nodup ho.rng).2 hl i (by omega) (by omega))
theorem AvC {rec0 rec1:NR->Int->Option (Int×Int×NR)} (h:∀ a b,Le (rec0 a b) (rec1 a b)) (s:NR) (k:Int):Le (Rj rec0 s k) (Rj rec1 s k):=by
 refine .chk (.bind (.refl _) λ_=>.cond (.refl _) (.bind (.refl _) λ_=>.loop λs=>?_))
 exact .cond (.bind (.refl _) λ_=>.bind (h _ _) λ_=>.refl _) (.refl _)
theorem AoZ:∀ (n:Nat) (s:NR) (k:Int),Le (Qt n s k) (Qt (n+1) s k)
 | 0,_,_=>.none _
 | n+1,s,k=>AvC (λa b=>AoZ n a b) s k
theorem XZ {α:Type} {l:List α} {j:α} (h:l[i]? =some j):l.take (i+1)=l.take i++[j]:=by grind [aAY]
structure BI (g:List (List Int)) (w:List Int) (kn:List Bool) (of:List Int):Prop where
 kl:kn.length=g.length
 ol:of.length=g.length
 eq:∀ i:Nat,kn[i]? =some true->of[i]? =vB g w i
def BR (g:List (List Int)) (w:List Int) (kn0:List Bool) (i:Nat) (r:Int×Int×NR):Prop:=(∃ x kn of,vB g w i=some x/\r=(x,0,⟨g,w,kn,of⟩)/\BI g w kn of/\kn[i]? =some true/\∀ a:Nat,kn0[a]? =some true->kn[a]? =some true)\/(vB g w i=none/\r.2.1=9)
theorem ArM {α β:Type} {f:β->α->Option β} {s:List α} {b:β} {x:α} (h:s[k]? =some x):(s.take (k+1)).foldlM f b=((s.take k).foldlM f b).bind λa=>f a x:=by
 simp_all[XZ]
section
variable {g:List (List Int)} {w order done:List Int} (hg:GrY g) (ho:TC g order done) (hl:order.length=g.length) (hw:WtY g w)
 include hg ho hl hw
theorem AtL:∀ (p n i:Nat),order[p]? =some (i:Int)->p<n->∀ kn of,BI g w kn of->Hs (Qt n ⟨g,w,kn,of⟩ (i:Int)) (BR g w kn i):=by
 intro p
 induction p using Nat.strongRecOn with
 | ind p ih =>
  intro n i hp hn kn of hb;obtain⟨n,rfl⟩:∃ n',n=n'+1:=⟨n-1,by omega⟩
  have hkl:=hb.kl;have hol:=hb.ol;have hil:i<g.length:=by have:=ho.rng _ (aAB hp);omega
  obtain⟨x,hx⟩:∃ x,w[i]? =some x:=⟨w[i]'(by have:=hw.1;omega),aAA (by have:=hw.1;omega)⟩
  obtain⟨s,hs⟩:∃ s,g[i]? =some s:=⟨g[i],aAA hil⟩;have hv:=Aqf hg ho hl hp hs hx;obtain⟨hset,hrow⟩:=hg.at_ hs;have hsl:=hset.length_le;have hxr:=hw.2 x (aAB hx);show Hs (Rj (Qt n) ⟨g,w,kn,of⟩ (i:Int)) _;refine .chk (by simp_all) ((Hs.get (l:=kn) (i:=(i:Int)) (by omega) (by omega) λz hz=>hz).bind λb hkb=>?_)
  refine .cond (λhbt=>?_) λhbt=>?_
  ·subst hbt;refine .chk (by simp_all) ((Hs.get (l:=of) (i:=(i:Int)) (by omega) (by omega) λz hz=>hz).bind λy hy=>.pure (.inl ?_))
   exact⟨y,kn,of,(hb.eq i hkb).symm.trans hy,rfl,hb,hkb,λ_ h=>h⟩
  ·refine(Hs.ix (l:=g) (i:=(i:Int)) (by omega) (by omega) λz hz=>hz).bind λs' hs'=>?_
   simp only[aAD]at hs';rw[hs]at hs';cases hs';refine Hs.loop (λz=>z.1=g/\z.2.1=w/\BI g w z.2.2.1 z.2.2.2.1/\(∀ a:Nat,kn[a]? =some true->z.2.2.1[a]? =some true)/\∃ k:Nat,z.2.2.2.2.1=(k:Int)/\k<=s.length/\mB g w (s.take k)=some z.2.2.2.2.2) (λz=>s.length-z.2.2.2.2.1.toNat) ⟨rfl,rfl,hb,λ_ h=>h,0,rfl,aAE _,rfl⟩ ?_
   rintro⟨b6,b7,b8,b9,x10,m11⟩ ⟨h6,h7,hb8,hmo,k,hk,hkl,hm⟩;simp only at h6 h7 hb8 hmo hk hm;subst h6;subst h7;subst hk;dsimp only;refine .dec (λhlt=>?_) λhlt=>?_
   ·have hlt:k<s.length:=by omega
    refine(Hs.ix (l:=s) (i:=(k:Int)) (by omega) (by omega) λz hz=>hz).bind λj hj=>?_
    obtain⟨q,hq1,hq2,hj0⟩:=AmE hg ho hp hs (aAB hj);have hmt:=ArM (f:=λa j=>(vB b6 b7 (Int.toNat j)).map (OA a)) (b:=0) hj
    change mB b6 b7 (s.take (k+1))=(mB b6 b7 (s.take k)).bind _ at hmt;rw[hm,aA]at hmt;have hih:=ih q hq1 n j.toNat hq2 (by omega) b8 b9 hb8
    rw[show((j.toNat:Nat):Int)=j by omega]at hih
    refine hih.bind λr hr=>?_
    rcases hr with⟨y,kn',of',hy,rfl,hb',_,hmo'⟩|⟨hy,h9⟩
    ·refine .cond (λe=>absurd e (by simp)) λ_=>.cnt ⟨⟨rfl,rfl,hb',λa ha=>hmo' a (hmo a ha),k+1,Nw (by omega),hlt,?_⟩,?_⟩
     ·simp_all
     ·simp only[Nw (show k<9223372036854775807 by omega)];omega
    ·refine .cond (λ_=>.lft (.pure (.inr ⟨?_,h9⟩))) λe=>absurd e (by simp[h9])
     grind [mB,List.take_append_drop,List.foldlM_append]
   ·have hke:k=s.length:=by omega
    rw[hke,aAZ]at hm;have hmr:=AqT hw hm;rw[hm,aA]at hv;refine .lft ((Hs.ix (l:=b7) (i:=(i:Int)) (by omega) (by grind) λz hz=>hz).bind λx' hx'=>?_)
    simp only[aAD]at hx';rw[hx]at hx';cases hx';rw[AwR hxr hmr,aA];have hkl8:=hb8.kl;have hol9:=hb8.ol
    by_cases h:x+m11<=2147483647
    ·rw[if_pos h]at hv ⊢;refine .cond (λe=>absurd e (by simp)) λ_=>.chk (by omega) ((Hs.get (l:=b9) (i:=(i:Int)) (by omega) (by omega) λz hz=>hz).bind λ_ _=>.chk (by omega) ((Hs.get (l:=b8) (i:=(i:Int)) (by omega) (by omega) λz hz=>hz).bind λ_ _=>.pure (.inl ⟨_,_,_,hv,rfl,⟨by simp[hkl8],by simp[hol9],λa ha=>?_⟩,?_,λa ha=>?_⟩)))
     ·simp only[aAD]at ha ⊢
      by_cases e:i=a
      ·simp_all
      ·rw[aAa e]at ha ⊢;exact hb8.eq a ha
     all_goals grind
    ·rw[if_neg h]at hv ⊢;exact .cond (λ_=>.pure (.inr ⟨hv,rfl⟩)) λe=>absurd e (by simp)
theorem AvB (hi:i<g.length) {kn:List Bool} {of:List Int} (hb:BI g w kn of):Hs (YX ⟨g,w,kn,of⟩ (i:Int)) (BR g w kn i):=by
 obtain⟨p,hp⟩:=ho.full hl hi;obtain⟨r,h1,h2⟩:=AtL hg ho hl hw p (p+1) i hp (by omega) kn of hb
 exact⟨r,Axz (λn=>AoZ n _ _) h1,h2⟩
end
open Go Go.Dw Go.Proofs
theorem Apx (hg:GrY g) {order done:List Int} (h:TC g order done):Zy g order done=some (Adu g order done):=by
 have hl:=hg.len;unfold Zy Adu
 by_cases hc:order.length<g.length
 ·have e1:=Apc hg h.set order g.length 0 (by omega)
  simp only[Int.natCast_zero]at e1;rw[if_pos hc,decide_eq_true (by omega:(order.length:Int)<g.length),cond_true,e1]
  unfold Vj;rcases AqV (g:=g) (done:=done) g.length 0 with e|⟨j,e,_,h3,h4,h5⟩
  ·rw[e];rfl
  ·rw[e];have hj:¬ (j:Int)<0:=by omega
   rw[if_neg hj,decide_eq_false hj,cond_false,Oa (show order.length+([(j:Int)]:List Int).length<=16777216 by simp;omega),AoU h.set ⟨by omega,by omega⟩]
   rfl
 ·rw[if_neg hc,decide_eq_false (by omega:¬ (order.length:Int)<g.length),cond_false]
  rfl
theorem Apq (hg:GrY g):∃ r,SN g=some r/\(r=([],8)\/(r.2=0/\r.1.length=g.length/\∃ done,TC g r.1 done)):=by
 refine Hs.loop (λs:List Int×List Int=>TC g s.1 s.2/\s.1.length<=g.length) (λs=>g.length-s.1.length) ⟨TC.nil g,aAE _⟩ λs ⟨hs,hsl⟩=>?_
 refine⟨Adu g s.1 s.2,Apx hg hs,?_⟩;cases hst:Adu g s.1 s.2 with
 | inl s' =>
  obtain⟨h1,h2,h3⟩:=Arv hg hs hst;exact⟨⟨h1,by omega⟩,by grind⟩
 | inr r =>
  unfold Adu at hst;split at hst
  ·split at hst
   ·cases hst;exact .inl rfl
   ·cases hst
  ·cases hst;exact .inr ⟨rfl,by grind,s.2,hs⟩
attribute [local simp] Oa aAG
def SzY (g:List (List Int)):Prop:=1<=g.length/\g.length<=80
instance (g:List (List Int)):Decidable (SzY g):=inferInstanceAs (Decidable (_/\_))
instance (g:List (List Int)) (w:List Int):Decidable (WtY g w):=inferInstanceAs (Decidable (_/\_))
section
variable {g:List (List Int)} (hg:GrY g)
 include hg
theorem Ari (hs:g[i]? =some s) (h:0<s.length):∃ z,s[s.length-1]? =some z/\z<g.length :=
 ⟨s[s.length-1],aAA (by omega),(hg.at_ hs).2 _ (aAF _)⟩
theorem Anf:Us g=some (decide (SzY g)):=by
 have hgl:=hg.len;have hh:Hs (Us g) λr=>r=decide (SzY g):=by
  refine Hs.loop (λi=>∃ k:Nat,i=(k:Int)/\k<=g.length) (λi=>g.length-i.toNat) ⟨0,rfl,aAE _⟩ λi ⟨k,hi,hk⟩=>?_
  subst hi;refine .dec (λh=>?_) λh=>?_
  ·refine(Hs.ix (l:=g) (i:=(k:Int)) (by omega) h λz hz=>hz).bind λs hs=>?_
   simp only[aAD]at hs;obtain⟨h1,h2⟩:=hg.at_ hs;have hsl:=h1.length_le;rw[AoY s (by omega),(Acx s).2 h1,aA]
   refine .cond (λe=>absurd e (by simp)) λ_=>?_
   have nx:Hs (cnt (R:=Bool) (IntKind.i64.wrap ((k:Int)+1))) (Rnd (λi:Int=>∃ k:Nat,i=(k:Int)/\k<=g.length) (λi:Int=>g.length-i.toNat) (k:Int) λr:Bool=>r=decide (SzY g)):=by
    refine .cnt ⟨⟨k+1,Nw (by omega),by omega⟩,?_⟩
    grind [Nw]
   refine .dec (λh0=>?_) λ_=>nx
   obtain⟨z,hz,hzl⟩:=Ari hg hs (by omega)
   rw[wrap64 (by omega) (by omega),OZ _ (by omega),show((s.length:Int)-1).toNat=s.length-1 by omega,hz,aA]
   grind
  ·refine .lft ?_;refine .dec (λh=>.pure ?_) λh=>.pure ?_
   ·show _=decide (SzY g);rw[decide_eq_decide];grind [SzY]
   ·show _=decide (SzY g);rw[eq_comm,decide_eq_false_iff_not];grind [SzY]
 obtain⟨r,h1,rfl⟩:=hh;exact h1
theorem Atu:Yz g=some (decide (SzY g)):=by
 have hh:Hs (Yz g) λr=>r=decide (SzY g):=by
  unfold Yz;refine .dec (λh=>.pure ?_) λh=>.dec (λh'=>.pure ?_) λh'=>?_
  ·rw[eq_comm,decide_eq_false_iff_not];grind [SzY]
  ·rw[eq_comm,decide_eq_false_iff_not];grind [SzY]
  rw[decide_eq_true (show SzY g by grind [SzY])]
  unfold ZS;refine Hs.loop (λi=>∃ k:Nat,i=(k:Int)/\k<=g.length) (λi=>g.length-i.toNat) ⟨0,rfl,aAE _⟩ λi ⟨k,hi,hk⟩=>?_
  subst hi;unfold AcX;refine .dec (λh=>?_) λh=>.lft (.pure rfl)
  have hx:∃ s,ixO g (k:Int)=some s/\g[k]? =some s:=⟨g[k],by simp_all,aAA (by omega)⟩
  obtain⟨s,hxs,hs⟩:=hx;simp only[hxs,aA];obtain⟨h1,h2⟩:=hg.at_ hs;have hsl:=h1.length_le;rw[Amm s (by omega),(Acx s).2 h1,aA]
  refine .cond (λe=>absurd e (by simp)) λ_=>?_
  have nx:Hs (cnt (R:=Bool) (IntKind.i64.wrap ((k:Int)+1))) (Rnd (λi:Int=>∃ k:Nat,i=(k:Int)/\k<=g.length) (λi:Int=>g.length-i.toNat) (k:Int) λr:Bool=>r=true):=by
   refine .cnt ⟨⟨k+1,Nw (by omega),by omega⟩,?_⟩
   grind [Nw]
  refine .dec (λh0=>?_) λ_=>nx
  obtain⟨z,hz,hzl⟩:=Ari hg hs (by omega)
  rw[wrap64 (by omega) (by omega),OZ _ (by omega),show((s.length:Int)-1).toNat=s.length-1 by omega,hz,aA]
  grind
 obtain⟨r,h1,rfl⟩:=hh;exact h1
theorem Avj {w:List Int}:AaF g w=some (decide (SzY g/\WtY g w)):=by
 have hgl:=hg.len;unfold AaF;rw[Atu hg,aA]
 by_cases hz:SzY g
 ·by_cases hl:w.length=g.length
  ·have hl':((w.length:Int) != (g.length:Int))=false:=by simp[hl]
   rw[decide_eq_true hz,hl'];have hh:Hs (ZT w) λr=>r=decide (SzY g/\WtY g w):=by
    refine Hs.loop (λi=>∃ k:Nat,i=(k:Int)/\k<=w.length/\∀ x∈w.take k,0<=x/\x<=2147483647) (λi=>w.length-i.toNat) ⟨0,rfl,aAE _,by simp⟩ λi ⟨k,hi,hk,hp⟩=>?_
    subst hi;refine .dec (λh=>?_) λh=>.lft (.pure ?_)
    ·refine(Hs.ix (l:=w) (i:=(k:Int)) (by omega) h λz hz=>hz).bind λx hx=>?_
     simp only[aAD]at hx;have hb:QU x=some (decide (0<=x/\x<=2147483647)):=by
      grind [QU]
     rw[hb,aA];refine .cond (λe=>.lft (.pure ?_)) λe=>.cnt ⟨⟨k+1,Nw (by omega),by omega,?_⟩,?_⟩
     ·have:¬ (0<=x/\x<=2147483647):=λh=>by simp_all
      show false=decide (SzY g/\WtY g w);rw[eq_comm,decide_eq_false_iff_not];exact λhw=>this (hw.2.2 x (aAB hx))
     ·rw[XZ hx]
      grind
     grind [Nw]
    ·rw[aAX (by omega)]at hp
     exact(decide_eq_true (show SzY g/\WtY g w from⟨hz,hl,hp⟩)).symm
   obtain⟨r,h1,rfl⟩:=hh;exact h1
  grind [WtY]
 simp_all
end
def YC (g:List (List Int)) (w:List Int) (o:List Int×Int) (z:List Int×Int):Prop :=
 (¬ (SzY g/\WtY g w)/\z=([],4))\/((SzY g/\WtY g w)/\((o.2≠0/\z=([],o.2))\/(o.2=0/\(((∃ i,i<g.length/\vB g w i=none)/\z=([],9))\/(z.2=0/\z.1.length=g.length/\∀ i,i<g.length->∃ x,vB g w i=some x/\z.1[i]? =some x)))))
theorem YC.unique {w:List Int} {o z z':List Int×Int} (h:YC g w o z) (h':YC g w o z'):z=z':=by
 rcases h with⟨h1,rfl⟩|⟨h1,⟨h2,rfl⟩|⟨h2,⟨⟨i,hi,hn⟩,rfl⟩|⟨h3,h4,h5⟩⟩⟩<;>rcases h' with⟨g1,rfl⟩|⟨g1,⟨g2,rfl⟩|⟨g2,⟨⟨j,hj,gn⟩,rfl⟩|⟨g3,g4,g5⟩⟩⟩<;>first|rfl|exact absurd g1 h1|exact absurd h1 g1|exact absurd g2 h2|exact absurd h2 g2|skip
 ·simp_all
 ·simp_all
 ·refine Prod.ext (aAS λi=>?_) (h3.trans g3.symm)
  grind
theorem AtM (hg:GrY g) {w:List Int} {r:List Int×Int} (hr:SN g=some r):Hs (Wd g w) (YC g w r):=by
 have hgl:=hg.len;obtain⟨r',e1,hO⟩:=Apq hg;rw[hr]at e1;cases e1;unfold Wd;rw[Anf hg,aA];refine .cond (λe=>.pure (.inl ⟨λh=>?_,rfl⟩)) λe=>.bne (λh=>.pure (.inl ⟨λh'=>?_,rfl⟩)) λh=>?_
 ·simp_all
 ·have:=h'.2.1;omega
 have hz:SzY g:=by simp_all
 have hl:w.length=g.length:=by omega
 refine Hs.loop (λi=>∃ k:Nat,i=(k:Int)/\k<=w.length/\∀ x∈w.take k,0<=x/\x<=2147483647) (λi=>w.length-i.toNat) ⟨0,rfl,aAE _,by simp⟩ λi ⟨k,hi,hk,hp⟩=>?_
 subst hi;refine .dec (λh=>?_) λh=>.lft ?_
 ·refine(Hs.ix (l:=w) (i:=(k:Int)) (by omega) h λz hz=>hz).bind λx hx=>?_
  simp only[aAD]at hx;have hm:=aAB hx;refine .dec (λh0=>.lft (.pure (.inl ⟨λhw=>?_,rfl⟩))) λh0=>.dec (λh1=>.lft (.pure (.inl ⟨λhw=>?_,rfl⟩))) λh1=>.cnt ⟨⟨k+1,Nw (by omega),by omega,?_⟩,?_⟩
  ·have:=hw.2.2 x hm;omega
  ·have:=hw.2.2 x hm;omega
  ·rw[XZ hx]
   grind
  grind [Nw]
 ·rw[aAX (by omega)]at hp
  have hw:WtY g w:=⟨hl,hp⟩;rw[hr,aA];refine .bne (λh=>.pure (.inr ⟨⟨hz,hw⟩,.inl ⟨h,rfl⟩⟩)) λhr0=>?_
  have hO:r.1.length=g.length/\∃ done,TC g r.1 done:=by
   grind
  obtain⟨hol,done,ho⟩:=hO;refine .chk (by omega) (.chk (by omega) ?_)
  refine Hs.loop (λz=>z.1=g/\z.2.1=w/\BI g w z.2.2.1 z.2.2.2.1/\∃ q:Nat,z.2.2.2.2=(q:Int)/\q<=g.length/\∀ i,i<q->z.2.2.1[i]? =some true) (λz=>g.length-z.2.2.2.2.toNat) ⟨rfl,rfl,⟨by simp,by simp,λi hi=>?_⟩,0,rfl,aAE _,λi hi=>by omega⟩ ?_
  ·grind
  rintro⟨x6,x7,x8,x9,x10⟩ ⟨h6,h7,hb,q,hq,hql,hall⟩;simp only at h6 h7 hb hq hall;subst h6;subst h7;subst hq;dsimp only;refine .dec (λhlt=>?_) λhlt=>.lft (.pure (.inr ⟨⟨hz,hw⟩,.inr ⟨hr0,.inr ⟨rfl,hb.ol,λi hi=>?_⟩⟩⟩))
  refine(AvB hg ho hol hw (i:=q) (by omega) hb).bind λr hr=>?_
  rcases hr with⟨y,kn',of',hy,rfl,hb',hki,hmo⟩|⟨hy,h9⟩
  ·refine .cond (λe=>absurd e (by simp)) λ_=>.cnt ⟨⟨rfl,rfl,hb',q+1,Nw (by omega),by omega,λi hi=>?_⟩,?_⟩
   all_goals grind [Nw]
  ·exact .cond (λ_=>.lft (.pure (.inr ⟨⟨hz,hw⟩,.inr ⟨hr0,.inl ⟨⟨q,by omega,hy⟩,by rw[h9]⟩⟩⟩))) λe=>absurd e (by simp[h9])
  ·have h1:=hb.eq i (hall i (by omega))
   have h2:i<x9.length:=by rw[hb.ol];exact hi
   grind
open Go Go.Dw Go.Proofs
attribute [local simp] Oa aAG
theorem AhQ (a b:Int):a<=OA a b/\b<=OA a b:=by grind [OA]
theorem AqH {f:Nat->Option Int}:∀ {s:List Int} {b m:Int},s.foldlM (λa j=>(f j.toNat).map (OA a)) b=some m->b<=m/\∀ j∈s,∃ d,f j.toNat=some d/\d<=m
 | [],b,m,h=>by simp_all
 | x::s,b,m,h=>by
  simp only[aAn,aAw,aAL]at h;obtain⟨c,hc,h⟩:=h;obtain⟨y,hy,rfl⟩:=aAs.1 hc;obtain⟨h1,h2⟩:=AqH h;have:=AhQ b y
  grind
structure AnS (g:List (List Int)) (w c:List Int):Prop where
 size:SzY g
 row:∀ s∈g,OB s/\∀ x∈s,x<g.length
 wt:WtY g w
 cl:c.length=g.length
 ge:∀ i,i<g.length->∃ a b s,c[i]? =some a/\w[i]? =some b/\g[i]? =some s/\0<=a/\a<=2147483647/\b<=a/\∀ j∈s,∃ d,c[j.toNat]? =some d/\d<=a-b
theorem YC.Azt (hg:GrY g) {w:List Int} {o r:List Int×Int} (h:YC g w o r) (h0:r.2=0) {done:List Int} (ho:TC g o.1 done) (hl:o.1.length=g.length):AnS g w r.1:=by
 rcases h with⟨_,rfl⟩|⟨⟨hz,hw⟩,⟨h2,rfl⟩|⟨h2,⟨_,rfl⟩|⟨h3,h4,h5⟩⟩⟩
 ·omega
 ·omega
 ·omega
 refine⟨hz,hg.row,hw,h4,λi hi=>?_⟩
 obtain⟨a,ha,hra⟩:=h5 i hi;obtain⟨x,hx⟩:∃ x,w[i]? =some x:=⟨w[i]'(by have:=hw.1;omega),aAA (by have:=hw.1;omega)⟩
 obtain⟨s,hs⟩:∃ s,g[i]? =some s:=⟨g[i],aAA hi⟩;obtain⟨p,hp⟩:=ho.full hl hi;rw[Aqf hg ho hl hp hs hx]at ha;obtain⟨m,hm,ha⟩:=aAL.1 ha;have hmr:=AqT hw hm;have hxr:=hw.2 x (aAB hx);split at ha
 ·cases ha;refine⟨_,x,s,hra,hx,hs,by omega,by omega,by omega,λj hj=>?_⟩
  obtain⟨d,hd,hdm⟩:=(AqH hm).2 j hj;have hjr:=((hg.at_ hs).1.2 j hj).1;have hjl:=(hg.at_ hs).2 j hj
  grind
 ·cases ha
theorem AkK {w c:List Int} (h:AnS g w c):Sb g w c=some true:=by
 have hg:GrY g:=⟨by have:=h.size;grind [SzY],h.row⟩
 have hgl:=hg.len;have hwl:=h.wt.1;have hcl:=h.cl;unfold Sb;rw[Anf hg,decide_eq_true h.size,aA];have e1:((w.length:Int) != (g.length:Int))=false:=by simp[hwl]
 have e2:((c.length:Int) != (g.length:Int))=false:=by simp[hcl]
 rw[e1,e2];have hh:Hs (Se w) λr=>r=true:=by
  unfold Se;refine Hs.loop (λi=>∃ k:Nat,i=(k:Int)/\k<=w.length) (λi=>w.length-i.toNat) ⟨0,rfl,aAE _⟩ λi ⟨k,hi,hk⟩=>?_
  subst hi;unfold WE;refine .dec (λhlt=>?_) λhlt=>.lft (.pure rfl)
  refine(Hs.ix (l:=w) (i:=(k:Int)) (by omega) hlt λz hz=>hz).bind λx hx=>?_
  simp only[aAD]at hx;have hr:=h.wt.2 x (aAB hx);have hb:RS x=some true:=by grind [RS]
  rw[hb,aA];refine .cond (λe=>absurd e (by simp)) λe=>.cnt ⟨⟨k+1,Nw (by omega),by omega⟩,?_⟩
  grind [Nw]
 obtain⟨r,h1,rfl⟩:=hh;exact h1
def UF (l:List Lo):List Int:=l.foldl (λs x=>if x.Op=22 then Rf x.A s else s) []
def cgR (p:Nv):List (List Int):=p.Funcs.map λf=>UF f.Code
def CallsIn (p:Nv):Prop:=∀ f∈p.Funcs,∀ x∈f.Code,x.Op=22->0<=x.A/\x.A<p.Funcs.length
theorem AlT {l:List Lo} (h:l[k]? =some x):UF (l.take (k+1))=if x.Op=22 then Rf x.A (UF (l.take k))else UF (l.take k):=by
 simp_all[UF,XZ]
theorem Anc {n:Int} (hn:n<=512):∀ {l:List Lo},(∀ x∈l,x.Op=22->0<=x.A/\x.A<n)->Od n (UF l):=by
 intro l hl;have key:∀ k,k<=l.length->Od n (UF (l.take k)):=by
  intro k
  induction k with
  | zero=>intro _;exact⟨⟨by simp[UF],by simp[UF]⟩,by simp[UF]⟩
  | succ k ih =>
   intro hk;have hx:l[k]? =some l[k]:=aAA (by omega)
   rw[AlT hx];split
   ·rename_i h;have hr:=hl l[k] (aAF _) h;have:=Od.AeZ (n:=n) (m:=l[k].A) (s:=UF (l.take k)) (ih (by omega)) hr hn
    exact⟨this.1,this.2.1⟩
   grind
 have:=key l.length (aAQ _);simp_all
theorem Ayx (hn:p.Funcs.length<=500) (hp:CallsIn p):GrY (cgR p):=by
 refine⟨by grind [cgR],λs hs=>?_⟩
 obtain⟨f,hf,rfl⟩:=List.mem_map.1 hs;have:=Anc (n:=p.Funcs.length) (by omega) (hp f hf)
 exact⟨this.1,λx hx=>by have:=this.2 x hx;grind [cgR]⟩
theorem AyZ (hn:p.Funcs.length<=500) (hc:∀ f∈p.Funcs,f.Code.length<=1000000) (hp:CallsIn p):AfB p=some (cgR p):=by
 have hh:Hs (AfB p) λr=>r=cgR p:=by
  refine .chk (by omega) ?_
  refine Hs.loop (λz=>∃ i:Nat,z.2=(i:Int)/\i<=p.Funcs.length/\z.1=(cgR p).take i++aAv (p.Funcs.length-i) []) (λz=>p.Funcs.length-z.2.toNat) ⟨0,rfl,aAE _,by simp⟩ ?_
  rintro⟨out,i2⟩ ⟨i,hi,hil,ho⟩;simp only at hi ho;subst hi;refine .dec (λhlt=>?_) λhlt=>.lft (.pure ?_)
  ·refine(Hs.ix (l:=p.Funcs) (i:=(i:Int)) (by omega) hlt λz hz=>hz).bind λf hf=>?_
   simp only[aAD]at hf;have hfm:=aAB hf;have hcl:=hc f hfm;have hlen:out.length=p.Funcs.length:=by grind [cgR]
   have h0:out[i]? =some []:=by
    grind
   refine Hs.loop (λz=>∃ k:Nat,z.2=(k:Int)/\k<=f.Code.length/\z.1=out.set i (UF (f.Code.take k))) (λz=>f.Code.length-z.2.toNat) ⟨0,rfl,aAE _,?_⟩ ?_
   ·show out=out.set i [];apply aAS
    grind
   rintro⟨out6,k7⟩ ⟨k,hk,hkl,ho6⟩;simp only at hk ho6;subst hk;refine .dec (λhlt'=>?_) λhlt'=>.lft ?_
   ·have hx:∃ x,ixO f.Code (k:Int)=some x/\f.Code[k]? =some x:=⟨f.Code[k]'(by omega),by simp_all,aAA (by omega)⟩
    obtain⟨x,hxs,hx⟩:=hx;simp only[hxs,aA];have hsn:=AlT hx;refine .cond (λe=>?_) λe=>.cnt ⟨⟨k+1,Nw (by omega),by omega,?_⟩,?_⟩
    ·have e:x.Op=22:=by simp_all
     have hr:=hp f hfm x (aAB hx) e;have hst:Od p.Funcs.length (UF (f.Code.take k)):=Anc (by omega) λy hy=>hp f hfm y (List.mem_of_mem_take hy)
     rw[if_pos e]at hsn;have hl6:out6.length=p.Funcs.length:=by simp_all
     refine .chk (by omega) ?_
     have hg6:out6[(i:Int).toNat]? =some (UF (f.Code.take k)):=by simp_all
     rw[hg6,aA,add_eq _ _ (by have:=hst.1.length_le;omega),aA]
     refine .chk (by omega) ?_
     rw[aA];refine .cnt ⟨⟨k+1,Nw (by omega),by omega,?_⟩,?_⟩
     all_goals grind [List.set_set,Nw]
    ·simp_all
    grind [Nw]
   ·have hke:k=f.Code.length:=by omega
    rw[hke,aAZ]at ho6;unfold Adt;refine .cnt ⟨⟨i+1,Nw (by omega),by omega,?_⟩,?_⟩
    ·apply aAS
     grind [cgR]
    grind [Nw]
  ·have:i=p.Funcs.length:=by omega
   subst this;show out=_;simp_all[aAX,cgR]
 obtain⟨r,h1,rfl⟩:=hh;exact h1
theorem Awg {r:List Lo} {y:NC} {l:List Lo} {x':Lo} (hk:k<r.length) (hl:l[k]? =some x) (ho:0<=x.Op/\x.Op<25) (h:Pn f y x=some x'):Xr r f y l (k:Int)=cnt (l.set k x',IntKind.i64.wrap ((k:Int)+1)):=by
 have hkl:=(aAC.1 hl).1;have hd:(decide ((k:Int)<(r.length:Int)))=true:=by simp_all
 have hc:0<=(k:Int)/\(k:Int)<l.length:=by omega
 unfold Xr;unfold Pn at h;rw[hd,cond_true,Oa hc,aAD,hl,aA,Oa ho];unfold US UT UU UW UX AeH
 by_cases h15:x.Op=15
 ·simp_all
 rw[show(x.Op==15)=false by simp[h15]]at h ⊢
 rw[cond_false]at h ⊢
 by_cases h16:x.Op=16
 ·simp_all
 rw[show(x.Op==16)=false by simp[h16]]at h ⊢
 rw[cond_false]at h ⊢
 by_cases h17:x.Op=17
 ·simp_all
 rw[show(x.Op==17)=false by simp[h17]]at h ⊢
 rw[cond_false]at h ⊢
 by_cases h18:x.Op=18
 ·simp_all
 rw[show(x.Op==18)=false by simp[h18]]at h ⊢
 rw[cond_false]at h ⊢
 by_cases h19:x.Op=19
 all_goals simp_all
section
variable {p:Nv} {i:Nat} {f:Nn} {y:NC} {T:Lo->Lo} (hf:p.Funcs[i]? =some f) (hn:f.Code.length<=1000000) (hT:∀ x∈f.Code,Pn f y x=some (T x))
 include hf hn hT
theorem AvW (ho:∀ x∈f.Code,0<=x.Op/\x.Op<25):WK p (i:Int) y=some ⟨f.Params,y.Size,f.Code.map T⟩:=by
 unfold WK;rw[OZ _ (by omega),aAD,hf,aA]
 have hcl:Anh f.Code=some f.Code:=by unfold Anh YZ;grind [Oa]
 rw[hcl,aA];have hh:Hs (NA (λs=>Xr f.Code f y s.1 s.2) (f.Code,0)) λr=>r=⟨f.Params,y.Size,f.Code.map T⟩:=by
  refine Hs.loop (λz=>∃ k:Nat,z.2=(k:Int)/\k<=f.Code.length/\z.1=(f.Code.take k).map T++f.Code.drop k) (λz=>f.Code.length-z.2.toNat) ⟨0,rfl,aAE _,by simp⟩ ?_
  rintro⟨code,k6⟩ ⟨k,hk,hkl,hc⟩;simp only at hk hc;subst hk
  by_cases hlt:k<f.Code.length
  ·obtain⟨x,hx⟩:∃ x,f.Code[k]? =some x:=⟨f.Code[k],aAA hlt⟩;have hm:=aAB hx;have hlen:((f.Code.take k).map T).length=k:=by simp;omega
   have hd:f.Code.drop k=x::f.Code.drop (k+1):=by
    grind [aAT]
   have hcx:code[k]? =some x:=by
    simp_all
   rw[Awg hlt hcx (ho x hm) (hT x hm)];refine .cnt ⟨⟨k+1,Nw (by omega),by omega,?_⟩,?_⟩
   ·grind
   grind [Nw]
  ·refine .dec (λh=>absurd h (by omega)) λ_=>.lft (.pure ?_)
   have:k=f.Code.length:=by omega
   rw[this,aAZ,List.drop_length,aAp]at hc;show NX.mk _ _ code=_;rw[hc]
 obtain⟨r,h1,rfl⟩:=hh;exact h1
end
open Go Go.Dw Go.Proofs
theorem AxZ (n:Int):Hs (Ta n) λ_=>True:=by
 exact .cond (λ_=>.pure trivial) λ_=>.cond (λ_=>.pure trivial) λ_=>.cond (λ_=>.pure trivial) λ_=>.cond (λ_=>.pure trivial) λ_=>.pure trivial
theorem XK (n:Int):QU n=some (decide (0<=n/\n<=2147483647)):=by
 unfold QU
 grind
theorem AmD (n:Int):Hs (Qy n) λb=>b=true->1<=n/\n<=16777216:=by
 refine Hs.loop (λk=>1<=k/\k<=33554432) (λk=>33554433-k.toNat) ⟨by omega,by omega⟩ ?_
 rintro k ⟨h0,h1⟩;refine .dec (λh=>.beq (λe=>.lft (.pure λ_=>⟨by omega,by omega⟩)) λ_=>?_) λh=>.lft (.pure λh=>(by cases h))
 rw[wrap64 (by omega) (by omega)]
 exact .cnt ⟨⟨by omega,by omega⟩,by grind⟩
theorem AfH (a:NH):Hs (Ro a) λb=>b=true->0<=a.Off/\0<=a.Size/\a.Off+a.Size<=2147483647:=by
 unfold Ro;simp only[XK,aA];refine .dec (λh=>.dec (λh1=>.pure λh2=>?_) λ_=>.pure λh=>(by cases h)) λ_=>.pure λh=>(by cases h)
 have h2:=of_decide_eq_true h2
 grind [wrap64]
theorem Axh (n a:Int):Hs (WM n a) λq=>0<=q.1/\q.1<=2147483647:=by
 unfold WM;simp only[XK,aA];refine .cond (λ_=>.pure ⟨by omega,by omega⟩) λh=>?_
 have hn:0<=n/\n<=2147483647:=by simp_all
 refine(AmD a).bind λb hb=>.cond (λ_=>.pure ⟨by omega,by omega⟩) λh=>?_
 have ha:=hb (by simp_all)
 have j2:∀ m:Int,0<=m->Hs (Yu m) λq=>0<=q.1/\q.1<=2147483647:=by
  intro m hm;exact .dec (λ_=>.pure ⟨by omega,by omega⟩) λh=>.pure ⟨hm,by omega⟩
 unfold Aaz;have t0:=Int.tmod_nonneg a hn.1;have t1:=Int.tmod_lt_of_pos n (show 0<a by omega)
 grind [chk,wrap64]
theorem Ato (a b:NH):Hs (AaO a b) λ_=>True:=by
 refine(AfH a).bind λ_ _=>.cond (λ_=>(AfH b).bind λ_ _=>.cond (λ_=>.dec (λ_=>.dec (λ_=>.dec (λ_=>.pure trivial) λ_=>.pure trivial) λ_=>.pure trivial) λ_=>.pure trivial) λ_=>.pure trivial) λ_=>.pure trivial
theorem AxC (l:List NH) (hl:l.length<=1000000) (x:NH):Hs (AeL l x) λ_=>True:=by
 refine Hs.loop (λi=>∃ k:Nat,i=(k:Int)/\k<=l.length) (λi=>l.length-i.toNat) ⟨0,rfl,aAE _⟩ ?_
 rintro _ ⟨k,rfl,hk⟩;refine .dec (λhlt=>?_) λ_=>.lft (.pure trivial)
 refine(Hs.ix (P:=λ_=>True) (by omega) hlt λ_ _=>trivial).bind λy _=>(Ato y x).bind λb _=>.cond (λ_=>.lft (.pure trivial)) λ_=>?_
 rw[Nw (by omega)]
 exact .cnt ⟨⟨k+1,rfl,by omega⟩,by grind⟩
theorem AyO (l:List NH) (hl:l.length<=1000000) (frm size align:Int):Hs (AdV l frm size align) λ_=>True:=by
 unfold AdV;simp only[XK,aA];refine .cond (λ_=>.pure trivial) λ_=>.cond (λ_=>.pure trivial) λ_=>(AmD align).bind λb _=>.cond (λ_=>.pure trivial) λ_=>?_
 refine Hs.loop (λi=>∃ k:Nat,i=(k:Int)/\k<=l.length) (λi=>l.length-i.toNat) ⟨0,rfl,aAE _⟩ ?_
 rintro _ ⟨k,rfl,hk⟩;refine .dec (λhlt=>?_) λ_=>.lft ?_
 ·refine(Hs.ix (P:=λ_=>True) (by omega) hlt λ_ _=>trivial).bind λy _=>(AfH y).bind λb _=>.cond (λ_=>.lft (.pure trivial)) λ_=>?_
  rw[Nw (by omega)]
  exact .cnt ⟨⟨k+1,rfl,by omega⟩,by grind⟩
 refine Hs.loop (λs=>-1<=s.2.2/\s.2.2<=l.length) (λs=>((l.length:Int)-s.2.2).toNat) ⟨by simp,by simp_all⟩ ?_
 rintro⟨best,found,i⟩ ⟨h0,h1⟩;replace h0: -1<=i:=h0;have j4:∀ at_:Int,i<l.length->Hs (Xt align size l found i best at_) (Rnd (λs:Int×Bool×Int=>-1<=s.2.2/\s.2.2<=l.length) (λs=>((l.length:Int)-s.2.2).toNat) (best,found,i) λ_=>True):=by
  intro at_ hi;unfold Xt;have w:IntKind.i64.wrap (i+1)=i+1:=wrap64 (by omega) (by omega)
  rw[w];have fin:∀ (a:Int) (b:Bool),Hs (cnt (a,b,i+1):Option ((Int×Bool×Int)⊕(Int×Int))) (Rnd (λs:Int×Bool×Int=>-1<=s.2.2/\s.2.2<=l.length) (λs=>((l.length:Int)-s.2.2).toNat) (best,found,i) λ_=>True):=λa b=>.cnt ⟨⟨by grind,by grind⟩,by grind⟩
  exact(Axh at_ align).bind λq _=>.cond (λ_=>(AfH _).bind λ_ _=>.cond (λ_=>(AxC l hl _).bind λ_ _=>.cond (λ_=>.cond (λ_=>fin _ _) λ_=>.dec (λ_=>fin _ _) λ_=>fin _ _) λ_=>fin _ _) λ_=>fin _ _) λ_=>fin _ _
 refine .dec (λhlt=>.dec (λhge=>?_) λ_=>j4 _ hlt) λ_=>.lft (.cond (λ_=>.pure trivial) λ_=>.pure trivial)
 exact(Hs.ix (P:=λ_=>True) (by omega) hlt λ_ _=>trivial).bind λy _=>(Hs.ix (P:=λ_=>True) (by omega) hlt λ_ _=>trivial).bind λz _=>j4 _ hlt
theorem AkT (s:List NB):Hs (WL s) λe=>e=0->s.length<=512:=by
 refine .dec (λ_=>.pure λh=>by simp at h) λh=>?_
 have hl:s.length<=512:=by omega
 refine(Hs.loop (Q:=λ_=>True) (λi=>∃ k:Nat,i=(k:Int)/\k<=s.length) (λi=>s.length-i.toNat) ⟨0,rfl,aAE _⟩ ?_).mono λ_ _ _=>hl
 rintro _ ⟨k,rfl,hk⟩;refine .dec (λhlt=>?_) λ_=>.lft (.pure trivial)
 refine(Hs.ix (P:=λ_=>True) (by omega) hlt λ_ _=>trivial).bind λx _=>(AxZ _).bind λb _=>.cond (λ_=>.lft (.pure trivial)) λ_=>?_
 refine(Hs.ix (P:=λ_=>True) (by omega) hlt λ_ _=>trivial).bind λy _=>(AmD _).bind λb _=>.cond (λ_=>.lft (.pure trivial)) λ_=>?_
 rw[Nw (by omega)]
 exact .cnt ⟨⟨k+1,rfl,by omega⟩,by grind⟩
theorem Asf {i:Int} (hi:ixO p.Funcs i=some f) (hl:f.Code.length<=10000) (hc:∀ x∈f.Code,x.Op=22->0<=x.A/\x.A<p.Funcs.length):Hs (TZ p i) λ_=>True:=by
 unfold TZ;rw[hi,aA];refine Hs.loop (λq=>∃ k:Nat,q.2=(k:Int)/\k<=f.Code.length) (λq=>f.Code.length-q.2.toNat) ⟨0,rfl,aAE _⟩ ?_
 rintro⟨n,_⟩ ⟨k,rfl,hk⟩;refine .dec (λhlt=>?_) λ_=>.lft (.pure trivial)
 have hlt:k<f.Code.length:=by omega
 have e:ixO f.Code (k:Int)=some f.Code[k]:=by simp_all
 simp only[e,aA];rw[Nw (by omega)]
 refine .beq (λ_=>.cnt ⟨⟨k+1,rfl,hlt⟩,by grind⟩) λ_=>.beq (λh=>?_) λ_=>.cnt ⟨⟨k+1,rfl,hlt⟩,by grind⟩
 have:=hc _ (aAF _) h;exact(Hs.ix (P:=λ_=>True) this.1 this.2 λ_ _=>trivial).bind λ_ _=>.cnt ⟨⟨k+1,rfl,hlt⟩,by grind⟩
theorem AuP (s:List NB):Hs (TX s) λ_=>True:=by
 refine(AkT s).bind λe he=>.bne (λ_=>.pure trivial) λh=>?_
 refine Hs.loop (λq=>∃ k:Nat,q.2=(k:Int)/\k<=s.length) (λq=>s.length-q.2.toNat) ⟨0,rfl,aAE _⟩ ?_
 rintro⟨n,_⟩ ⟨k,rfl,hk⟩;refine .dec (λhlt=>?_) λ_=>.lft (.pure trivial)
 have hlt:k<s.length:=by omega
 rw[Nw (by omega)]
 exact(Hs.ix (P:=λ_=>True) (by omega) (by omega) λ_ _=>trivial).bind λ_ _=>.cnt ⟨⟨k+1,rfl,hlt⟩,by grind⟩
theorem AuA (p:Nv) (hp:p.Funcs.length<=1000):Hs (Sm p) λ_=>True:=by
 refine Hs.loop (λq=>∃ k:Nat,q.2=(k:Int)/\k<=p.Funcs.length) (λq=>p.Funcs.length-q.2.toNat) ⟨0,rfl,aAE _⟩ ?_
 rintro⟨n,_⟩ ⟨k,rfl,hk⟩;refine .dec (λhlt=>?_) λ_=>.lft (.pure trivial)
 have hlt:k<p.Funcs.length:=by omega
 rw[Nw (by omega)]
 exact(Hs.ix (P:=λ_=>True) (by omega) (by omega) λ_ _=>trivial).bind λx _=>(AuP _).bind λ_ _=>.cnt ⟨⟨k+1,rfl,hlt⟩,by grind⟩
theorem AsK {n:Int} (hn:n<=1000) (hr:∀ row∈g,row.length<=512):Hs (Ado g n) λb=>b=true->(g.length:Int)=n:=by
 refine .bne (λ_=>.pure λh=>by cases h) λhgl=>?_
 refine(Hs.loop (Q:=λ_=>True) (λi=>∃ k:Nat,i=(k:Int)/\k<=g.length) (λi=>g.length-i.toNat) ⟨0,rfl,aAE _⟩ ?_).mono λ_ _ _=>hgl
 rintro _ ⟨k,rfl,hk⟩;refine .dec (λhlt=>?_) λ_=>.lft (.pure trivial)
 have hkl:k<g.length:=by omega
 have e:ixO g (k:Int)=some g[k]:=by simp_all
 have hrow:=hr g[k] (aAF _);rw[e,aA,Amm _ (by omega),aA]
 refine .cond (λ_=>.lft (.pure trivial)) λhc=>?_
 have hs:OB g[k]:=(Acx _).1 (by simp_all)
 rw[aA,Afj _ _ (by omega),aA]
 refine .cond (λ_=>.lft (.pure trivial)) λ_=>?_
 refine Hs.loop (λi=>∃ j:Nat,i=(j:Int)/\j<=(g[k]).length) (λi=>(g[k]).length-i.toNat) ⟨0,rfl,aAE _⟩ ?_
 rintro _ ⟨j,rfl,hj⟩;unfold AcS;rw[e,aA];refine .dec (λhlt=>?_) λ_=>.lft ?_
 ·refine(Hs.ix (by omega) hlt λv hv=>hs.2 v (aAB hv)).bind λv hv=>?_
  refine .dec (λ_=>.lft (.lft (.pure trivial))) λhvn=>?_
  refine(Hs.ix hv.1 (by omega) λx hx=>hr x (aAB hx)).bind λx hx=>?_
  rw[Afj _ _ (by omega),aA]
  refine .cond (λ_=>.lft (.lft (.pure trivial))) λ_=>?_
  rw[Nw (by omega)]
  exact .cnt ⟨⟨j+1,rfl,by omega⟩,by grind⟩
 ·unfold ZK;rw[Nw (by omega)]
  exact .cnt ⟨⟨k+1,rfl,by omega⟩,by grind⟩
theorem AtJ (a b:NB):Hs (Acf a b) λ_=>True:=by
 exact .cond (λ_=>.pure trivial) λ_=>.cond (λ_=>.pure trivial) λ_=>.pure trivial
theorem Awj (s:List NB) (hs:s.length<=1000):Hs (Ads s) λout=>out.length=s.length/\∀ v∈out,0<=v/\v<s.length:=by
 refine Hs.loop (λq=>∃ k:Nat,q.2=(k:Int)/\k<=s.length/\q.1.length=k/\∀ v∈q.1,0<=v/\v<s.length) (λq=>s.length-q.2.toNat) ⟨0,rfl,aAE _,rfl,λv hv=>by cases hv⟩ ?_
 rintro⟨out,_⟩ ⟨k,rfl,hk,hol,hov⟩;replace hol:out.length=k:=hol;replace hov:∀ v∈out,0<=v/\v<s.length:=hov;dsimp only;refine .dec (λhlt=>?_) λhge=>.lft (.pure ⟨by omega,hov⟩)
 have hlt:k<s.length:=by omega
 have j3:∀ m:Int,0<=m->m<=out.length->Hs (Vm out (k:Int) m) (Rnd (λq:List Int×Int=>∃ k:Nat,q.2=(k:Int)/\k<=s.length/\q.1.length=k/\∀ v∈q.1,0<=v/\v<s.length) (λq=>s.length-q.2.toNat) (out,(k:Int)) (λout=>out.length=s.length/\∀ v∈out,0<=v/\v<s.length)):=by
  intro m h0 h1;unfold Vm;refine .chk ⟨h0,h1⟩ (.chk (by simp;omega) (.chk (by simp;omega) (.chk ⟨h0,h1⟩ (.chk (by simp;omega) ?_))))
  unfold ZR;rw[Nw (by omega)]
  refine .cnt ⟨⟨k+1,rfl,hlt,by simp;omega,λv hv=>?_⟩,by grind⟩
  grind
 refine Hs.loop (λm=>0<=m/\m<=out.length) (λm=>m.toNat) ⟨by omega,by omega⟩ ?_
 rintro m ⟨h0,h1⟩;refine .dec (λhp=>?_) λ_=>.lft (j3 m h0 h1)
 rw[wrap64 (n:=m-1) (by omega) (by omega)]
 exact(Hs.ix (P:=λ_=>True) (by omega) (by omega) λ_ _=>trivial).bind λx _=>.chk (by omega) ((Hs.get (by omega) (by omega) λv hv=>hov v (aAB hv)).bind λv hv=>(Hs.ix (P:=λ_=>True) hv.1 hv.2 λ_ _=>trivial).bind λy _=>(AtJ x y).bind λb _=>.cond (λ_=>.cnt ⟨⟨by omega,by omega⟩,by grind⟩) λ_=>.lft (j3 m h0 h1))
theorem AtH (s:List NB) (hs:s.length<=500) (hg:∀ row∈g,row.length<=512) (frm:Int):Hs (Acb s g frm) λq=>q.2=0->q.1.length=s.length:=by
 refine(AkT s).bind λe _=>.bne (λhe=>.pure λh=>(he h).elim) λ_=>(AsK (by omega) hg).bind λb hb=>.cond (λ_=>.pure λh=>by simp at h) λhb'=>?_
 have hgl:g.length=s.length:=by grind
 rw[XK,aA];refine .cond (λ_=>.pure λh=>by simp at h) λ_=>?_
 refine .chk (by omega) (.chk (by omega) ((Awj s (by omega)).bind λord hord=>?_))
 refine Hs.loop (λq=>∃ k:Nat,q.2.2=(k:Int)/\k<=ord.length/\q.1.length=s.length/\q.2.1.length=s.length) (λq=>ord.length-q.2.2.toNat) ⟨0,rfl,aAE _,by simp,by simp⟩ ?_
 rintro⟨done,off,_⟩ ⟨k,rfl,hk,hdl,hfl⟩;replace hdl:done.length=s.length:=hdl;replace hfl:off.length=s.length:=hfl;dsimp only;refine .dec (λhlt=>?_) λ_=>.lft (.pure λ_=>hfl)
 have hlt:k<ord.length:=by omega
 refine .chk (by omega) ((Hs.get (by omega) (by omega) λv hv=>hord.2 v (aAB hv)).bind λv hv=>?_)
 refine Hs.loop (λq=>∃ j:Nat,q.2=(j:Int)/\j<=s.length/\q.1.length<=j) (λq=>s.length-q.2.toNat) ⟨0,rfl,aAE _,by simp⟩ ?_
 rintro⟨used,_⟩ ⟨j,rfl,hj,hul⟩;replace hul:used.length<=j:=hul;refine .dec (λhlt=>?_) λ_=>.lft ?_
 ·have hlt:j<s.length:=by omega
  have j5:∀ b:Bool,Hs (Ux (j:Int) off s used b) (Rnd (λq:List NH×Int=>∃ j:Nat,q.2=(j:Int)/\j<=s.length/\q.1.length<=j) (λq=>s.length-q.2.toNat) (used,(j:Int)) (Rnd (λq:List Bool×List Int×Int=>∃ k:Nat,q.2.2=(k:Int)/\k<=ord.length/\q.1.length=s.length/\q.2.1.length=s.length) (λq=>ord.length-q.2.2.toNat) (done,off,(k:Int)) λq=>q.2=0->q.1.length=s.length)):=by
   intro b;unfold Ux;rw[Nw (by omega)]
   refine .cond (λ_=>.chk (by omega) ((Hs.get (P:=λ_=>True) (by omega) (by omega) λ_ _=>trivial).bind λa _=>(Hs.ix (P:=λ_=>True) (by omega) (by omega) λ_ _=>trivial).bind λx _=>.chk (by simp;omega) (.cnt ⟨⟨j+1,rfl,hlt,by simp;omega⟩,by grind⟩))) λ_=>.cnt ⟨⟨j+1,rfl,hlt,by grind⟩,by grind⟩
  refine .chk (by omega) ((Hs.get (P:=λ_=>True) (by omega) (by omega) λ_ _=>trivial).bind λd _=>.cond (λ_=>?_) λ_=>j5 false)
  refine(Hs.ix hv.1 (by omega) λx hx=>hg x (aAB hx)).bind λx hx=>?_
  grind [Afj]
 ·refine(Hs.ix (P:=λ_=>True) hv.1 hv.2 λ_ _=>trivial).bind λx _=>(Hs.ix (P:=λ_=>True) hv.1 hv.2 λ_ _=>trivial).bind λy _=>(AyO used (by omega) frm _ _).bind λq _=>.bne (λhe=>.lft (.pure λh=>(he h).elim)) λ_=>?_
  refine .chk (by omega) ((Hs.get (P:=λ_=>True) (by omega) (by omega) λ_ _=>trivial).bind λ_ _=>.chk (by omega) ((Hs.get (P:=λ_=>True) (by omega) (by omega) λ_ _=>trivial).bind λ_ _=>?_))
  unfold YP;rw[Nw (by omega)]
  exact .cnt ⟨⟨k+1,rfl,hlt,by simp_all,by simp_all⟩,by grind⟩
theorem AyN (s:List NB) (hs:s.length<=1000) (off:List Int):Hs (AgH s off) λ_=>True:=by
 refine Hs.loop (λq=>∃ k:Nat,q.2=(k:Int)/\k<=s.length) (λq=>s.length-q.2.toNat) ⟨0,rfl,aAE _⟩ ?_
 rintro⟨n,_⟩ ⟨k,rfl,hk⟩;refine .dec (λhlt=>.dec (λhlt2=>?_) λ_=>.lft (.pure trivial)) λ_=>.lft (.pure trivial)
 have hlt:k<s.length:=by omega
 unfold Ace;rw[Nw (by omega)]
 exact(Hs.ix (P:=λ_=>True) (by omega) (by omega) λ_ _=>trivial).bind λ_ _=>(Hs.ix (P:=λ_=>True) (by omega) (by omega) λ_ _=>trivial).bind λ_ _=>.cnt ⟨⟨k+1,rfl,hlt⟩,by grind⟩
theorem Auj {i:Int} (hi:ixO p.Funcs i=some f) (hl:f.Code.length<=10000) (hs:f.Slots.length<=500) (hc:∀ x∈f.Code,x.Op=22->0<=x.A/\x.A<p.Funcs.length) (al:Int) (off:List Int):Hs (Zq p i al off) λ_=>True:=by
 unfold Zq;rw[hi,aA];refine .bne (λ_=>.pure trivial) λho=>?_
 refine Hs.loop (λq=>∃ k:Nat,q=(k:Int)/\k<=f.Slots.length) (λq=>f.Slots.length-q.toNat) ⟨0,rfl,aAE _⟩ ?_
 rintro _ ⟨k,rfl,hk⟩;refine .dec (λhlt=>?_) λ_=>.lft ?_
 ·have hlt:k<f.Slots.length:=by omega
  rw[Nw (by omega)]
  exact(Hs.ix (P:=λ_=>True) (by omega) (by omega) λ_ _=>trivial).bind λ_ _=>(Hs.ix (P:=λ_=>True) (by omega) (by omega) λ_ _=>trivial).bind λ_ _=>(AfH _).bind λ_ _=>.cond (λ_=>.lft (.pure trivial)) λ_=>.cnt ⟨⟨k+1,rfl,hlt⟩,by grind⟩
 ·exact(Asf hi hl hc).bind λa _=>(AyN _ (by omega) off).bind λe _=>(Axh _ _).bind λq _=>.bne (λ_=>.pure trivial) λ_=>.dec (λ_=>.pure trivial) λ_=>.chk (by simp;omega) (.pure trivial)
attribute [local simp] Oa aAG
theorem AlU:Lib.compact ([]:List Int)=[]:=by simp[Lib.compact,Lib.compactUpTo]
theorem AlV (a:Int):Lib.compact [a]=[a]:=by simp[Lib.compact,Lib.compactUpTo,aAh,Lib.keeps]
theorem AgY (a b:Int):Lib.compact [a,b]=if a=b then[a]else[a,b]:=by
 by_cases h:a=b
 ·simp_all[Lib.compact,Lib.compactUpTo,aAh,Lib.keeps]
 ·have h':¬ b=a:=λe=>h e.symm
  simp_all[Lib.compact,Lib.compactUpTo,aAh,Lib.keeps]
theorem Ars (a:Int):YQ [a]=[a]:=by simp[YQ]
theorem Arr:YQ []=[]:=by simp[YQ]
theorem AwF (a b:Int):YQ [a,b]=if a<=b then[a,b]else[b,a]:=by
 unfold YQ List.mergeSort
 by_cases h:a<=b<;>simp[List.MergeSort.Internal.splitInTwo,h]
theorem AvV (h:f.Code[k]? =some x) (hk:k<9223372036854775807):AdQ f (k:Int)=some (Rc x k):=by
 obtain⟨hl,hx⟩:=aAC.1 h;have hnl:¬ f.Code.length<=k:=by omega
 have w:IntKind.i64.wrap ((k:Int)+1)=(k:Int)+1:=wrap64 (by omega) (by omega)
 unfold AdQ AbP Ze Rc PA;obtain⟨op,a,b,c,i⟩:=x
 by_cases h20:op=20
 ·subst h20;simp[hx,hl,hnl,show ¬ (k:Int)<0 by omega,Ars,AlV]
 ·by_cases h23:op=23
  ·simp_all[Arr,AlU]
  ·by_cases h24:op=24
   ·simp_all[Arr,AlU]
   ·have e24:(op==24)=false:=by simp_all
    by_cases h21:op=21
    ·subst h21;simp[hx,hl,hnl,show ¬ (k:Int)<0 by omega,w,AwF]
     by_cases hb:b<(k:Int)+1
     ·simp[hb,show ¬ (k:Int)+1<=b by omega,AgY,show ¬ b=(k:Int)+1 by omega]
     ·by_cases hb':(k:Int)+1<b
      ·simp[hb,hb',show(k:Int)+1<=b by omega,AgY,show ¬ (k:Int)+1=b by omega]
      ·simp[AgY,show(k:Int)+1=b by omega]
    ·simp[hx,hl,hnl,show ¬ (k:Int)<0 by omega,w,e24,h20,h23,h24,h21,Ars,AlV]
attribute [local simp] Oa
theorem AqL (hs:s.Pairwise (· <·)) {n:Int} {h:s.length-1<s.length} (hl:s[s.length-1]<n):∀ v∈s,v<n:=by
 grind [List.getElem_of_mem,aAm]
theorem AwQ (s:List Int) (f:Nn) (hs:s.length<=maxLen):Hs (SB s f) λb=>(b=false↔Od f.Slots.length s):=by
 have hm:maxLen<=9223372036854775807:=by decide
 unfold SB;rw[AoY s (by omega),aA]
 by_cases hc:Vp none s=true
 ·have hset:=(Acx s).1 hc;rw[hc];refine .dec (λhp=>?_) λhp=>?_
  ·have hi:s.length-1<s.length:=by omega
   have w:IntKind.i64.wrap ((s.length:Int)-1)=((s.length-1:Nat):Int):=by grind [wrap64]
   rw[w,NT,aAA hi,aA];refine .pure ⟨λh=>⟨hset,AqL hset.1 (h:=hi) (by simp_all)⟩,λh=>?_⟩
   have:=h.2 _ (aAF hi);simp;omega
  ·have:s=[]:=aAV.1 (by omega)
   subst this;exact .pure ⟨λ_=>Od.nil _,λ_=>rfl⟩
 ·have hc':Vp none s=false:=by simp_all
  rw[hc'];exact .pure ⟨λh=>(by cases h),λh=>(hc ((Acx s).2 h.1)).elim⟩
theorem Aph (f:Nn) (l:NN) (hl:l.Out.length<=maxLen) (hr:∀ s∈l.Out,s.length<=maxLen):Hs (Vv f l) λb=>(b=true↔RH f l.Out):=by
 have hm:maxLen<=9223372036854775807:=by decide
 refine .beq (λhe=>?_) λhne=>.pure ⟨λh=>(by cases h),λh=>(hne (by rw[h.1])).elim⟩
 have he:l.Out.length=f.Code.length:=by omega
 have key:Hs (QW l.Out f) λi=>(0<=i↔¬ ∀ s∈l.Out,Od f.Slots.length s):=by
  refine Hs.loop (λi=>∃ k:Nat,i=(k:Int)/\k<=l.Out.length/\∀ (j:Nat) s,j<k->l.Out[j]? =some s->Od f.Slots.length s) (λi=>l.Out.length-i.toNat) ⟨0,rfl,aAE _,λj s h=>absurd h (aAI _)⟩ ?_
  rintro _ ⟨k,rfl,hk,hall⟩;refine .dec (λhlt=>?_) λhge=>?_
  ·have hlt:k<l.Out.length:=by omega
   rw[NT,aAA hlt,aA];refine(AwQ _ f (hr _ (aAF hlt))).bind λb hb=>.cond (λh=>?_) λh=>?_
   ·refine .lft (.pure ⟨λ_ hh=>?_,λ_=>by omega⟩)
    simp_all
   ·rw[Nw (by omega)]
    refine .cnt ⟨⟨k+1,rfl,hlt,λj s hj hs=>?_⟩,by grind⟩
    grind
  ·refine .lft (.pure ⟨λh=>by omega,λh=>(h λs hs=>?_).elim⟩)
   grind [aAH]
 refine Hs.bind (P:=λb=>(b=true↔¬ ∀ s∈l.Out,Od f.Slots.length s)) (key.bind λi hi=>.pure (by simp_all)) λb hb=>.pure ?_
 constructor
 ·intro h;have hb':b=false:=by simp_all
  refine⟨he,λs hs=>?_⟩
  simp_all
 ·intro h;have:¬ b=true:=λhbt=>hb.1 hbt h.2
  simp_all
theorem Ark (f:Nn) (l:NN) (hl:l.Out.length<=maxLen) (hr:∀ s∈l.Out,s.length<=maxLen):Hs (AaB f l) λb=>(b=true↔RH f l.Out):=by
 have hm:maxLen<=9223372036854775807:=by decide
 refine .bne (λhne=>.pure ⟨λh=>(by cases h),λh=>(hne (by rw[h.1])).elim⟩) λhe=>?_
 have he:l.Out.length=f.Code.length:=by omega
 refine Hs.loop (λi=>∃ k:Nat,i=(k:Int)/\k<=l.Out.length/\∀ (j:Nat) s,j<k->l.Out[j]? =some s->Od f.Slots.length s) (λi=>l.Out.length-i.toNat) ⟨0,rfl,aAE _,λj s h=>absurd h (aAI _)⟩ ?_
 rintro _ ⟨k,rfl,hk,hall⟩;refine .dec (λhlt=>?_) λhge=>?_
 ·have hlt:k<l.Out.length:=by omega
  have hg:l.Out[k]? =some l.Out[k]:=aAA hlt;have hlen:=hr _ (aAF hlt);rw[NT,hg,aA,Amm _ (by omega),aA]
  have next:Od f.Slots.length l.Out[k]->Hs (cnt (R:=Bool) (IntKind.i64.wrap ((k:Int)+1))) (Rnd (λi:Int=>∃ k:Nat,i=(k:Int)/\k<=l.Out.length/\∀ (j:Nat) s,j<k->l.Out[j]? =some s->Od f.Slots.length s) (λi=>l.Out.length-i.toNat) (k:Int) λb=>(b=true↔RH f l.Out)):=by
   intro hset;rw[Nw (by omega)]
   refine .cnt ⟨⟨k+1,rfl,hlt,λj s hj hs=>?_⟩,by grind⟩
   grind
  have stop:¬ Od f.Slots.length l.Out[k]->((false:Bool)=true↔RH f l.Out):=λhn=>⟨λh=>(by cases h),λh=>(hn (h.2 _ (aAF hlt))).elim⟩
  by_cases hc:Vp none l.Out[k]=true
  ·have hset:=(Acx _).1 hc;rw[hc];simp only[aAf,cond_false,aA];refine .dec (λhp=>?_) λhp=>?_
   ·have hi:l.Out[k].length-1<l.Out[k].length:=by omega
    have w:IntKind.i64.wrap ((l.Out[k].length:Int)-1)=((l.Out[k].length-1:Nat):Int):=by grind [wrap64]
    rw[w,NT,aAA hi,aA];refine .dec (λh=>.lft (.pure (stop λhh=>?_))) λh=>next ⟨hset,AqL hset.1 (h:=hi) (by omega)⟩
    have:=hh.2 _ (aAF hi);omega
   grind [aAV,Od.nil]
  ·have hc':Vp none l.Out[k]=false:=by simp_all
   rw[hc'];exact .lft (.pure (stop λh=>hc ((Acx _).2 h.1)))
 ·refine .lft (.pure ⟨λ_=>⟨he,λs hs=>?_⟩,λ_=>rfl⟩)
  grind [aAH]
def UY (f:Nn) (l:List (List Int)) (k:Int):List Int :=
 (Rc (Ns f k) k).foldl (λo j=>QT o ((inN (Ns f j) (NP l j)).filter λv=>!decide (v∈NP l k))) []
theorem RH.at (h:RH f l) (h0:0<=j) (h1:j<f.Code.length):l[j.toNat]? =some (NP l j)/\Od f.Slots.length (NP l j):=by
 have hl:j.toNat<l.length:=by have:=h.1;omega
 have:l[j.toNat]? =some (NP l j):=by grind [NP]
 exact⟨this,h.2 _ (aAB this)⟩
theorem NS.at (_h:NS f) (h0:0<=j) (h1:j<f.Code.length):f.Code[j.toNat]? =some (Ns f j)/\Ns f j∈f.Code:=by
 grind [Ns]
theorem NS.Ayk (h:NS f) (hx:x∈f.Code):∀ v∈Pm x,0<=v/\v<512:=λv hv=>by have:=h.uses x hx v hv;have:=h.slots;omega
theorem AkM (hf:NS f) (hl:RH f l) {k:Int} (_hk:0<=k/\k<f.Code.length) (hj:0<=j/\j<f.Code.length) {o:List Int} (ho:Od f.Slots.length o) :
  Od f.Slots.length (QT o ((inN (Ns f j) (NP l j)).filter λv=>!decide (v∈NP l k)))/\∀ v,v∈QT o ((inN (Ns f j) (NP l j)).filter λv=>!decide (v∈NP l k))↔v∈o\/(v∈inN (Ns f j) (NP l j)/\v∉NP l k):=by
 have hsl:=hf.slots;obtain⟨g1,g2⟩:=AcD hf (hf.at hj.1 hj.2).2 (hl.at hj.1 hj.2).2;obtain⟨g3,g4⟩:=Vc (n:=f.Slots.length) (by omega) (b:=(inN (Ns f j) (NP l j)).filter λv=>!decide (v∈NP l k)) ho λx hx=>⟨(g1.1.2 x (aAc.1 hx).1).1,g1.2 x (aAc.1 hx).1⟩
 exact⟨g3,λv=>by simp_all⟩
theorem Apn {f:Nn} (hf:NS f) {l:List (List Int)} (hl:RH f l) {k:Int} (hk:0<=k/\k<f.Code.length):∀ {js:List Int} {o:List Int},(∀ j∈js,0<=j/\j<f.Code.length)->Od f.Slots.length o ->
  Od f.Slots.length (js.foldl (λo j=>QT o ((inN (Ns f j) (NP l j)).filter λv=>!decide (v∈NP l k))) o)/\∀ v,v∈js.foldl (λo j=>QT o ((inN (Ns f j) (NP l j)).filter λv=>!decide (v∈NP l k))) o↔v∈o\/∃ j∈js,v∈inN (Ns f j) (NP l j)/\v∉NP l k
 | [],o,_,ho=>⟨ho,λv=>by simp⟩
 | j::js,o,hj,ho=>by
  obtain⟨h1,h2⟩:=AkM hf hl hk (hj j (aAJ ..)) ho;obtain⟨h5,h6⟩:=Apn hf hl hk (λq hq=>hj q (aAK _ hq)) h1
  grind
theorem Amz (hf:NS f) (hl:RH f l) (hk:k<f.Code.length):Od f.Slots.length (UY f l k)/\∀ v,v∈UY f l k↔∃ j∈Rc (Ns f k) k,v∈inN (Ns f j) (NP l j)/\v∉NP l k:=by
 have hx:f.Code[k]? =some (Ns f k):=by grind [Ns]
 obtain⟨h1,h2⟩:=Apn hf hl (k:=(k:Int)) ⟨by omega,by omega⟩ (hf.next k _ hx) (Od.nil _)
 grind [UY]
theorem Aso (x:Lo) (k:Int):(Rc x k).length<=2:=by grind [Rc]
theorem AsY (hf:NS f) {l:NN} (hl:RH f l.Out) (hk:k<f.Code.length):Qc f k l [] l k=some (true,UY f l.Out k):=by
 have hlen:=hf.len';have hx:f.Code[k]? =some (Ns f k):=by grind [Ns]
 have hn:=hf.next k _ hx;have h2:=Aso (Ns f k) k;obtain⟨hk1,hk2⟩:=hl.at (j:=(k:Int)) (by omega) (by omega)
 simp only[aAD]at hk1;unfold Qc;rw[AvV hx (by omega),aA]
 have:=SC (body:=λs:List Int×Int=>PK (Rc (Ns f k) k) f l l k s.1 s.2) (Rc (Ns f k) k) (λ(o:List Int) i=>(o,i)) (λo _=>Od f.Slots.length o)
  (λo js=>some (true,js.foldl (λo j=>QT o ((inN (Ns f j) (NP l.Out j)).filter λv=>!decide (v∈NP l.Out k))) o))
  (λo _=>⟨_,by simp[PK];rfl,by simp⟩) (λo i j r ho hd hi hj=>by
   left;have wi:=Nw (show i<9223372036854775807 by omega)
   have hjm:=hn j (aAB hj);obtain⟨c1,c2⟩:=hf.at hjm.1 hjm.2;obtain⟨o1,o2⟩:=hl.at hjm.1 hjm.2;obtain⟨g1,g2⟩:=AkM hf hl (k:=(k:Int)) ⟨by omega,by omega⟩ hjm ho
   obtain⟨s1,s2⟩:=AcD hf c2 o2;have hsl:=hf.slots;have e1:=AyM o2.1 (hf.Ayk c2);have e2:=ArG s1.1 hk2.1;have e3:=AgW ho.1 (b:=(inN (Ns f j) (NP l.Out j)).filter λv=>!decide (v∈NP l.Out k)) (λx hx=>by have:=s1.1.2 x (aAc.1 hx).1;exact this) (by have:=(s1.1.filter λv=>!decide (v∈NP l.Out k)).length_le;omega)
   obtain⟨_,hje⟩:=aAC.1 hj;refine⟨_,g1,?_,rfl⟩
   simp_all[PK,VM,SG,OZ]) [] (Od.nil _)
 exact this
theorem ArW (hf:NS f) {l:NN} (hl:RH f l.Out) (hk:k<f.Code.length):Yl f l k=some (UY f l.Out k):=by
 have hlen:=hf.len';have hx:f.Code[k]? =some (Ns f k):=by grind [Ns]
 have hn:=hf.next k _ hx;have h2:=Aso (Ns f k) k;obtain⟨hk1,hk2⟩:=hl.at (j:=(k:Int)) (by omega) (by omega)
 simp only[aAD]at hk1;unfold Yl;rw[Arf hx (by omega),aA]
 have:=SC (body:=λs:List Int×Int=>VB (Rc (Ns f k) k) f l k s.1 s.2) (Rc (Ns f k) k) (λ(o:List Int) i=>(o,i)) (λo _=>Od f.Slots.length o)
  (λo js=>some (js.foldl (λo j=>QT o ((inN (Ns f j) (NP l.Out j)).filter λv=>!decide (v∈NP l.Out k))) o))
  (λo _=>⟨_,by simp[VB];rfl,by simp⟩) (λo i j r ho hd hi hj=>by
   left;have wi:=Nw (show i<9223372036854775807 by omega)
   have hjm:=hn j (aAB hj);obtain⟨c1,c2⟩:=hf.at hjm.1 hjm.2;obtain⟨o1,o2⟩:=hl.at hjm.1 hjm.2;obtain⟨g1,g2⟩:=AkM hf hl (k:=(k:Int)) ⟨by omega,by omega⟩ hjm ho
   obtain⟨s1,s2⟩:=AcD hf c2 o2;have hsl:=hf.slots;have e1:=AwW (Ns f j) (NP l.Out j) (by have:=o2.1.length_le;omega)
   have e2:=AuJ (inN (Ns f j) (NP l.Out j)) (NP l.Out k) (by have:=s1.1.length_le;omega) (by have:=hk2.1.length_le;omega)
   have e3:=union_eq o ((inN (Ns f j) (NP l.Out j)).filter λv=>!decide (v∈NP l.Out k)) (by have:=(s1.1.filter λv=>!decide (v∈NP l.Out k)).length_le;have:=ho.1.length_le;omega)
   obtain⟨_,hje⟩:=aAC.1 hj;refine⟨_,g1,?_,rfl⟩
   simp_all[VB,OZ]) [] (Od.nil _)
 exact this
def AeV (f:Nn) (l:List (List Int)) (r:Int×Int×Bool):Prop :=
 (RH f l/\∃ (k:Nat) (v:Int),k<f.Code.length/\(∀ j:Nat,j<k->UY f l j=[])/\(UY f l k)[0]? =some v/\r=((k:Int),v,true)) \/
 ((RH f l->∀ j:Nat,j<f.Code.length->UY f l j=[])/\r=(0,0,false))
theorem AeV.unique {r q:Int×Int×Bool} (h:AeV f l r) (k:AeV f l q):r=q:=by
 rcases h with⟨h0,i,v,h1,h2,h3,rfl⟩|⟨h1,rfl⟩<;>rcases k with⟨k0,j,u,k1,k2,k3,rfl⟩|⟨k1,rfl⟩
 all_goals grind
def Acc (f:Nn) (l:List (List Int)):Prop:=RH f l/\∀ j:Nat,j<f.Code.length->UY f l j=[]
theorem AeV.acc {r:Int×Int×Bool} (h:AeV f l r) (hl:RH f l):r.2.2=false↔Acc f l:=by
 rcases h with⟨h0,i,v,h1,h2,h3,rfl⟩|⟨h1,rfl⟩
 ·exact⟨λh=>(by cases h),λh=>by rw[h.2 i h1]at h3;cases h3⟩
 ·exact⟨λ_=>⟨hl,h1 hl⟩,λ_=>rfl⟩
def Qn (l:List (List Int)):Prop:=l.length<=maxLen/\∀ s∈l,s.length<=maxLen
theorem AvU (hf:NS f) {l:NN} (hl:Qn l.Out):Hs (YO f l) (AeV f l.Out):=by
 have hlen:=hf.len';refine(Aph f l hl.1 hl.2).bind λb hb=>.cond (λh=>?_) λh=>?_
 ·have hb':¬ b=true:=by simp_all
  exact .pure (.inr ⟨λhh=>(hb' (hb.2 hh)).elim,rfl⟩)
 ·have hb':b=true:=by simp_all
  have hok:=hb.1 hb';refine Hs.loop (λi=>∃ k:Nat,i=(k:Int)/\k<=f.Code.length/\∀ j:Nat,j<k->UY f l.Out j=[]) (λi=>f.Code.length-i.toNat) ⟨0,rfl,aAE _,λj h=>absurd h (aAI _)⟩ ?_
  rintro _ ⟨k,rfl,hk,hall⟩;refine .dec (λhlt=>?_) λhge=>?_
  ·have hlt:k<f.Code.length:=by omega
   rw[show ZC l=some l from rfl,aA,AsY hf hok hlt,aA]
   refine .dec (λhp=>?_) λhp=>?_
   ·have hp:0<(UY f l.Out k).length:=by simp_all
    simp only[AvZ];have hg:(UY f l.Out k)[0]? =some ((UY f l.Out k)[0]):=aAA hp;rw[hg,aA];exact .lft (.pure (.inl ⟨hok,k,_,hlt,hall,hg,rfl⟩))
   ·rw[Nw (by omega)]
    refine .cnt ⟨⟨k+1,rfl,hlt,λj hj=>?_⟩,by grind⟩
    grind [aAV]
  ·exact .lft (.pure (.inr ⟨λ_ j hj=>hall j (by omega),rfl⟩))
theorem AuI (hf:NS f) {l:NN} (hl:Qn l.Out):Hs (Adn f l) (AeV f l.Out):=by
 have hlen:=hf.len';refine(Ark f l hl.1 hl.2).bind λb hb=>.cond (λh=>?_) λh=>?_
 ·have hb':¬ b=true:=by simp_all
  exact .pure (.inr ⟨λhh=>(hb' (hb.2 hh)).elim,rfl⟩)
 ·have hb':b=true:=by simp_all
  have hok:=hb.1 hb';refine Hs.loop (λi=>∃ k:Nat,i=(k:Int)/\k<=f.Code.length/\∀ j:Nat,j<k->UY f l.Out j=[]) (λi=>f.Code.length-i.toNat) ⟨0,rfl,aAE _,λj h=>absurd h (aAI _)⟩ ?_
  rintro _ ⟨k,rfl,hk,hall⟩;refine .dec (λhlt=>?_) λhge=>?_
  ·have hlt:k<f.Code.length:=by omega
   rw[ArW hf hok hlt,aA];refine .dec (λhp=>?_) λhp=>?_
   ·have hp:0<(UY f l.Out k).length:=by omega
    refine .chk (by omega) ?_
    have hg:(UY f l.Out k)[0]? =some ((UY f l.Out k)[0]):=aAA hp;rw[show(0:Int).toNat=0 from rfl,hg,aA]
    exact .lft (.pure (.inl ⟨hok,k,_,hlt,hall,hg,rfl⟩))
   ·rw[Nw (by omega)]
    refine .cnt ⟨⟨k+1,rfl,hlt,λj hj=>?_⟩,by grind⟩
    grind [aAV]
  ·exact .lft (.pure (.inr ⟨λ_ j hj=>hall j (by omega),rfl⟩))
theorem Amn (hf:NS f) {l:NN} (hl:Qn l.Out):Hs (Uu f l) λe=>(e=0\/e=11)/\(e=0↔Acc f l.Out):=by
 refine(Aph f l hl.1 hl.2).bind λb hb=>.cond (λh=>?_) λh=>?_
 ·have hb':¬ b=true:=by simp_all
  exact .pure ⟨.inr rfl,λh=>by omega,λh=>(hb' (hb.2 h.1)).elim⟩
 ·have hb':b=true:=by simp_all
  refine(AvU hf hl).bind λr hr=>.cond (λh=>.pure ⟨.inr rfl,λh=>by omega,λh'=>?_⟩) λh=>.pure ⟨.inl rfl,λ_=>(hr.acc (hb.1 hb')).1 h,λ_=>rfl⟩
  rw[(hr.acc h'.1).2 h']at h;cases h
theorem AuF (hf:NS f) {l:NN} (hl:Qn l.Out):Hs (Adm f l) λe=>(e=0\/e=11)/\(e=0↔Acc f l.Out):=by
 refine(AuI hf hl).bind λr hr=>.cond (λh=>.pure ⟨.inr rfl,λh=>by omega,λh'=>?_⟩) λh=>?_
 ·rw[(hr.acc h'.1).2 h']at h;cases h
 ·refine(Ark f l hl.1 hl.2).bind λb hb=>.cond (λh=>?_) λh2=>?_
  ·have hb':¬ b=true:=by simp_all
   exact .pure ⟨.inr rfl,λh=>by omega,λh=>(hb' (hb.2 h.1)).elim⟩
  ·have hb':b=true:=by simp_all
   exact .pure ⟨.inl rfl,λ_=>(hr.acc (hb.1 hb')).1 h,λ_=>rfl⟩
theorem RH.len (hf:NS f) (h:RH f l):Qn l:=by
 have hm:(100000:Nat)<=maxLen:=by decide
 have:=hf.len';have:=h.1;exact⟨by omega,λs hs=>by have:=(h.2 s hs).1.length_le;omega⟩
theorem Axi (hf:NS f) (hl:RH f l):Acc f l↔LE (Ua f l) l:=by
 constructor
 ·rintro⟨_,h⟩ k s t hs ht v hv;have hk:k<f.Code.length:=by have:=(aAC.1 ht).1;have:=hl.1;omega
  have e1:s=YA f l k:=by grind [Ua]
  have e2:t=NP l k:=by grind [NP]
  subst e1 e2;rw[(AaI hf hl hk).2]at hv;obtain⟨j,hj,hv⟩:=hv;refine aAe λhn=>?_
  have:v∈UY f l k:=((Amz hf hl hk).2 v).2 ⟨j,hj,hv,hn⟩;simp_all
 ·intro h;refine⟨hl,λk hk=>?_⟩
  refine List.eq_nil_iff_forall_not_mem.2 λv hv=>?_
  obtain⟨j,hj,h1,h2⟩:=((Amz hf hl hk).2 v).1 hv;refine h2 (h k (YA f l k) (NP l k) (by grind [Ua]) ?_ v (((AaI hf hl hk).2 v).2 ⟨j,hj,h1⟩))
  have:=(hl.at (j:=(k:Int)) (by omega) (by omega)).1
  simp_all
theorem Acc.mem (hf:NS f) (h:Acc f l) (hk:k<f.Code.length) (hj:j∈Rc (Ns f k) k) (hv:v∈inN (Ns f j) (NP l j)):v∈NP l k:=by
 refine aAe λhn=>?_
 have:v∈UY f l k:=((Amz hf h.1 hk).2 v).2 ⟨j,hj,hv,hn⟩;rw[h.2 k hk]at this;cases this
theorem AnT.acc (hf:NS f) (h:AnT f l):Acc f l:=by
 rw[Axi hf h.ok,h.fix];intro k s t hs ht v hv;simp_all
def I64 (v:Int):Prop:=-9223372036854775808<=v/\v<=9223372036854775807
theorem AxD (n:Int):I64 (IntKind.i64.wrap n):=by
 grind [I64,IntKind.wrap,aAt,aAx]
def AdB (l:List (List Int)):Prop:=∀ s∈l,s.length<=512/\∀ v∈s,I64 v
def YU (l:List (List Int)):Prop:=∀ s∈l,OB s
theorem YU.rows (h:YU l):AdB l:=λs hs=>⟨(h s hs).length_le,λv hv=>by have:=(h s hs).2 v hv;grind [I64]⟩
theorem YU.set (h:YU l) (hs:OB s):YU (l.set k s):=by
 intro t ht;rcases aAd ht with h1|rfl
 ·exact h t h1
 ·exact hs
theorem OB.add (h:OB s) (n:Int):OB (Rf n s):=by
 unfold Rf;split
 ·exact h.UB (by assumption)
 ·exact h
theorem AdB.len (hf:NS f) (h1:l.length<=f.Code.length) (h2:AdB l):Qn l:=by
 have hm:(100000:Nat)<=maxLen:=by decide
 have:=hf.len';exact⟨by omega,λs hs=>by have:=(h2 s hs).1;omega⟩
def AgZ (x:Lo):Int×Bool:=if x.Op=16\/x.Op=17 then(x.A,true)else(0,false)
theorem Ale (x:Lo):Sp x=some (AgZ x):=by
 grind [Sp,Sa,AgZ]
def QD (f:Nn):Prop:=∀ x∈f.Code,(x.Op=16\/x.Op=17)->0<=x.A/\x.A<f.Slots.length
theorem Sc.defs {i most:Int} (h:Sc ps i most f):QD f:=by
 intro x hx hop;obtain⟨k,hk⟩:=aAH hx;have hkl:=(aAC.1 hk).1
 by_cases hk1:k+1<f.Code.length
 ·have hins:=h.body k x hk hk1;cases hins with
  | store a b h0 h1 h2=>simp_all
  | move a b h0 h1 h2=>exact⟨h0.1,h0.2.1⟩
  | bin op a b c h1 h2 h3 h4 h5 h6=>grind
  | un op a h1 h2=>grind
  | _=>simp at hop
 ·have he:=h.last x (by grind)
  rcases he with rfl|⟨w,_,rfl⟩<;>simp at hop
def Alb (x:Lo) (v:Int):Bool:=x.Op==17&&x.B==v
def AmA (_:Lo) (_:Int):Bool:=false
def Aqh (mv:Lo->Int->Bool) (f:Nn) (l:List (List Int)) (k:Nat) (a v:Int):Prop :=
 a=(Ns f k).A/\((Ns f k).Op=16\/(Ns f k).Op=17)/\¬ ((Ns f k).Op=17/\(Ns f k).A=(Ns f k).B)/\v∈NP l k/\v≠a/\mv (Ns f k) v=false
def Abv (mv:Lo->Int->Bool) (f:Nn) (l:List (List Int)) (k:Nat) (a v:Int):Prop:=∃ j<k,Aqh mv f l j a v
def Ed (mv:Lo->Int->Bool) (f:Nn) (l:List (List Int)) (a v:Int):Prop:=Abv mv f l f.Code.length a v
def Aea (mv:Lo->Int->Bool) (f:Nn) (l:List (List Int)) (k i:Nat) (a v:Int):Prop :=
 Abv mv f l k a v\/(a=(Ns f k).A/\v∈(NP l k).take i/\v≠a/\mv (Ns f k) v=false)
theorem Apf:Abv mv f l (k+1) a v↔Abv mv f l k a v\/Aqh mv f l k a v:=by
 constructor
 ·rintro⟨j,hj,h⟩
  by_cases e:j=k
  ·simp_all
  ·exact .inl ⟨j,by omega,h⟩
 ·rintro(⟨j,hj,h⟩|h)
  ·exact⟨j,by omega,h⟩
  ·exact⟨k,by omega,h⟩
theorem Aud:Aea mv f l k 0 a v↔Abv mv f l k a v:=by simp[Aea]
theorem AvQ (h1:(Ns f k).Op=16\/(Ns f k).Op=17) (h2:¬ ((Ns f k).Op=17/\(Ns f k).A=(Ns f k).B)) :
  Aea mv f l k (NP l k).length a v↔Abv mv f l (k+1) a v:=by
 grind [Apf,Aea,Aqh]
theorem Apd {x:Int} (hx:(NP l k)[i]? =some x) :
  Aea mv f l k (i+1) a v↔Aea mv f l k i a v\/(a=(Ns f k).A/\v=x/\x≠a/\mv (Ns f k) x=false):=by
 grind [aAY,Aea]
theorem Ape (h:((Ns f k).Op≠16/\(Ns f k).Op≠17)\/((Ns f k).Op=17/\(Ns f k).A=(Ns f k).B)) :
  Abv mv f l (k+1) a v↔Abv mv f l k a v:=by
 rw[Apf];constructor
 ·rintro(h1|⟨_,h2,h3,_⟩)
  all_goals omega
 simp_all
theorem Auc {x:Int} (hx:(NP l k)[i]? =some x) (h:x=(Ns f k).A\/mv (Ns f k) x=true) :
  Aea mv f l k (i+1) a v↔Aea mv f l k i a v:=by
 grind [Apd]
def Agm (m:List (List Bool)) (a v:Nat):Bool:=(((m[a]?).getD [])[v]?).getD false
def AkX (n:Nat) (m:List (List Bool)) (P:Int->Int->Prop):Prop :=
 m.length=n/\(∀ row∈m,row.length=n)/\∀ a v:Nat,a<n->v<n->(Agm m a v=true↔P a v\/P v a)
theorem AkX.congr {n:Nat} {P Q:Int->Int->Prop} (h:AkX n m P) (hq:∀ a v,Q a v↔P a v):AkX n m Q :=
 ⟨h.1,h.2.1,λa v ha hv=>by rw[h.2.2 a v ha hv,hq,hq]⟩
theorem Apb {n:Nat} (hl:m.length=n) {d:Nat} (hd:d<n) (r:List Bool) (a v:Nat):Agm (m.set d r) a v=if a=d then(r[v]?).getD false else Agm m a v:=by
 unfold Agm
 grind
theorem AqJ {n:Nat} {r:List Bool} (hl:r.length=n) {v:Nat} (hv:v<n) (b:Nat):((r.set v true)[b]?).getD false=if b=v then true else(r[b]?).getD false:=by
 grind
theorem AkX.set {n:Nat} {P:Int->Int->Prop} (h:AkX n m P) {d v:Nat} {r1 r2:List Bool} (hd:d<n) (hv:v<n) (hne:d≠v) (h1:m[d]? =some r1) (h2:m[v]? =some r2) :
  AkX n ((m.set d (r1.set v true)).set v (r2.set d true)) (λa b=>P a b\/(a=d/\b=v)):=by
 obtain⟨hl,hr,hc⟩:=h;have l1:=hr _ (aAB h1);have l2:=hr _ (aAB h2);refine⟨by simp[hl],λrow hrow=>?_,λa b ha hb=>?_⟩
 ·grind
 ·rw[Apb (n:=n) (by simp[hl]) hv,Apb hl hd,AqJ l2 hd,AqJ l1 hv]
  have e1:(r1[b]?).getD false=Agm m d b:=by grind [Agm]
  have e2:(r2[b]?).getD false=Agm m v b:=by grind [Agm]
  grind
def Ri (n:Nat) (out:List (List Int)) (Q:Nat->Int->Prop):Prop:=out.length=n/\∀ (a:Nat) s,out[a]? =some s->Od n s/\∀ v,v∈s↔Q a v
theorem Ri.congr {n:Nat} {out:List (List Int)} {P:Nat->Int->Prop} (h:Ri n out P) (hq:∀ a v,a<n->(Q a v↔P a v)):Ri n out Q :=
 ⟨h.1,λa s hs=>⟨(h.2 a s hs).1,λv=>by rw[(h.2 a s hs).2 v,hq a v (by have:=(aAC.1 hs).1;have:=h.1;omega)]⟩⟩
theorem Ri.ext {n:Nat} {o1 o2:List (List Int)} (h1:Ri n o1 Q) (h2:Ri n o2 Q):o1=o2:=by
 apply aAS;intro a
 by_cases ha:a<n
 ·have e1:o1[a]? =some (o1[a]'(by have:=h1.1;omega)):=aAA _
  have e2:o2[a]? =some (o2[a]'(by have:=h2.1;omega)):=aAA _
  rw[e1,e2,(h1.2 a _ e1).1.1.ext (h2.2 a _ e2).1.1 λv=>by rw[(h1.2 a _ e1).2 v,(h2.2 a _ e2).2 v]]
 ·rw[aAO (by have:=h1.1;omega),aAO (by have:=h2.1;omega)]
theorem Ri.nil (n:Nat) (hq:∀ a v,¬ Q a v):Ri n (aAv n []) Q :=
 ⟨by simp,λa s hs=>by
  grind [Od.nil]⟩
theorem Ri.set {n:Nat} {out:List (List Int)} {P:Nat->Int->Prop} (h:Ri n out P) {d:Nat} (_hd:d<n) (hs:Od n s) (h1:∀ v,v∈s↔Q d v) (h2:∀ a v,a≠d->(Q a v↔P a v)):Ri n (out.set d s) Q:=by
 refine⟨by simp[h.1],λa t ht=>?_⟩
 by_cases e:a=d
 ·grind
 ·rw[aAa (λh=>e h.symm)]at ht
  exact⟨(h.2 a t ht).1,λv=>by rw[(h.2 a t ht).2 v,h2 a v e]⟩
def Aam (mv:Lo->Int->Bool) (f:Nn) (l:List (List Int)) (r:List (List Int)×Int):Prop :=
 (r.2=0/\Acc f l/\Ri f.Slots.length r.1 λa v=>Ed mv f l a v\/Ed mv f l v a)\/(r.2=11/\¬ Acc f l/\r.1=[])
theorem Aam.unique {r q:List (List Int)×Int} (h:Aam mv f l r) (k:Aam mv f l q):r=q:=by
 obtain⟨r1,r2⟩:=r;obtain⟨q1,q2⟩:=q;rcases h with⟨h1,h2,h3⟩|⟨h1,h2,h3⟩<;>rcases k with⟨k1,k2,k3⟩|⟨k1,k2,k3⟩
 ·simp only at h1 k1 h3 k3;rw[h1,k1,h3.ext k3]
 all_goals simp_all
def NJ (to:List Int) (s:Int):Int:=(to[s.toNat]?).getD 0
def Ph (f:Nn) (s:Int):Int:=((f.Slots[s.toNat]?).map NB.Size).getD 0
def AeY (f:Nn) (to:List Int):Prop :=
 to.length=f.Slots.length/\∀ s:Nat,s<to.length->0<=NJ to s/\NJ to s<to.length/\Ph f (NJ to s)=Ph f s/\NJ to (NJ to s)=NJ to s
theorem QQ {s:Int} (h0:0<=s) (h:s<to.length):to[s.toNat]? =some (NJ to s):=by
 grind [NJ]
theorem ZV {s:Int} {x:NB} (h:f.Slots[s.toNat]? =some x):x.Size=Ph f s:=by
 simp[Ph,h]
def NU (keep:List Bool) (k:Nat):Bool:=(keep[k]?).getD true
def SO (f:Nn) (r:ND):Prop :=
 AeY f r.To/\r.Keep.length=f.Code.length/\∀ k:Nat,k<f.Code.length->NU r.Keep k=false->(Ns f k).Op=16\/(Ns f k).Op=17
def rnS (to:List Int) (s:Int):Int:=if 0<=s/\s<to.length then NJ to s else s
theorem AyY (to:List Int) (s:Int):Tq s to=some (rnS to s):=by
 unfold Tq rnS
 by_cases h0:s<0
 ·grind
 ·rw[decide_eq_false h0,cond_false]
  by_cases h1:s>=(to.length:Int)
  ·grind
  ·rw[decide_eq_false h1,cond_false,if_pos (by omega),OZ _ (by omega),QQ (by omega) (by omega)]
   rfl
def rnI (to:List Int) (x:Lo):Lo :=
 if x.Op=15 then⟨x.Op,x.A,rnS to x.B,x.C,x.Imm⟩else if x.Op=16 then⟨x.Op,rnS to x.A,x.B,x.C,x.Imm⟩else if x.Op=17 then⟨x.Op,rnS to x.A,rnS to x.B,x.C,x.Imm⟩else x
theorem Are (x:Lo) (to:List Int):VW x to=some (rnI to x):=by
 unfold VW rnI;simp only[AyY,aA]
 grind
theorem Ach (to:List Int) (x:Lo):(rnI to x).Op=x.Op:=by
 unfold rnI
 grind
def kept (keep:List Bool) (k:Nat):Nat:=(keep.take k).countP id
theorem AeS (keep:List Bool) (k:Nat):kept keep k<=k:=by
 grind [kept,List.countP_le_length]
theorem XG {keep:List Bool} {b:Bool} (h:keep[k]? =some b):kept keep (k+1)=kept keep k+(if b then 1 else 0):=by
 grind [kept,aAY]
theorem Aps (r:ND) (hl:r.Keep.length<=1000000):Hs (Aca r) λl=>l.length=r.Keep.length/\∀ j:Nat,j<r.Keep.length->l[j]? =some (kept r.Keep j:Int):=by
 refine Hs.loop (λs=>∃ k:Nat,s.2.2=(k:Int)/\k<=r.Keep.length/\s.2.1=(kept r.Keep k:Int)/\s.1.length=k/\∀ j:Nat,j<k->s.1[j]? =some (kept r.Keep j:Int)) (λs=>r.Keep.length-s.2.2.toNat) ⟨0,rfl,aAE _,rfl,rfl,λj hj=>absurd hj (aAI _)⟩ ?_
 rintro⟨l,n,_⟩ ⟨k,rfl,hk,hn,hll,hj⟩;subst hn;replace hll:l.length=k:=hll;refine .dec (λhlt=>?_) λhge=>.lft (.pure ?_)
 ·have hlt:k<r.Keep.length:=by simp_all
  have hg:r.Keep[k]? =some r.Keep[k]:=aAA _;generalize r.Keep[k]=b at hg;have hkl:=AeS r.Keep k;have hks:=XG hg;have hap:∀ j:Nat,j<k+1->(l++[(kept r.Keep k:Int)])[j]? =some (kept r.Keep j:Int):=by
   grind
  refine .chk (by simp;omega) ?_
  simp only[NT,hg,aA];rw[Nw (show k<9223372036854775807 by omega),Nw (show kept r.Keep k<9223372036854775807 by omega)]
  refine .cond (λh=>?_) λh=>?_
  ·subst h;exact .cnt ⟨⟨k+1,rfl,hlt,by simp_all,by simp[hll],hap⟩,by grind⟩
  ·subst h;exact .cnt ⟨⟨k+1,rfl,hlt,by simp_all,by simp[hll],hap⟩,by grind⟩
 ·have hkk:k=r.Keep.length:=by grind
  subst hkk;exact⟨hll,hj⟩
theorem Aqo (x:Lo):UZ x=some (Pm x):=by
 grind [UZ,Pm]
theorem AeY.rng (h:AeY f to) {s:Int} (h0:0<=s) (h1:s<f.Slots.length):0<=rnS to s/\rnS to s<f.Slots.length/\rnS to s=NJ to s:=by
 obtain⟨j,rfl⟩:∃ j:Nat,s=(j:Int):=⟨s.toNat,by omega⟩
 have hl:=h.1;have:=h.2 j (by omega)
 simp_all[rnS]
def Oo (x:Lo):List Int:=Pm x++(if x.Op=16\/x.Op=17 then[x.A]else[])
theorem Abo (hf:NS f) (hd:QD f) (h:AeY f to) (hx:x∈f.Code):∀ v∈Oo (rnI to x),0<=v/\v<f.Slots.length:=by
 intro v hv;have hu:=hf.uses x hx;have hdf:=hd x hx;have key:∀ s:Int,0<=s->s<f.Slots.length->0<=rnS to s/\rnS to s<f.Slots.length:=λs h0 h1=>⟨(h.rng h0 h1).1,(h.rng h0 h1).2.1⟩
 grind [Oo,Pm,rnI]
theorem Ayj (hf:NS f) (hd:QD f) (hr:SO f r):Hs (ZQ f r) λl=>Od f.Slots.length l/\∀ k:Nat,k<f.Code.length->NU r.Keep k=true->∀ v∈Oo (rnI r.To (Ns f k)),v∈l:=by
 have hlen:=hf.len';have hsl:=hf.slots;have hkl:=hr.2.1;unfold ZQ;refine Hs.loop (λs=>∃ k:Nat,s.2=(k:Int)/\k<=f.Code.length/\Od f.Slots.length s.1/\∀ j:Nat,j<k->NU r.Keep j=true->∀ v∈Oo (rnI r.To (Ns f j)),v∈s.1) (λs=>f.Code.length-s.2.toNat) ⟨0,rfl,aAE _,Od.nil _,λj hj=>absurd hj (aAI _)⟩ ?_
 rintro⟨l,_⟩ ⟨k,rfl,hk,hs,hj⟩;replace hs:Od f.Slots.length l:=hs;replace hj:∀ j:Nat,j<k->NU r.Keep j=true->∀ v∈Oo (rnI r.To (Ns f j)),v∈l:=hj;unfold Aej;refine .dec (λhlt=>.dec (λ_=>?_) λh=>?_) λhge=>.lft (.pure ⟨hs,λj h=>hj j (by omega)⟩)
 ·have hlt:k<f.Code.length:=by omega
  have hx:=hf.at (j:=(k:Int)) (by omega) (by omega)
  rw[aAD]at hx;have hg:r.Keep[k]? =some (NU r.Keep k):=by grind [NU]
  have hnr:=Abo hf hd hr.1 hx.2;unfold Ym;simp only[NT,hg,hx.1,aA,Are,Aqo,Ale,Nw (show k<9223372036854775807 by omega)]
  refine .cond (λh=>.cnt ⟨⟨k+1,rfl,hlt,hs,λj h' hkj=>?_⟩,by grind⟩) λh=>?_
  ·grind
  ·obtain⟨y,hy⟩:∃ y,y=rnI r.To (Ns f k):=⟨_,rfl⟩;rw[<- hy]at hnr ⊢;have hul:(Pm y).length<=1:=by grind [Pm]
   have hll:=hs.1.length_le;rw[union_eq _ _ (by omega),aA]
   obtain⟨u1,u2⟩:=Vc (n:=f.Slots.length) (by omega) (b:=Pm y) (a:=l) hs (λx hx=>hnr x (by grind [Oo]))
   by_cases hdy:y.Op=16\/y.Op=17
   ·simp only[AgZ,if_pos hdy,cond_true];have hA:=hnr y.A (by simp_all[Oo])
    obtain⟨a1,a2⟩:=Od.add (n:=f.Slots.length) u1 hA (by omega)
    have a3:=(Od.AeZ u1 hA (by omega)).2.2
    rw[a2,aA];refine .cnt ⟨⟨k+1,rfl,hlt,a1,λj h' hkj v hv=>?_⟩,by grind⟩
    show v∈Rf y.A (QT l (Pm y));rw[a3,u2]
    by_cases e:j=k
    ·subst e;rw[<- hy]at hv;unfold Oo at hv
     grind
    grind
   ·simp only[AgZ,if_neg hdy,cond_false];refine .cnt ⟨⟨k+1,rfl,hlt,u1,λj h' hkj v hv=>?_⟩,by grind⟩
    show v∈QT l (Pm y);rw[u2]
    by_cases e:j=k
    ·simp_all[Oo]
    grind
 omega
theorem Anv (hl:r.To.length<=500) (hu:used.length<=512):Hs (Yn r used) λl=>l.length=r.To.length/\∀ (s:Nat) x,l[s]? =some x->0<=x/\(NJ r.To s∈used->used[x.toNat]? =some (NJ r.To s)):=by
 unfold Yn;refine Hs.loop (λz=>∃ k:Nat,z.2=(k:Int)/\k<=r.To.length/\z.1.length=k/\∀ (s:Nat) x,z.1[s]? =some x->0<=x/\(NJ r.To s∈used->used[x.toNat]? =some (NJ r.To s))) (λz=>r.To.length-z.2.toNat) ⟨0,rfl,aAE _,rfl,λs x h=>by simp at h⟩ ?_
 rintro⟨l,_⟩ ⟨k,rfl,hk,hll,hq⟩;replace hll:l.length=k:=hll;refine .dec (λhlt=>?_) λhge=>.lft (.pure ?_)
 ·have hlt:k<r.To.length:=by omega
  have hg:=QQ (to:=r.To) (s:=(k:Int)) (by omega) (by omega)
  rw[aAD]at hg;refine Hs.loop (λz=>∃ i:Nat,z.2=(i:Int)/\i<=used.length/\0<=z.1/\(NJ r.To k∈used.take i->used[z.1.toNat]? =some (NJ r.To k))) (λz=>used.length-z.2.toNat) ⟨0,rfl,aAE _,aAW _,λh=>by simp at h⟩ ?_
  rintro⟨n,_⟩ ⟨i,rfl,hi,hn,hm⟩;refine .dec (λhlt2=>?_) λhge2=>.lft (.chk (by simp;omega) ?_)
  ·have hlt2:i<used.length:=by omega
   have hgx:used[i]? =some used[i]:=aAA _;have htk:used.take (i+1)=used.take i++[used[i]]:=by simp_all
   generalize used[i]=y at hgx htk;simp only[NT,hgx,hg,aA];rw[Nw (by omega)]
   refine .beq (λh=>.cnt ⟨⟨i+1,rfl,hlt2,by omega,λ_=>?_⟩,by grind⟩) λh=>.cnt ⟨⟨i+1,rfl,hlt2,hn,λh'=>?_⟩,by simp only;omega⟩
   all_goals grind [aAD]
  ·have hii:i=used.length:=by omega
   subst hii;unfold XX;rw[Nw (by omega)]
   refine .cnt ⟨⟨k+1,rfl,hlt,by simp[hll],λs x hx=>?_⟩,by simp only;omega⟩
   have hx:(l++[n])[s]? =some x:=hx
   by_cases e:s=k
   ·simp_all
   ·have hsl:s<l.length:=by
     have:=(aAC.1 hx).1;simp at this;omega
    rw[aAP hsl]at hx;exact hq s x hx
 ·have hkk:k=r.To.length:=by simp only at hge;omega
  subst hkk;exact⟨hll,hq⟩
def mvI (pl:List Int) (x:Lo):Lo :=
 if x.Op=20 then⟨x.Op,(pl[x.A.toNat]?).getD 0,x.B,x.C,x.Imm⟩else if x.Op=21 then⟨x.Op,x.A,(pl[x.B.toNat]?).getD 0,x.C,x.Imm⟩else x
def TJ (f:Nn) (keep:List Bool) (to pl:List Int) (k:Nat):List Lo:=(List.range k).filterMap λj=>if NU keep j=true then some (mvI pl (rnI to (Ns f (j:Nat))))else none
theorem Apr (f:Nn) (keep:List Bool) (to pl:List Int) (k:Nat):TJ f keep to pl (k+1)=TJ f keep to pl k++(if NU keep k=true then[mvI pl (rnI to (Ns f (k:Nat)))]else[]):=by
 grind [TJ,aAh]
theorem Vx {f:Nn} {keep:List Bool} {to pl:List Int}:∀ k:Nat,k<=keep.length->(TJ f keep to pl k).length=kept keep k/\∀ (p:Nat) x,(TJ f keep to pl k)[p]? =some x->∃ j:Nat,j<k/\NU keep j=true/\kept keep j=p/\x=mvI pl (rnI to (Ns f (j:Nat)))
 | 0,_=>⟨rfl,λp x h=>by grind [TJ]⟩
 | k+1,hk=>by
  obtain⟨h1,h2⟩:=Vx (f:=f) (keep:=keep) (to:=to) (pl:=pl) k (by omega)
  have hg:keep[k]? =some (NU keep k):=by grind [NU]
  rw[Apr]
  by_cases h:NU keep k=true
  ·rw[if_pos h];rw[h]at hg;have hs:=XG hg
   grind
  ·rw[if_neg h,aAp]
   grind [XG]
theorem AdY (h:x.Op=20\/x.Op=21):rnI to x=x:=by
 unfold rnI
 grind
theorem Aja (hf:NS f) (hk:k<f.Code.length):((Ns f k).Op=20->0<=(Ns f k).A/\(Ns f k).A<f.Code.length)/\((Ns f k).Op=21->0<=(Ns f k).B/\(Ns f k).B<f.Code.length):=by
 have hx:=hf.at (j:=(k:Int)) (by omega) (by omega)
 rw[aAD]at hx;have hn:=hf.next k _ hx.1;refine⟨λh=>hn _ (by simp[Rc,h]),λh=>hn _ ?_⟩
 unfold Rc
 grind
theorem Aql (hf:NS f) (hkl:r.Keep.length=f.Code.length) (to pl:List Int) (hpl:pl.length=r.Keep.length) (sl:List NB) :
  Hs (NA (λs=>AcV f r to pl sl s.1 s.2) ([],0)) λq=>q=(⟨f.Params,sl,TJ f r.Keep to pl f.Code.length⟩,0):=by
 have hlen:=hf.len';refine Hs.loop (λs=>∃ k:Nat,s.2=(k:Int)/\k<=f.Code.length/\s.1=TJ f r.Keep to pl k) (λs=>f.Code.length-s.2.toNat) ⟨0,rfl,aAE _,rfl⟩ ?_
 rintro⟨_,_⟩ ⟨k,rfl,hk,rfl⟩;refine .dec (λhlt=>?_) λhge=>.lft (.pure ?_)
 ·have hlt:k<f.Code.length:=by omega
  have hx:=hf.at (j:=(k:Int)) (by omega) (by omega)
  rw[aAD]at hx;have hg:r.Keep[k]? =some (NU r.Keep k):=by grind [NU]
  have hol:=(Vx (f:=f) (keep:=r.Keep) (to:=to) (pl:=pl) k (by omega)).1
  have hkk:=AeS r.Keep k;have hs:=Apr f r.Keep to pl k;obtain⟨t1,t2⟩:=Aja hf hlt;simp only[NT,hg,hx.1,aA,Are];refine .cond (λh=>?_) λh=>?_
  ·have hkf:¬ NU r.Keep k=true:=λh'=>by simp_all
   rw[if_neg hkf,aAp]at hs;rw[Nw (by omega)]
   exact .cnt ⟨⟨k+1,rfl,hlt,hs.symm⟩,by grind⟩
  ·have hkt:NU r.Keep k=true:=by simp_all
   rw[if_pos hkt]at hs;have fin:∀ a b:Int,(⟨(rnI to (Ns f k)).Op,a,b,(rnI to (Ns f k)).C,(rnI to (Ns f k)).Imm⟩:Lo)=mvI pl (rnI to (Ns f k))->Hs (TO (TJ f r.Keep to pl k) (rnI to (Ns f k)) (k:Int) a b) (Rnd (λs:List Lo×Int=>∃ k:Nat,s.2=(k:Int)/\k<=f.Code.length/\s.1=TJ f r.Keep to pl k) (λs=>f.Code.length-s.2.toNat) (TJ f r.Keep to pl k,(k:Int)) λq=>q=(⟨f.Params,sl,TJ f r.Keep to pl f.Code.length⟩,0)):=by
    intro a b hab;unfold TO;refine .chk (by simp;omega) (.chk (by simp;omega) ?_)
    rw[Nw (by omega)]
    refine .cnt ⟨⟨k+1,rfl,hlt,?_⟩,by grind⟩
    simp_all
   refine .beq (λh20=>?_) λh20=>.beq (λh21=>?_) λh21=>fin _ _ ?_
   ·simp_all[Ach,AdY,chk,mvI]
   ·simp_all[Ach,AdY,chk,mvI]
   simp_all[mvI]
 ·have hkk:k=f.Code.length:=by omega
  subst hkk;rfl
theorem AyX {n:Nat} {out:List (List Int)} {P:Int->Int->Prop} (hs:Ri n out λa v=>P a v\/P v a) (hn:n<=500) {d y:Nat} (hd:d<n) (hy:y<n) (hne:d≠y) (t:Bool) (hi:i<1000000) (p q r s:Bool) :
  ∃ out',SD ((d:Int),t) out (y:Int) (i:Int) p q r s=some (.inl (out',((i+1:Nat):Int)))/\Ri n out' λa v=>(P a v\/((a:Int)=d/\v=y))\/(P v a\/(v=d/\(a:Int)=y)):=by
 have e1:out[d]? =some (out[d]'(by have:=hs.1;omega)):=aAA _
 have e2:out[y]? =some (out[y]'(by have:=hs.1;omega)):=aAA _
 generalize out[d]'(by grind)=sd at e1
 generalize out[y]'(by grind)=sy at e2
 have q1:=hs.2 d _ e1;have q2:=hs.2 y _ e2;have a1:=q1.1.add (m:=(y:Int)) (by omega) (by omega)
 have a2:=q2.1.add (m:=(d:Int)) (by omega) (by omega)
 have m1:=(Od.AeZ (m:=(y:Int)) q1.1 (by omega) (by omega)).2.2
 have m2:=(Od.AeZ (m:=(d:Int)) q2.1 (by omega) (by omega)).2.2
 have e3:(out.set d (Rf y sd))[y]? =some sy:=by simp_all
 have hl:=hs.1;have h1:0<=(d:Int)/\(d:Int)<out.length:=by omega
 have h2:0<=(y:Int)/\(y:Int)<out.length:=by omega
 have h3:0<=(y:Int)/\(y:Int)<(out.set d (Rf y sd)).length:=by simp_all
 have w:=Nw (show i<9223372036854775807 by omega)
 refine⟨(out.set d (Rf y sd)).set y (Rf d sy),by grind [SD,aAD,Oa,Axq],by simp[hl],λa s hs'=>?_⟩
 by_cases ea:a=y
 ·grind
 ·rw[aAa (λh=>ea h.symm)]at hs'
  by_cases ed:a=d
  ·grind
  ·rw[aAa (λh=>ed h.symm)]at hs'
   refine⟨(hs.2 a s hs').1,λv=>?_⟩
   rw[(hs.2 a s hs').2 v]
   grind
def Aqi (mv:Lo->Int->Bool) (f:Nn) (l:List (List Int)) (s:List (List Int)×Int):Prop :=
 ∃ k:Nat,s.2=(k:Int)/\k<=f.Code.length/\Ri f.Slots.length s.1 λa v=>Abv mv f l k a v\/Abv mv f l k v a
def AsC (mv:Lo->Int->Bool) (f:Nn) (l:List (List Int)) (k:Nat) (s:List (List Int)×Int):Prop :=
 ∃ i:Nat,s.2=(i:Int)/\i<=(NP l k).length/\Ri f.Slots.length s.1 λa v=>Aea mv f l k i a v\/Aea mv f l k i v a
theorem Apu (hf:NS f) (hd:QD f) {l:NN} (hl:Qn l.Out) (b:Bool):Hs (AaD f l b) (Aam (bif b then AmA else Alb) f l.Out):=by
 have hlen:=hf.len';have hsl:=hf.slots;refine(AuF hf hl).bind λe he=>.bne (λh=>.pure (.inr ⟨he.1.resolve_left h,λha=>h (he.2.2 ha),rfl⟩)) λh=>?_
 have hacc:Acc f l.Out:=he.2.1 h;refine .chk (by omega) ?_
 generalize hmv:(bif b then AmA else Alb)=mv
 refine Hs.loop (Aqi mv f l.Out) (λs=>f.Code.length-s.2.toNat) ⟨0,rfl,aAE _,?_⟩ ?_
 ·exact Ri.nil _ λa v h=>by rcases h with⟨j,hj,_⟩|⟨j,hj,_⟩<;>omega
 rintro⟨out,_⟩ ⟨k,rfl,hk,hs⟩;refine .dec (λhlt=>?_) λhge=>.lft (.pure (.inl ⟨rfl,hacc,?_⟩))
 ·have hlt:k<f.Code.length:=by omega
  have hx:=hf.at (j:=(k:Int)) (by omega) (by omega)
  rw[aAD]at hx;have hrow:=hacc.1.at (j:=(k:Int)) (by omega) (by omega)
  rw[aAD]at hrow;simp only[NT,hx.1,aA,Ale];have next:∀ out',(Ri f.Slots.length out' λa v=>Abv mv f l.Out (k+1) a v\/Abv mv f l.Out (k+1) v a)->∀ a b c d e,Hs (TM (k:Int) a b c d e out') (Rnd (Aqi mv f l.Out) (λs=>f.Code.length-s.2.toNat) (out,(k:Int)) (Aam mv f l.Out)):=by
   intro out' h' a b c d e;unfold TM;rw[Nw (by omega)]
   exact .cnt ⟨⟨k+1,rfl,hlt,h'⟩,by grind⟩
  have inner:¬ ((Ns f k).Op=17/\(Ns f k).A=(Ns f k).B)->Hs (Xz l (k:Int) (AgZ (Ns f k)) b (Ns f k) out) (Rnd (Aqi mv f l.Out) (λs=>f.Code.length-s.2.toNat) (out,(k:Int)) (Aam mv f l.Out)):=by
   intro hnm
   by_cases hdef:(Ns f k).Op=16\/(Ns f k).Op=17
   ·have hdn:AgZ (Ns f k)=((Ns f k).A,true):=if_pos hdef;have hA:=hd _ hx.2 hdef;rw[hdn];have hlo:=hrow.2.1.length_le;refine Hs.loop (AsC mv f l.Out k) (λs=>(NP l.Out k).length-s.2.toNat) ⟨0,rfl,aAE _,hs.congr λa v _=>by grind [Aud]⟩ ?_
    rintro⟨out2,_⟩ ⟨i,rfl,hi,hs2⟩;unfold ZL;simp only[NT,hrow.1,aA];refine .dec (λhlt2=>?_) λhge2=>.lft (next _ (hs2.congr λa v _=>?_) _ _ _ _ _)
    ·have hlt2:i<(NP l.Out k).length:=by omega
     have hgx:(NP l.Out k)[i]? =some (NP l.Out k)[i]:=aAA _;have hxm:=aAF hlt2;generalize(NP l.Out k)[i]=x at hgx hxm;have hx0:=hrow.2.1.2 x hxm;have hxn:=hrow.2.2 x hxm;unfold ZM;simp only[NT,hrow.1,hgx,aA];have skip:x=(Ns f k).A\/mv (Ns f k) x=true->Hs (cnt (out2,IntKind.i64.wrap ((i:Int)+1))) (Rnd (AsC mv f l.Out k) (λs=>(NP l.Out k).length-s.2.toNat) (out2,(i:Int)) (Rnd (Aqi mv f l.Out) (λs=>f.Code.length-s.2.toNat) (out,(k:Int)) (Aam mv f l.Out))):=by
      intro hh;rw[Nw (by omega)]
      exact .cnt ⟨⟨i+1,rfl,hlt2,hs2.congr λa v _=>by grind [Auc]⟩,by grind⟩
     have add:x≠(Ns f k).A->mv (Ns f k) x=false->∀ p q r s,Hs (SD ((Ns f k).A,true) out2 x (i:Int) p q r s) (Rnd (AsC mv f l.Out k) (λs=>(NP l.Out k).length-s.2.toNat) (out2,(i:Int)) (Rnd (Aqi mv f l.Out) (λs=>f.Code.length-s.2.toNat) (out,(k:Int)) (Aam mv f l.Out))):=by
      intro hne hmf p q r s;obtain⟨d,hde⟩:∃ d:Nat,(Ns f k).A=(d:Int):=⟨_,(aAU hA.1).symm⟩;obtain⟨y,rfl⟩:∃ y:Nat,x=(y:Int):=⟨_,(aAU hx0.1).symm⟩;obtain⟨out',h1,h2⟩:=AyX (P:=Aea mv f l.Out k i) hs2 (by omega) (d:=d) (y:=y) (by omega) (by omega) (by omega) true (i:=i) (by omega) p q r s
      rw[hde,h1];refine .pure ⟨⟨i+1,rfl,hlt2,h2.congr λa v _=>?_⟩,by grind⟩
      grind [Apd]
     refine .beq (λh=>skip (.inl h)) λhne=>?_
     subst hmv;cases b
     ·simp only[Bool.not_false,cond_true,cond_false] 
      grind [Alb]
     ·simp only[aAf,cond_true,cond_false] ;exact add hne rfl _ _ _ _
    grind [AvQ]
   ·have hdn:AgZ (Ns f k)=(0,false):=if_neg hdef;rw[hdn];have hs':=hs.congr (Q:=λa v=>Abv mv f l.Out (k+1) a v\/Abv mv f l.Out (k+1) v a) λa v _=>by grind [Ape]
    refine Hs.loop (λs=>s=(out,0)) (λ_=>0) rfl ?_
    rintro _ rfl;unfold ZL;simp only[NT,hrow.1,aA,cond_false];exact .dec (λ_=>.lft (next _ hs' _ _ _ _ _)) λ_=>.lft (next _ hs' _ _ _ _ _)
  refine .beq (λh17=>.beq (λhab=>next _ ?_ _ _ _ _ _) λhab=>inner λhh=>hab hh.2) λh17=>inner λhh=>h17 hh.1
  simp_all[Ape]
 ·have hk:k=f.Code.length:=by omega
  subst hk;exact hs
def YT (f:Nn):Prop:=∀ x∈f.Code,x.Op=17->0<=x.A/\x.A<f.Slots.length/\0<=x.B/\x.B<f.Slots.length/\Ph f x.A=Ph f x.B
theorem Sc.AhR {i most:Int} (h:Sc ps i most f):YT f:=by
 intro x hx hop;obtain⟨k,hk⟩:=aAH hx;have hkl:=(aAC.1 hk).1
 by_cases hk1:k+1<f.Code.length
 ·have hins:=h.body k x hk hk1;cases hins with
  | move a b h0 h1 h2 =>
   obtain⟨q0,q1,x,y,e1,e2,e3⟩:=h0
   grind [Ph]
  | bin op a b c h1 h2 h3 h4 h5 h6=>simp_all
  | un op a h1 h2=>simp_all
  | _=>simp at hop
 ·have he:=h.last x (by grind)
  rcases he with rfl|⟨w,_,rfl⟩<;>simp at hop
def AmX (f:Nn) (out:List PH):Prop:=∀ p∈out,∃ x∈f.Code,x.Op=17/\p=⟨x.A,x.B⟩
theorem AxU (hlen:f.Code.length<=10000):Hs (AaC f) λout=>out.length<=10000/\AmX f out:=by
 unfold AaC;refine Hs.loop (λs=>∃ k:Nat,s.2=(k:Int)/\k<=f.Code.length/\s.1.length<=k/\AmX f s.1) (λs=>f.Code.length-s.2.toNat) ⟨0,rfl,aAE _,aAQ _,λp hp=>by cases hp⟩ ?_
 rintro⟨out,_⟩ ⟨k,rfl,hk,hol,hmv⟩;replace hol:out.length<=k:=hol;replace hmv:AmX f out:=hmv;unfold AcU;refine .dec (λhlt=>?_) λhge=>.lft (.pure ⟨show out.length<=10000 by omega,hmv⟩)
 have hlt:k<f.Code.length:=by omega
 have hx:f.Code[k]? =some f.Code[k]:=aAA _;have hxm:=aAF hlt;generalize f.Code[k]=x at hx hxm;simp only[NT,hx,aA];have j3:∀ old:Bool,(old=false->x.Op=17)->Hs (Xy out x (k:Int) old) (Rnd (λs:List PH×Int=>∃ k:Nat,s.2=(k:Int)/\k<=f.Code.length/\s.1.length<=k/\AmX f s.1) (λs=>f.Code.length-s.2.toNat) (out,(k:Int)) λout=>out.length<=10000/\AmX f out):=by
  intro old hold;refine Hs.loop (λs=>∃ i:Nat,s.2=(i:Int)/\i<=out.length/\(s.1=false->x.Op=17)) (λs=>out.length-s.2.toNat) ⟨0,rfl,aAE _,hold⟩ ?_
  rintro⟨old,_⟩ ⟨i,rfl,hi,hold⟩;refine .dec (λhlt2=>?_) λ_=>.lft ?_
  ·have hlt2:i<out.length:=by omega
   have hg:out[i]? =some out[i]:=aAA _;simp only[aAD];rw[Nw (by omega)]
   refine .cond (λh=>.cnt ⟨⟨i+1,rfl,hlt2,λh'=>(by cases h')⟩,by grind⟩) λh=>.chk (by omega) ?_
   rw[hg,aA];exact .cnt ⟨⟨i+1,rfl,hlt2,λ_=>hold h⟩,by grind⟩
  ·unfold Xx;rw[Nw (by omega)]
   refine .cond (λh=>.chk (by simp;omega) (.cnt ⟨⟨k+1,rfl,hlt,by simp;omega,λp hp=>?_⟩,by grind⟩)) λ_=>.cnt ⟨⟨k+1,rfl,hlt,by grind,hmv⟩,by grind⟩
   rcases aAM.1 hp with hp|hp
   ·exact hmv p hp
   grind
 grind
theorem Ala (hl:to.length<=500) (s:Int):Hs (VY to s) λl=>l.length<=to.length/\∀ t,t∈l↔∃ j:Nat,j<to.length/\t=(j:Int)/\NJ to j=s:=by
 refine Hs.loop (λz=>∃ k:Nat,z.2=(k:Int)/\k<=to.length/\z.1.length<=k/\∀ t,t∈z.1↔∃ j:Nat,j<k/\t=(j:Int)/\NJ to j=s) (λz=>to.length-z.2.toNat) ⟨0,rfl,aAE _,aAQ _,λt=>⟨λh=>(by cases h),λ⟨j,h,_⟩=>absurd h (aAI _)⟩⟩ ?_
 rintro⟨l,_⟩ ⟨k,rfl,hk,hll,hm⟩;replace hll:l.length<=k:=hll;refine .dec (λhlt=>?_) λhge=>.lft (.pure ?_)
 ·have hlt:k<to.length:=by omega
  have hg:=QQ (to:=to) (s:=(k:Int)) (by omega) (by omega)
  rw[aAD]at hg;simp only[NT,hg,aA];rw[Nw (by omega)]
  refine .beq (λh=>.chk (by simp;omega) (.cnt ⟨⟨k+1,rfl,hlt,by simp;omega,λt=>?_⟩,by grind⟩)) λh=>.cnt ⟨⟨k+1,rfl,hlt,by grind,λt=>?_⟩,by grind⟩
  all_goals grind
 ·have hk:k=to.length:=by omega
  subst hk;exact⟨hll,hm⟩
def Abs (g:List (List Int)) (to:List Int) (a b:Int):Prop:=∀ (x y:Nat) row,x<to.length->y<to.length->NJ to x=a->NJ to y=b->g[x]? =some row->(y:Int)∉row
theorem Avy {n:Nat} (hg:Ri n g Q) (htn:to.length=n) (hl:n<=500) (a b:Int):Hs (Adr g to a b) λr=>r=true->Abs g to a b:=by
 refine(Ala (by omega) a).bind λxs hx=>(Ala (by omega) b).bind λys hy=>?_
 have fin:(∀ x∈xs,∀ y∈ys,∀ row,g[x.toNat]? =some row->y∉row)->Abs g to a b:=by
  intro h x y row h1 h2 h3 h4 h5;exact h x ((hx.2 x).2 ⟨x,h1,rfl,h3⟩) y ((hy.2 y).2 ⟨y,h2,rfl,h4⟩) row (by simp_all)
 refine Hs.loop (λi=>∃ k:Nat,i=(k:Int)/\k<=xs.length/\∀ x∈xs.take k,∀ y∈ys,∀ row,g[x.toNat]? =some row->y∉row) (λi=>xs.length-i.toNat) ⟨0,rfl,aAE _,λx h=>by simp at h⟩ ?_
 rintro _ ⟨k,rfl,hk,hall⟩;refine .dec (λhlt=>?_) λhge=>.lft (.pure λ_=>fin λx hx=>hall x (by grind))
 have hlt:k<xs.length:=by omega
 have hgx:xs[k]? =some xs[k]:=aAA _;have hxm:=aAF hlt;have htk:xs.take (k+1)=xs.take k++[xs[k]]:=by simp_all
 generalize xs[k]=x at hgx hxm htk;obtain⟨jx,hjx,rfl,_⟩:=(hx.2 x).1 hxm;have hgl:=hg.1;have hrow:g[jx]? =some (g[jx]'(by omega)):=aAA _
 generalize g[jx]'(by omega)=row at hrow
 have hset:=(hg.2 jx row hrow).1;have hrl:=hset.1.length_le;refine Hs.loop (λi=>∃ m:Nat,i=(m:Int)/\m<=ys.length/\∀ y∈ys.take m,y∉row) (λi=>ys.length-i.toNat) ⟨0,rfl,aAE _,λx h=>by simp at h⟩ ?_
 rintro _ ⟨m,rfl,hm,hno⟩;refine .dec (λhlt2=>?_) λhge2=>.lft ?_
 ·have hlt2:m<ys.length:=by omega
  have hgy:ys[m]? =some ys[m]:=aAA _;have htm:ys.take (m+1)=ys.take m++[ys[m]]:=by simp_all
  generalize ys[m]=y at hgy htm;refine .chk (by omega) ?_
  simp only[aAD,hgx,aA,NT,hrow];refine .chk (by omega) ?_
  rw[hgy,aA,Afj _ _ (by omega),aA,Nw (by omega)]
  refine .dec (λ_=>.lft (.lft (.pure λh=>(by cases h)))) λh=>.cnt ⟨⟨m+1,rfl,hlt2,λz hz=>?_⟩,by grind⟩
  grind
 ·unfold ZN;rw[Nw (by omega)]
  refine .cnt ⟨⟨k+1,rfl,hlt,λz hz y hy row' hr=>?_⟩,by grind⟩
  grind [aAD]
structure Abu (f:Nn) (g:List (List Int)) (to:List Int):Prop where
 ok:AeY f to
 apart:∀ (x y:Nat) row,x<to.length->y<to.length->NJ to x=NJ to y->g[x]? =some row->(y:Int)∉row
def Si (a b c:Int):Int:=if c=a\/c=b then Tw a b else c
theorem Asn (a b:Int):Tw a b=a\/Tw a b=b:=by grind [Tw]
theorem Abu.join (hg:Ri f.Slots.length g Q) (hsym:∀ (x y:Nat) r s,g[x]? =some r->g[y]? =some s->(y:Int)∈r->(x:Int)∈s) {to':List Int} (h:Abu f g to) {b:Int} (ha:0<=a/\a<f.Slots.length) (hb:0<=b/\b<f.Slots.length) (haa:NJ to a=a) (hbb:NJ to b=b) (hs:Ph f a=Ph f b) (hap:Abs g to a b) (hl:to'.length=to.length) (hto:∀ j:Nat,j<to.length->NJ to' j=Si a b (NJ to j)):Abu f g to':=by
 have htl:=h.ok.1;have hto2:∀ j:Int,0<=j->j<to.length->NJ to' j=Si a b (NJ to j):=by
  intro j h0 h1;obtain⟨i,rfl⟩:∃ i:Nat,j=(i:Int):=⟨j.toNat,by omega⟩
  simp_all
 have hm:NJ to (Tw a b)=Tw a b/\0<=Tw a b/\Tw a b<f.Slots.length/\Ph f (Tw a b)=Ph f a:=by
  grind [Asn]
 have hj:Si a b (Tw a b)=Tw a b:=by
  simp_all[Si]
 refine⟨⟨by omega,λs hs'=>?_⟩,λx y row hx hy he hr hyr=>?_⟩
 ·obtain⟨q1,q2,q3,q4⟩:=h.ok.2 s (by omega)
  rw[hto s (by omega)]
  by_cases e:NJ to s=a\/NJ to s=b
  ·have ej:Si a b (NJ to s)=Tw a b:=by simp_all[Si]
   grind
  simp_all[Si]
 ·rw[hto x (by omega),hto y (by omega)]at he
  have hgl:=hg.1;have hrow:g[y]? =some (g[y]'(by omega)):=aAA _
  by_cases ex:NJ to x=a\/NJ to x=b<;>by_cases ey:NJ to y=a\/NJ to y=b
  ·rcases ex with ex|ex<;>rcases ey with ey|ey
   ·exact h.apart x y row (by omega) (by omega) (by rw[ex,ey]) hr hyr
   ·exact hap x y row (by omega) (by omega) ex ey hr hyr
   ·exact hap y x _ (by omega) (by omega) ey ex hrow (hsym x y _ _ hr hrow hyr)
   ·exact h.apart x y row (by omega) (by omega) (by rw[ex,ey]) hr hyr
  ·have e1:Si a b (NJ to x)=Tw a b:=by simp_all[Si]
   have e2:Si a b (NJ to y)=NJ to y:=by simp_all[Si]
   grind [Asn]
  ·simp_all[Si,NJ,Tw]
  ·have e1:Si a b (NJ to y)=NJ to y:=by simp_all[Si]
   have e2:Si a b (NJ to x)=NJ to x:=by simp_all[Si]
   rw[e1,e2]at he;exact h.apart x y row (by omega) (by omega) he hr hyr
theorem AuO (f:Nn) (to:List Int) (hsl:f.Slots.length<=500):Hs (Adq f to) λb=>b=true↔AeY f to:=by
 refine .bne (λh=>.pure ⟨λh'=>(by cases h'),λh'=>(h (by rw[h'.1])).elim⟩) λh=>?_
 have hl:to.length=f.Slots.length:=by omega
 refine Hs.loop (λi=>∃ k:Nat,i=(k:Int)/\k<=to.length/\∀ s:Nat,s<k->0<=NJ to s/\NJ to s<to.length) (λi=>to.length-i.toNat) ⟨0,rfl,aAE _,λs hs=>absurd hs (aAI _)⟩ ?_
 rintro _ ⟨k,rfl,hk,hall⟩;refine .dec (λhlt=>?_) λhge=>.lft ?_
 ·have hlt:k<to.length:=by omega
  have hg:to[k]? =some (NJ to k):=by have:=QQ (to:=to) (s:=k) (by omega) (by omega);simp_all
  simp only[NT,hg,aA];refine .dec (λh0=>.lft (.pure ⟨λh=>(by cases h),λh=>?_⟩)) λh0=>.dec (λh1=>.lft (.pure ⟨λh=>(by cases h),λh=>?_⟩)) λh1=>?_
  ·have:=(h.2 k hlt).1;omega
  ·have:=(h.2 k hlt).2.1;omega
  rw[Nw (by omega)]
  refine .cnt ⟨⟨k+1,rfl,hlt,λs hs=>?_⟩,by grind⟩
  grind
 have hkk:k=to.length:=by omega
 subst hkk;refine Hs.loop (λi=>∃ k:Nat,i=(k:Int)/\k<=to.length/\∀ s:Nat,s<k->Ph f (NJ to s)=Ph f s/\NJ to (NJ to s)=NJ to s) (λi=>to.length-i.toNat) ⟨0,rfl,aAE _,λs hs=>absurd hs (aAI _)⟩ ?_
 rintro _ ⟨k,rfl,hk,hall2⟩;refine .dec (λhlt=>?_) λhge=>.lft (.pure ?_)
 ·have hlt:k<to.length:=by omega
  obtain⟨q0,q1⟩:=hall k hlt;have hg:to[k]? =some (NJ to k):=by have:=QQ (to:=to) (s:=k) (by omega) (by omega);simp_all
  simp only[NT,hg,aA];refine Hs.bind (Hs.ix (i:=NJ to k) (P:=λx=>x.Size=Ph f (NJ to k)) (by omega) (by omega) λx hx=>ZV hx) λa ha=>?_
  refine Hs.bind (Hs.get (i:=(k:Int)) (P:=λx=>x.Size=Ph f k) (by omega) (by omega) λx hx=>ZV hx) λb hb=>?_
  rw[ha,hb];refine .bne (λh2=>.lft (.pure ⟨λh=>(by cases h),λh=>(h2 (h.2 k hlt).2.2.1).elim⟩)) λh2=>?_
  rw[OZ _ (by omega),QQ (by omega) (by omega),aA]
  refine .bne (λh3=>.lft (.pure ⟨λh=>(by cases h),λh=>(h3 (h.2 k hlt).2.2.2).elim⟩)) λh3=>?_
  rw[Nw (by omega)]
  refine .cnt ⟨⟨k+1,rfl,hlt,λs hs=>?_⟩,by grind⟩
  grind
 ·exact⟨λ_=>⟨hl,λs hs=>⟨(hall s hs).1,(hall s hs).2,(hall2 s (by omega)).1,(hall2 s (by omega)).2⟩⟩,λ_=>rfl⟩
theorem AuM (x:Lo):Sa x=some (decide (x.Op=16\/x.Op=17)):=by
 unfold Sa
 grind
theorem Ahj (hf:NS f) (r:ND):Hs (AaE f r) λe=>(e=0\/e=12)/\(e=0↔SO f r):=by
 have hlen:=hf.len';unfold AaE;refine(AuO f r.To hf.slots).bind λb hb=>.cond (λh=>.pure ⟨.inr rfl,λh=>by omega,λh'=>?_⟩) λh=>?_
 ·rw[hb.2 h'.1]at h;cases h
 have hv:AeY f r.To:=hb.1 (by simp_all)
 refine .bne (λh=>.pure ⟨.inr rfl,λh=>by omega,λh'=>(h (by rw[h'.2.1])).elim⟩) λh=>?_
 have hkl:r.Keep.length=f.Code.length:=by omega
 unfold ZP;refine Hs.loop (λi=>∃ k:Nat,i=(k:Int)/\k<=f.Code.length/\∀ j:Nat,j<k->NU r.Keep j=false->(Ns f j).Op=16\/(Ns f j).Op=17) (λi=>f.Code.length-i.toNat) ⟨0,rfl,aAE _,λs hs=>absurd hs (aAI _)⟩ ?_
 rintro _ ⟨k,rfl,hk,hall⟩;unfold AcW;refine .dec (λhlt=>?_) λhge=>.lft (.pure ⟨.inl rfl,λ_=>⟨hv,hkl,λj hj=>hall j (by omega)⟩,λ_=>rfl⟩)
 have hlt:k<f.Code.length:=by omega
 have hx:=hf.at (j:=(k:Int)) (by omega) (by omega)
 rw[aAD]at hx;have hg:r.Keep[k]? =some (NU r.Keep k):=by grind [NU]
 have stp:(NU r.Keep k=false->(Ns f k).Op=16\/(Ns f k).Op=17)->∀ j:Nat,j<k+1->NU r.Keep j=false->(Ns f j).Op=16\/(Ns f j).Op=17:=by
  grind
 simp only[NT,hx.1,hg,aA,AuM];rw[Nw (by omega)]
 refine .cond (λh=>?_) λh=>.cnt ⟨⟨k+1,rfl,hlt,stp λh'=>by simp_all⟩,by grind⟩
 have hkf:NU r.Keep k=false:=by simp_all
 refine .cond (λh=>.lft (.pure ⟨.inr rfl,λh=>by omega,λh'=>?_⟩)) λh=>.cnt ⟨⟨k+1,rfl,hlt,stp λ_=>aAe λhn=>by simp_all⟩,by grind⟩
 have:=h'.2.2 k hlt hkf;simp_all
theorem AkZ:∀ {l:List Int} {a n:Int},l.Pairwise (· <·)->(∀ x∈l,a<=x/\x<n)->(l.length:Int)<=max 0 (n-a)
 | [],a,n,_,_=>by simp;omega
 | x::l,a,n,hp,hr=>by
  have h:=aAR.1 hp;have hx:=hr x (by simp)
  have:=AkZ (l:=l) (a:=x+1) (n:=n) h.2 λy hy=>⟨by grind,(hr y (by simp[hy])).2⟩
  grind
theorem Avz (_hsl:f.Slots.length<=500) (_htl:r.To.length=f.Slots.length) {_u:Int} {x:NB} {out:List NB} (hi:i<=1000) {l:List Int} (hll:l.length<=1000) (ho:out.length=i) (hl:∀ t∈l,0<=t/\t<f.Slots.length) {Q:Nn×Int->Prop} (hI:∀ y:NB,y.Size=x.Size->(∃ t∈x::f.Slots,y.Align=t.Align)->Rnd I μ s0 Q (.inl (out++[y],((i+1:Nat):Int)))):Hs (NA (λs=>ZO l f out x (i:Int) s.1 s.2) (x.Align,0)) (Rnd I μ s0 Q):=by
 refine Hs.loop (λs=>∃ k:Nat,s.2=(k:Int)/\k<=l.length/\∃ t∈x::f.Slots,s.1=t.Align) (λs=>l.length-s.2.toNat) ⟨0,rfl,aAE _,x,by simp,rfl⟩ ?_
 rintro⟨a,_⟩ ⟨k,rfl,hk,t0,ht0,hat⟩;refine .dec (λhlt=>?_) λ_=>.lft (.chk (by simp;omega) (.chk (by simp;omega) ?_))
 ·have hlt:k<l.length:=by omega
  refine .chk (by omega) ((Hs.get (by omega) (by omega) λt ht=>aAB ht).bind λt ht=>?_)
  have:=hl t ht;refine(Hs.ix (P:=λy=>y∈f.Slots) this.1 this.2 λy hy=>aAB hy).bind λy hy=>?_
  rw[Nw (by omega),Aop]
  refine .cnt ⟨⟨k+1,rfl,hlt,?_⟩,by grind⟩
  grind
 ·unfold XA;rw[Nw (by omega)]
  exact .cnt (hI _ rfl ⟨t0,ht0,hat⟩)
def Acw (f:Nn) (used:List Int) (out:List NB):Prop :=
 ∀ (j:Nat) y,out[j]? =some y->∃ u x,used[j]? =some u/\f.Slots[u.toNat]? =some x/\y.Size=x.Size/\∃ t∈f.Slots,y.Align=t.Align
theorem Acw.snoc {out:List NB} (h:Acw f used out) (ho:out.length=i) (hu:used[i]? =some u) {x y:NB} (hx:f.Slots[u.toNat]? =some x) (h1:y.Size=x.Size) (h2:∃ t∈x::f.Slots,y.Align=t.Align):Acw f used (out++[y]):=by
 intro j z hz
 by_cases e:j<out.length
 ·rw[aAP e]at hz;exact h j z hz
 grind
theorem AoW (hf:NS f) (hd:QD f) (hr:SO f r):Hs (QB f r) λq=>q.2=0/\∃ used to pl:List Int,Od f.Slots.length used/\(∀ k:Nat,k<f.Code.length->NU r.Keep k=true->∀ v∈Oo (rnI r.To (Ns f k)),v∈used)/\to.length=r.To.length/\(∀ (s:Nat) x,to[s]? =some x->0<=x/\(NJ r.To s∈used->used[x.toNat]? =some (NJ r.To s))) /\
  pl.length=r.Keep.length/\(∀ j:Nat,j<r.Keep.length->pl[j]? =some (kept r.Keep j:Int))/\q.1.Slots.length=used.length/\q.1.Params=f.Params/\q.1.Code=TJ f r.Keep to pl f.Code.length/\Acw f used q.1.Slots:=by
 have hlen:=hf.len';have hsl:=hf.slots;have hkl:=hr.2.1;have htl:=hr.1.1;refine(Ahj hf r).bind λe he=>.bne (λh=>(h (he.2.2 hr)).elim) λ_=>?_
 refine(Ayj hf hd hr).bind λused ⟨hu1,hu2⟩=>?_
 have hul:=hu1.1.length_le;refine Hs.loop (λs=>∃ i:Nat,s.2=(i:Int)/\i<=used.length/\s.1.length=i/\Acw f used s.1) (λs=>used.length-s.2.toNat) ⟨0,rfl,aAE _,rfl,λj y hj=>by simp at hj⟩ ?_
 rintro⟨out,_⟩ ⟨i,rfl,hi,ho,hsa⟩;refine .dec (λhlt=>?_) λhge=>.lft ?_
 ·have hlt:i<used.length:=by omega
  have hgx:used[i]? =some used[i]:=aAA _;have hxm:=aAF hlt;generalize used[i]=u at hgx hxm;have h0:=(hu1.1.2 u hxm).1;have h1:=hu1.2 u hxm;refine .chk (by omega) ?_
  simp only[aAD,hgx,aA];refine(Hs.ix (P:=λx=>f.Slots[u.toNat]? =some x) h0 h1 λx hx=>hx).bind λx hfx=>.chk (by omega) ?_
  refine(Ala (by omega) u).bind λl hm=>?_
  refine Avz (_u:=u) hsl htl (by omega) (l:=l) (by omega) ho (λt ht=>?_) λy hy1 hy2=>⟨⟨i+1,rfl,hlt,by simp[ho],hsa.snoc ho hgx hfx hy1 hy2⟩,by grind⟩
  grind
 have hii:i=used.length:=by omega
 subst hii;refine(Anv (by omega) hul).bind λto ⟨n1,n2⟩=>(Aps r (by omega)).bind λpl ⟨p1,p2⟩=>?_
 refine(Aql hf hkl to pl p1 out).mono λq hq=>?_
 subst hq;exact⟨rfl,used,to,pl,hu1,hu2,n1,n2,p1,p2,ho,rfl,rfl,hsa⟩
theorem Ami (hf:NS f) (hd:QD f) (hr:SO f r):Hs (QB f r) λq=>q.2=0/\∃ used to pl:List Int,Od f.Slots.length used/\(∀ k:Nat,k<f.Code.length->NU r.Keep k=true->∀ v∈Oo (rnI r.To (Ns f k)),v∈used)/\to.length=r.To.length/\(∀ (s:Nat) x,to[s]? =some x->0<=x/\(NJ r.To s∈used->used[x.toNat]? =some (NJ r.To s))) /\
  pl.length=r.Keep.length/\(∀ j:Nat,j<r.Keep.length->pl[j]? =some (kept r.Keep j:Int))/\q.1.Slots.length=used.length/\q.1.Params=f.Params/\q.1.Code=TJ f r.Keep to pl f.Code.length :=
 (AoW hf hd hr).mono λ_q ⟨h0,used,to,pl,u1,u2,n1,n2,p1,p2,sl,pr,cd,_⟩=>⟨h0,used,to,pl,u1,u2,n1,n2,p1,p2,sl,pr,cd⟩
theorem AdR {keep:List Bool} {j:Nat}:∀ {k:Nat},j<=k->k<=keep.length->kept keep j<=kept keep k
 | 0,h,_=>by
  simp_all
 | k+1,h,hk=>by
  by_cases e:j=k+1
  ·simp_all
  ·have h1:=AdR (keep:=keep) (j:=j) (k:=k) (by omega) (by omega)
   have hg:keep[k]? =some (keep[k]'(by omega)):=aAA _
   grind [XG]
def Ty (f:Nn):Prop:=(Ns f (f.Code.length-1:Nat)).Op=20\/(Ns f (f.Code.length-1:Nat)).Op=23\/(Ns f (f.Code.length-1:Nat)).Op=24
theorem AhM (hf:NS f) (hlast:Ty f) (hr:SO f r) {t:Nat} (ht:t<f.Code.length):kept r.Keep t<kept r.Keep f.Code.length:=by
 have hkl:=hr.2.1;have hl:=hf.len;have hk:NU r.Keep (f.Code.length-1)=true:=by
  cases h:NU r.Keep (f.Code.length-1)
  ·have:=hr.2.2 _ (by omega) h
   grind [Ty]
  ·rfl
 have hg:r.Keep[f.Code.length-1]? =some true:=by
  grind [NU]
 have h1:=XG hg;have h2:=AdR (keep:=r.Keep) (j:=t) (k:=f.Code.length-1) (by omega) (by omega)
 grind
theorem AsD (hf:NS f) (hlast:Ty f) (hr:SO f r) {pl:List Int} (hpl:∀ j:Nat,j<r.Keep.length->pl[j]? =some (kept r.Keep j:Int)) {p:Nat} (hx:(TJ f r.Keep to pl f.Code.length)[p]? =some x):∀ t∈Rc x p,0<=t/\t<(kept r.Keep f.Code.length:Int):=by
 have hkl:=hr.2.1;obtain⟨j,hj,hk,rfl,rfl⟩:=(Vx (f:=f) (keep:=r.Keep) (to:=to) (pl:=pl) f.Code.length (by omega)).2 p x hx
 have hcode:=(hf.at (j:=(j:Int)) (by omega) (by omega)).1
 have hn:=hf.next j _ hcode;obtain⟨t1,t2⟩:=Aja hf hj;have hg:r.Keep[j]? =some true:=by
  grind [NU]
 have hs:=XG hg;simp at hs;have at_:∀ t:Int,0<=t->t<f.Code.length->(pl[t.toNat]?).getD 0=(kept r.Keep t.toNat:Int)/\kept r.Keep t.toNat<kept r.Keep f.Code.length:=λt h0 h1=>by
  simp_all[AhM]
 have nx:(j:Int)+1<f.Code.length->(kept r.Keep j:Int)+1<kept r.Keep f.Code.length:=λh=>by
  have:=AhM hf hlast hr (t:=j+1) (by omega)
  omega
 intro t ht
 by_cases h20:(Ns f j).Op=20
 ·simp_all[AdY,mvI,Rc]
 ·by_cases h21:(Ns f j).Op=21
  ·rw[AdY (.inr h21)]at ht;have a:=at_ _ (t2 h21).1 (t2 h21).2
   have b:=nx (by
    have:=hn ((j:Int)+1) (by
     unfold Rc
     grind)
    omega)
   have hmem:t=(pl[(Ns f j).B.toNat]?).getD 0\/t=(kept r.Keep j:Int)+1:=by
    simp only[mvI,if_neg h20,if_pos h21,Rc]at ht
    grind
   omega
  ·have hop:(mvI pl (rnI to (Ns f j))).Op=(Ns f j).Op:=by
    have h:=Ach to (Ns f j);simp_all[mvI]
   unfold Rc at ht;rw[hop,if_neg h20]at ht
   by_cases h23:(Ns f j).Op=23\/(Ns f j).Op=24
   ·simp_all
   ·rw[if_neg h23,if_neg h21]at ht
    have b:=nx (by
     simp_all[Rc])
    grind
theorem AcI (to:List Int) (x:Lo) (v:Int):v∈Oo (rnI to x)↔∃ s∈Oo x,v=rnS to s:=by
 grind [Oo,Pm,rnI]
theorem Awh (pl:List Int) (x:Lo):Oo (mvI pl x)=Oo x:=by
 grind [mvI,Oo,Pm]
theorem Agx (hf:NS f) (hd:QD f) (hx:x∈f.Code) {s:Int} (hs:s∈Oo x):0<=s/\s<f.Slots.length:=by
 rcases aAM.1 hs with h|h
 ·exact hf.uses x hx s h
 ·by_cases hop:x.Op=16\/x.Op=17
  ·rw[if_pos hop]at h;rw[aAN.1 h];exact hd x hx hop
  simp_all
theorem ArF (hf:NS f) (hd:QD f) (hr:SO f r) {pl:List Int} (hu:∀ k:Nat,k<f.Code.length->NU r.Keep k=true->∀ v∈Oo (rnI r.To (Ns f k)),v∈used) (htl:to.length=r.To.length) (hto:∀ (s:Nat) x,to[s]? =some x->0<=x/\(NJ r.To s∈used->used[x.toNat]? =some (NJ r.To s))) {p:Nat} (hx:(TJ f r.Keep to pl f.Code.length)[p]? =some x):∀ v∈Oo x,0<=v/\v<used.length:=by
 have hkl:=hr.2.1;have hrl:=hr.1.1;obtain⟨j,hj,hk,rfl,rfl⟩:=(Vx (f:=f) (keep:=r.Keep) (to:=to) (pl:=pl) f.Code.length (by omega)).2 p x hx
 have hxm:=(hf.at (j:=(j:Int)) (by omega) (by omega)).2
 intro v hv;rw[Awh,AcI]at hv;obtain⟨s,hs,rfl⟩:=hv;obtain⟨h0,h1⟩:=Agx hf hd hxm hs;have hm:=hu j hj hk (rnS r.To s) ((AcI _ _ _).2 ⟨s,hs,rfl⟩);rw[(hr.1.rng h0 h1).2.2]at hm;have hg:=QQ (to:=to) (s:=s) h0 (by omega)
 have e:rnS to s=NJ to s:=by simp_all[rnS]
 grind [aAU]
theorem Sc.AyS {i most:Int} (h:Sc ps i most f):Ty f:=by
 have hl:=h.len;have hg:f.Code[f.Code.length-1]? =some (Ns f (f.Code.length-1:Nat)):=by grind [Ns]
 have he:=h.last _ hg;unfold Ty;rcases he with e|⟨w,_,e⟩<;>rw[e]<;>simp
theorem AmZ (hf:NS f) (hd:QD f) (hlast:Ty f) (hr:SO f r):Hs (QB f r) λq=>q.2=0/\NS q.1/\QD q.1:=by
 have hkl:=hr.2.1;have hsl:=hf.slots;have hlen:=hf.len';have hl1:=hf.len;refine(Ami hf hd hr).mono λq ⟨h0,used,to,pl,u1,u2,n1,n2,p1,p2,sl,_,cd⟩=>⟨h0,?_⟩
 have hcl:q.1.Code.length=kept r.Keep f.Code.length:=by grind [Vx]
 have hk0:=AhM hf hlast hr (t:=0) (by omega)
 have hkl2:=AeS r.Keep f.Code.length;have hul:=AkZ (l:=used) (a:=0) (n:=f.Slots.length) u1.1.1 λx hx=>⟨(u1.1.2 x hx).1,u1.2 x hx⟩
 have nm:∀ x∈q.1.Code,∀ v∈Oo x,0<=v/\v<q.1.Slots.length:=by
  intro x hx v hv;obtain⟨p,hp⟩:=aAH hx;rw[cd]at hp;have:=ArF hf hd hr u2 n1 n2 hp v hv;omega
 refine⟨⟨by omega,by omega,by omega,λk x hx j hj=>?_,λx hx v hv=>nm x hx v (List.mem_append_left _ hv)⟩,λx hx hop=>nm x hx x.A (by simp_all[Oo])⟩
 rw[cd]at hx;have:=AsD hf hlast hr p2 hx j hj;omega
def alS (f:Nn) (t:Int):Int:=((f.Slots[t.toNat]?).map NB.Align).getD 0
def AaU (f:Nn) (l:List Int) (a0 a:Int):Prop:=a0<=a/\(∀ t∈l,alS f t<=a)/\(a=a0\/∃ t∈l,a=alS f t)
theorem AaU.unique {l l':List Int} {a0 b:Int} (h:AaU f l a0 a) (k:AaU f l' a0 b) (e:∀ t,t∈l↔t∈l'):a=b:=by
 obtain⟨h1,h2,h3⟩:=h;obtain⟨k1,k2,k3⟩:=k
 grind
theorem AaU.nil (f:Nn) (a:Int):AaU f [] a a:=⟨aAW _,λt h=>(by cases h),.inl rfl⟩
theorem AaU.snoc {l:List Int} {a0:Int} (h:AaU f l a0 a) (t:Int):AaU f (l++[t]) a0 (max a (alS f t)):=by
 obtain⟨h1,h2,h3⟩:=h;refine⟨by omega,λu hu=>?_,?_⟩
 all_goals grind
def Avv (to:List Int) (s:Int) (l:List Int):Prop:=∀ t,t∈l↔∃ j:Nat,j<to.length/\t=(j:Int)/\NJ to j=s
def Aqj (f:Nn) (r:ND) (used:List Int):Prop:=TU used λv=>∃ k:Nat,k<f.Code.length/\NU r.Keep k=true/\v∈Oo (rnI r.To (Ns f k))
structure Xc (f:Nn) (r:ND) (used:List Int) (out:List NB):Prop where
 len:out.length=used.length
 at_:∀ (i:Nat) (u:Int) (y:NB),used[i]? =some u->out[i]? =some y->∃ x l,f.Slots[u.toNat]? =some x/\y.Size=x.Size/\Avv r.To u l/\AaU f l x.Align y.Align
theorem Xc.unique {a b:List NB} (h:Xc f r used a) (k:Xc f r used b):a=b:=by
 refine aAS λi=>?_
 by_cases hi:i<used.length
 ·have e1:a[i]? =some (a[i]'(by have:=h.len;omega)):=aAA _
  have e2:b[i]? =some (b[i]'(by have:=k.len;omega)):=aAA _
  have hu:used[i]? =some used[i]:=aAA _;obtain⟨x,l,x1,x2,x3,x4⟩:=h.at_ i _ _ hu e1;obtain⟨x',l',y1,y2,y3,y4⟩:=k.at_ i _ _ hu e2;rw[x1]at y1;cases y1;rw[e1,e2];have ea:=x4.unique y4 λt=>(x3 t).trans (y3 t).symm
  congr 1;generalize a[i]'_=p at *;generalize b[i]'_=q at *;cases p;cases q;simp_all
 ·rw[aAO (by have:=h.len;omega),aAO (by have:=k.len;omega)]
def Aqa (r:ND) (used to:List Int):Prop:=to.length=r.To.length/\∀ (s:Nat) x,to[s]? =some x->NJ r.To s∈used->0<=x/\used[x.toNat]? =some (NJ r.To s)
def Ahs (r:ND) (pl:List Int):Prop:=pl.length=r.Keep.length/\∀ j:Nat,j<r.Keep.length->pl[j]? =some (kept r.Keep j:Int)
theorem Ahs.unique {a b:List Int} (h:Ahs r a) (k:Ahs r b):a=b:=by
 refine aAS λj=>?_
 by_cases hj:j<r.Keep.length
 ·rw[h.2 j hj,k.2 j hj]
 ·rw[aAO (by have:=h.1;omega),aAO (by have:=k.1;omega)]
theorem AuK {to':List Int} (h:∀ s∈Oo x,rnS to s=rnS to' s):rnI to x=rnI to' x:=by
 simp_all[rnI,Oo,Pm]
theorem OB.inj {l:List Int} (h:OB l) {j:Nat} (hi:l[i]? =some v) (hj:l[j]? =some v):i=j:=by
 obtain⟨a1,a2⟩:=aAC.1 hi;obtain⟨b1,b2⟩:=aAC.1 hj;have hp:=aAm.1 h.1
 grind
theorem AhJ {α β:Type} {f g:α->Option β}:∀ {l:List α},(∀ x∈l,f x=g x)->l.filterMap f=l.filterMap g
 | [],_=>rfl
 | a::l,h=>by
  have h0:=h a (aAJ ..);have h1:=AhJ (l:=l) λx hx=>h x (aAK _ hx)
  grind
theorem Atn (hf:NS f) (hd:QD f) (hr:SO f r) {to' pl:List Int} (hs:OB used) (hu:∀ k:Nat,k<f.Code.length->NU r.Keep k=true->∀ v∈Oo (rnI r.To (Ns f k)),v∈used) (h:Aqa r used to) (h':Aqa r used to') :
  TJ f r.Keep to pl f.Code.length=TJ f r.Keep to' pl f.Code.length:=by
 have hrl:=hr.1.1;unfold TJ;refine AhJ λj hj=>?_
 have hj:=List.mem_range.1 hj
 by_cases hk:NU r.Keep j=true
 ·have hxm:=(hf.at (j:=(j:Int)) (by omega) (by omega)).2
  rw[AuK λs hs'=>?_]
  obtain⟨h0,h1⟩:=Agx hf hd hxm hs';have hm:=hu j hj hk (rnS r.To s) ((AcI _ _ _).2 ⟨s,hs',rfl⟩);rw[(hr.1.rng h0 h1).2.2]at hm;have one:∀ {t:List Int},Aqa r used t->rnS t s=NJ t s/\0<=NJ t s/\used[(NJ t s).toNat]? =some (NJ r.To s):=fun{t} ht=>by
   have htl:=ht.1;have hg:=QQ (to:=t) (s:=s) h0 (by omega)
   have:=ht.2 s.toNat _ hg;rw[aAU h0]at this;simp_all[rnS]
  obtain⟨a1,a2,a3⟩:=one h;obtain⟨b1,b2,b3⟩:=one h';have:=hs.inj a3 b3;omega
 simp_all
def Abt (f:Nn) (r:ND) (q:Nn×Int):Prop:=q.2=0/\q.1.Params=f.Params/\∃ used to pl:List Int,Aqj f r used/\Xc f r used q.1.Slots/\Aqa r used to/\Ahs r pl/\q.1.Code=TJ f r.Keep to pl f.Code.length
theorem Abt.unique (hf:NS f) (hd:QD f) (hr:SO f r) {q q':Nn×Int} (h:Abt f r q) (k:Abt f r q'):q=q':=by
 obtain⟨h1,h2,used,to,pl,h3,h4,h5,h6,h7⟩:=h;obtain⟨k1,k2,used',to',pl',k3,k4,k5,k6,k7⟩:=k;have e1:used=used':=TU.eq h3 k3 λv _ _=>Iff.rfl
 subst e1;have e2:=h6.unique k6;subst e2;have hm:∀ k:Nat,k<f.Code.length->NU r.Keep k=true->∀ v∈Oo (rnI r.To (Ns f k)),v∈used:=λj hj hk v hv=>by
  have hsl:=hf.slots;have hxm:=(hf.at (j:=(j:Int)) (by omega) (by omega)).2
  have:=Abo hf hd hr.1 hxm v hv;exact(h3.2 v).2 ⟨⟨this.1,by omega⟩,j,hj,hk,hv⟩
 rw[Atn hf hd hr h3.1 hm h5 k5]at h7;obtain⟨⟨p,s,c⟩,e⟩:=q;obtain⟨⟨p',s',c'⟩,e'⟩:=q';simp only at *;rw[h1,k1,h2,k2,h7,k7,h4.unique k4]
section
variable {f:Nn}
theorem AtG (_hsl:f.Slots.length<=500) {x:NB} {out:List NB} (hi:i<=1000) {l:List Int} (hll:l.length<=1000) (ho:out.length=i) (hl:∀ t∈l,0<=t/\t<f.Slots.length) {Q:Nn×Int->Prop} (hI:∀ y:NB,y.Size=x.Size->AaU f l x.Align y.Align->Rnd I μ s0 Q (.inl (out++[y],((i+1:Nat):Int)))):Hs (NA (λs=>ZO l f out x (i:Int) s.1 s.2) (x.Align,0)) (Rnd I μ s0 Q):=by
 refine Hs.loop (λs=>∃ k:Nat,s.2=(k:Int)/\k<=l.length/\AaU f (l.take k) x.Align s.1) (λs=>l.length-s.2.toNat) ⟨0,rfl,aAE _,by grind [AaU.nil]⟩ ?_
 rintro⟨a,_⟩ ⟨k,rfl,hk,hm⟩;refine .dec (λhlt=>?_) λhge=>.lft (.chk (by simp;omega) (.chk (by simp;omega) ?_))
 ·have hlt:k<l.length:=by omega
  have hg:l[k]? =some l[k]:=aAA _;have htk:l.take (k+1)=l.take k++[l[k]]:=by simp_all
  have ht:=hl _ (aAF hlt);generalize l[k]=t at hg htk ht;refine .chk (by omega) ?_
  rw[aAD,hg,aA];refine(Hs.ix (P:=λy=>alS f t=y.Align) ht.1 ht.2 λy hy=>by grind [alS]).bind λy hy=>?_
  rw[Nw (by omega),Aop,<- hy]
  refine .cnt ⟨⟨k+1,rfl,hlt,?_⟩,by grind⟩
  rw[htk];exact hm.snoc t
 ·have hkk:k=l.length:=by omega
  subst hkk;rw[aAZ]at hm;unfold XA;rw[Nw (by omega)]
  exact .cnt (hI _ rfl hm)
theorem Xc.snoc {out:List NB} (ho:out.length=i) (hi:i<=used.length) (h:Xc f r (used.take i) out) (hu:used[i]? =some u) {x y:NB} {l:List Int} (hx:f.Slots[u.toNat]? =some x) (h1:y.Size=x.Size) (hl:Avv r.To u l) (h2:AaU f l x.Align y.Align):Xc f r (used.take (i+1)) (out++[y]):=by
 have hlt:=(aAC.1 hu).1;refine⟨by grind,λj v z hv hz=>?_⟩
 by_cases e:j<i
 ·rw[aAP (by omega)]at hz
  refine h.at_ j v z ?_ hz
  grind
 grind
theorem Azc (hf:NS f) (hd:QD f) (hr:SO f r):Hs (ZQ f r) λl=>Aqj f r l/\Od f.Slots.length l:=by
 have hlen:=hf.len';have hsl:=hf.slots;have hkl:=hr.2.1;refine Hs.loop (λs=>∃ k:Nat,s.2=(k:Int)/\k<=f.Code.length/\Od f.Slots.length s.1/\∀ v,v∈s.1↔∃ j:Nat,j<k/\NU r.Keep j=true/\v∈Oo (rnI r.To (Ns f j))) (λs=>f.Code.length-s.2.toNat) ⟨0,rfl,aAE _,Od.nil _,λv=>⟨λh=>(by cases h),λ⟨j,hj,_⟩=>absurd hj (aAI _)⟩⟩ ?_
 rintro⟨l,_⟩ ⟨k,rfl,hk,hs,hj⟩;replace hs:Od f.Slots.length l:=hs;have split:∀ v,(∃ j:Nat,j<k+1/\NU r.Keep j=true/\v∈Oo (rnI r.To (Ns f j)))↔v∈l\/(NU r.Keep k=true/\v∈Oo (rnI r.To (Ns f k))):=λv=>by
  grind
 refine .dec (λhlt=>.dec (λ_=>?_) λh=>?_) λhge=>.lft (.pure ⟨⟨hs.1,λv=>?_⟩,hs⟩)
 ·have hlt:k<f.Code.length:=by omega
  have hx:=hf.at (j:=(k:Int)) (by omega) (by omega)
  rw[aAD]at hx;have hg:r.Keep[k]? =some (NU r.Keep k):=by grind [NU]
  have hnr:=Abo hf hd hr.1 hx.2;unfold Ym;simp only[NT,hg,hx.1,aA,Are,Aqo,Ale,Nw (show k<9223372036854775807 by omega)]
  refine .cond (λh=>.cnt ⟨⟨k+1,rfl,hlt,hs,λv=>?_⟩,by grind⟩) λh=>?_
  ·simp_all
  ·have hkt:NU r.Keep k=true:=by simp_all
   obtain⟨y,hy⟩:∃ y,y=rnI r.To (Ns f k):=⟨_,rfl⟩;rw[<- hy]at hnr ⊢;have hul:(Pm y).length<=1:=by grind [Pm]
   have hll:=hs.1.length_le;rw[union_eq _ _ (by omega),aA]
   obtain⟨u1,u2⟩:=Vc (n:=f.Slots.length) (by omega) (b:=Pm y) (a:=l) hs (λx hx=>hnr x (by grind [Oo]))
   by_cases hdy:y.Op=16\/y.Op=17
   ·simp only[AgZ,if_pos hdy,cond_true];have hA:=hnr y.A (by simp_all[Oo])
    obtain⟨a1,a2⟩:=Od.add (n:=f.Slots.length) u1 hA (by omega)
    have a3:=(Od.AeZ u1 hA (by omega)).2.2
    rw[a2,aA];refine .cnt ⟨⟨k+1,rfl,hlt,a1,λv=>?_⟩,by grind⟩
    show v∈Rf y.A (QT l (Pm y))↔_;rw[split v,a3,u2,<- hy];unfold Oo
    grind
   ·simp only[AgZ,if_neg hdy,cond_false];refine .cnt ⟨⟨k+1,rfl,hlt,u1,λv=>?_⟩,by grind⟩
    simp_all[Oo]
 ·omega
 ·have hkk:k=f.Code.length:=by omega
  subst hkk;constructor
  ·intro h;have:=hs.2 v h;exact⟨⟨(hs.1.2 v h).1,by omega⟩,(hj v).1 h⟩
  simp_all
theorem Awr (hf:NS f) (hd:QD f) (hr:SO f r):Hs (QB f r) (Abt f r):=by
 have hlen:=hf.len';have hsl:=hf.slots;have hkl:=hr.2.1;have htl:=hr.1.1;refine(Ahj hf r).bind λe he=>.bne (λh=>(h (he.2.2 hr)).elim) λ_=>?_
 refine(Azc hf hd hr).bind λused ⟨hu0,hu1⟩=>?_
 have hul:=hu1.1.length_le;refine Hs.loop (λs=>∃ i:Nat,s.2=(i:Int)/\i<=used.length/\s.1.length=i/\Xc f r (used.take i) s.1) (λs=>used.length-s.2.toNat) ⟨0,rfl,aAE _,rfl,rfl,λj u y hj=>by simp at hj⟩ ?_
 rintro⟨out,_⟩ ⟨i,rfl,hi,ho,hsa⟩;refine .dec (λhlt=>?_) λhge=>.lft ?_
 ·have hlt:i<used.length:=by omega
  have hgx:used[i]? =some used[i]:=aAA _;have hxm:=aAF hlt;generalize used[i]=u at hgx hxm;have h0:=(hu1.1.2 u hxm).1;have h1:=hu1.2 u hxm;refine .chk (by omega) ?_
  simp only[aAD,hgx,aA];refine(Hs.ix (P:=λx=>f.Slots[u.toNat]? =some x) h0 h1 λx hx=>hx).bind λx hfx=>.chk (by omega) ?_
  refine(Ala (by omega) u).bind λl hm=>?_
  refine AtG hsl (by omega) (l:=l) (by omega) ho (λt ht=>?_) λy hy1 hy2=>⟨⟨i+1,rfl,hlt,by simp[ho],hsa.snoc ho (by omega) hgx hfx hy1 hm.2 hy2⟩,by grind⟩
  grind
 have hii:i=used.length:=by omega
 subst hii;rw[aAZ]at hsa;refine(Anv (by omega) hul).bind λto ⟨n1,n2⟩=>(Aps r (by omega)).bind λpl ⟨p1,p2⟩=>?_
 refine(Aql hf hkl to pl p1 out).mono λq hq=>?_
 subst hq;exact⟨rfl,rfl,used,to,pl,hu0,hsa,⟨n1,λs x hs hm=>⟨(n2 s x hs).1,(n2 s x hs).2 hm⟩⟩,⟨p1,p2⟩,rfl⟩
end
open Go Go.Dw Go.Proofs
def Uc (a:NH):Prop:=0<=a.Off/\a.Off<=2147483647/\0<=a.Size/\a.Size<=2147483647/\a.Off+a.Size<=2147483647
def Aiw (a b:NH):Prop:=Uc a/\Uc b/\0<a.Size/\0<b.Size/\a.Off<b.Off+b.Size/\b.Off<a.Off+a.Size
def InI (a:NH) (n:Int):Prop:=Uc a/\a.Off+a.Size<=n
instance (a:NH):Decidable (Uc a):=by unfold Uc;infer_instance
instance (a b:NH):Decidable (Aiw a b):=by unfold Aiw;infer_instance
instance (a:NH) (n:Int):Decidable (InI a n):=by unfold InI;infer_instance
theorem AmS (a:NH):Ro a=some (decide (Uc a)):=by
 unfold Ro;simp only[XK,aA]
 by_cases h1:0<=a.Off/\a.Off<=2147483647
 ·rw[decide_eq_true h1,cond_true]
  by_cases h2:0<=a.Size/\a.Size<=2147483647
  ·rw[decide_eq_true h2,cond_true,wrap64 (by omega) (by omega)]
   simp_all[Uc]
  ·rw[decide_eq_false h2,cond_false,decide_eq_false (λh=>h2 ⟨h.2.2.1,h.2.2.2.1⟩)]
 ·rw[decide_eq_false h1,cond_false,decide_eq_false (λh=>h1 ⟨h.1,h.2.1⟩)]
theorem AnN {m:Nat} (hm:m<=24):Qy ((2 ^ m:Nat):Int)=some true:=by
 have:Hs (Qy ((2 ^ m:Nat):Int)) λb=>b=true:=by
  unfold Qy;have hp:2 ^ m<=2 ^ 24:=aAb (by omega) hm
  refine Hs.loop (λk=>∃ j:Nat,k=((2 ^ j:Nat):Int)/\j<=m) (λk=>2 ^ m-k.toNat) ⟨0,rfl,aAE _⟩ ?_
  rintro _ ⟨j,rfl,hj⟩;have hjp:2 ^ j<=2 ^ m:=aAb (by omega) hj
  have hj0:0<2 ^ j:=Nat.two_pow_pos j;unfold RP;refine .dec (λ_=>.beq (λ_=>.lft (.pure rfl)) λhne=>?_) λh=>(h (by omega)).elim
  have hlt:j<m:=by
   grind
  have h2:2 ^ (j+1)<=2 ^ m:=aAb (by omega) hlt
  have h3:2 ^ (j+1)=2 ^ j*2:=Nat.pow_succ 2 j;refine .cnt ⟨⟨j+1,?_,hlt⟩,?_⟩
  all_goals grind [wrap64]
 obtain⟨r,h,rfl⟩:=this;exact h
def upN (n a:Int):Int:=n+(-n) % a
theorem Vh {n:Int} (ha:0<a):n<=upN n a/\upN n a<n+a/\upN n a % a=0:=by
 have h1:=aAq (-n) (show a≠0 by omega)
 have h2:=aAj (-n) ha;refine⟨by grind [upN],by grind [upN],?_⟩
 unfold upN;rw[Int.emod_def (-n) a]
 grind [Int.mul_neg,Int.mul_emod_right]
def Re (a:Int):Prop:=∃ m:Nat,m<=24/\a=((2 ^ m:Nat):Int)
theorem Re.rng (h:Re a):1<=a/\a<=16777216:=by
 obtain⟨m,hm,rfl⟩:=h;have hp:2 ^ m<=2 ^ 24:=aAb (by omega) hm
 grind
theorem AuN {n:Int} (h0:0<=n) (h1:n<=1000000000) (ha:Re a):WM n a=some (upN n a,0):=by
 obtain⟨a1,a2⟩:=ha.rng;obtain⟨m,hm,rfl⟩:=ha;unfold WM;rw[XK,aA,decide_eq_true (show 0<=n/\n<=2147483647 by omega)]
 simp only[aAf,cond_false,AnN hm,aA];generalize((2 ^ m:Nat):Int)=a at *;unfold Aaz Yu;have ht:n.tmod a=n % a:=aAl h0;have e1:=aAq n (show a≠0 by omega)
 have e2:=aAj n (show 0<a by omega)
 have e3:=aAq (-n) (show a≠0 by omega)
 have e4:=aAj (-n) (show 0<a by omega)
 rw[Oa (by omega),ht]
 have key:(n % a=0->upN n a=n)/\(n % a≠0->upN n a=n-n % a+a):=by
  unfold upN;constructor
  ·simp_all[Int.emod_eq_zero_of_dvd,aAo]
  ·intro h;have hs:(n % a+(-n) % a) % a=0:=by
    rw[Int.emod_def n a,Int.emod_def (-n) a];have:n-a*(n / a)+(-n-a*(-n / a))=a*(-(n / a)+ -(-n / a)):=by grind
    simp_all
   have hq:n % a+(-n) % a=a:=by
    obtain⟨q,hq⟩:=aAo hs;have q1:0<q:=by
     rcases Int.lt_or_le 0 q with h|h
     ·exact h
     ·have:=aAi h (show 0<=a by omega)
      omega
    have q2:q<2:=by
     rcases Int.lt_or_le q 2 with h|h
     ·exact h
     ·have:=aAi h (show 0<=a by omega)
      omega
    grind
   omega
 by_cases h:n % a=0
 ·grind
 ·have:=key.2 h;rw[show(n % a != 0)=true by simp_all,cond_true,Oa (by omega),wrap64 (n:=n-n % a) (by omega) (by omega),wrap64 (by omega) (by omega),<- this,decide_eq_false (by omega),cond_false]
theorem Uc.wrap {a:NH} (h:Uc a):IntKind.i64.wrap (a.Off+a.Size)=a.Off+a.Size:=by
 grind [Uc,wrap64]
theorem Apj (a:NH) (n:Int):Uo a n=some (decide (InI a n)):=by
 unfold Uo;rw[AmS,aA]
 by_cases h:Uc a
 ·rw[decide_eq_true h,cond_true,h.wrap];simp[InI,h]
 simp_all[InI]
theorem WC (m:Nat) (hm:m<=24):Re ((2 ^ m:Nat):Int):=⟨m,hm,rfl⟩
theorem Aan.al {s:NB} (h:Aan s):Re s.Align/\s.Align<=64/\1<=s.Size/\s.Size<=16:=by
 obtain⟨h1,h2⟩:=h;have ha:Re s.Align/\s.Align<=64:=by
  simp only[aAk,List.not_mem_nil,or_false]at h2;rcases h2 with h|h|h|h|h|h|h|h<;>rw[h]
  ·exact⟨WC 3 (by omega),by omega⟩
  ·exact⟨WC 2 (by omega),by omega⟩
  ·exact⟨WC 0 (by omega),by omega⟩
  ·exact⟨WC 3 (by omega),by omega⟩
  ·exact⟨WC 4 (by omega),by omega⟩
  ·exact⟨WC 1 (by omega),by omega⟩
  ·exact⟨WC 5 (by omega),by omega⟩
  ·exact⟨WC 6 (by omega),by omega⟩
 grind
def Adh (s:NB):Prop:=s.Size∈([1,2,4,8,16]:List Int)/\Re s.Align
theorem Adh.al {s:NB} (h:Adh s):Re s.Align/\s.Align<=16777216/\1<=s.Size/\s.Size<=16:=by
 refine⟨h.2,h.2.rng.2,?_⟩;have:=h.1
 grind
theorem Aan.wide {s:NB} (h:Aan s):Adh s:=by
 refine⟨?_,h.al.1⟩;have:=h.1;simp only[aAk,List.not_mem_nil,or_false]at this ⊢;omega
def VS (p:Nv) (n:Int) (x:Lo):Int:=if x.Op=18 then OA n (x.A+1)else if x.Op=22 then OA n (((p.Funcs[x.A.toNat]?).map Nn.Params).getD 0)else n
def PI (p:Nv) (f:Nn) (k:Nat):Int:=(f.Code.take k).foldl (VS p) 0
def AaL (p:Nv) (f:Nn):Prop:=∀ x∈f.Code,(x.Op=18->0<=x.A/\x.A<8)/\(x.Op=22->0<=x.A/\∃ g,p.Funcs[x.A.toNat]? =some g/\0<=g.Params/\g.Params<=8)
theorem Wc (hk:k<f.Code.length):PI p f (k+1)=VS p (PI p f k) f.Code[k]:=by
 grind [PI,aAg]
theorem AqU {b c:Int} (h0:0<=a/\a<=c) (h1:b<=c):0<=OA a b/\OA a b<=c:=by grind [OA]
theorem XJ {p:Nv} {f:Nn} (h:AaL p f):∀ {k:Nat},k<=f.Code.length->0<=PI p f k/\PI p f k<=8
 | 0,_=>by simp[PI]
 | k+1,hk=>by
  rw[Wc hk];have ih:=XJ h (k:=k) (by omega)
  obtain⟨h1,h2⟩:=h _ (aAF hk);unfold VS;split
  ·exact AqU ih (by omega)
  ·split
   ·obtain⟨_,g,hg,hp⟩:=h2 ‹_›;rw[hg];exact AqU ih (by simp_all)
   ·exact ih
theorem Aws {i:Int} (hi:ixO p.Funcs i=some f) (hl:f.Code.length<=10000) (h:AaL p f):TZ p i=some (16*PI p f f.Code.length):=by
 have:Hs (TZ p i) λr=>r=16*PI p f f.Code.length:=by
  unfold TZ;rw[hi,aA];refine Hs.loop (λq=>∃ k:Nat,q=(PI p f k,(k:Int))/\k<=f.Code.length) (λq=>f.Code.length-q.2.toNat) ⟨0,rfl,aAE _⟩ ?_
  rintro _ ⟨k,rfl,hk⟩;have hr:=XJ h hk;refine .dec (λhlt=>?_) λhge=>.lft (.pure ?_)
  ·have hlt:k<f.Code.length:=by omega
   have e:ixO f.Code (k:Int)=some f.Code[k]:=by simp_all
   obtain⟨h1,h2⟩:=h _ (aAF hlt);simp only[e,aA];rw[Nw (by omega)]
   refine .beq (λh18=>?_) λh18=>.beq (λh22=>?_) λh22=>?_
   ·rw[wrap64 (by omega) (by omega)]
    exact .cnt ⟨⟨k+1,by grind [Wc,VS],hlt⟩,by grind⟩
   ·obtain⟨a0,g,hg,hp⟩:=h2 h22;rw[OZ _ a0,hg,aA];exact .cnt ⟨⟨k+1,by grind [Wc,VS],hlt⟩,by grind⟩
   ·exact .cnt ⟨⟨k+1,by grind [Wc,VS],hlt⟩,by grind⟩
  ·have:k=f.Code.length:=by omega
   subst this;rw[wrap64 (by omega) (by omega)]
   show PI p f f.Code.length*16=_;omega
 obtain⟨r,h,rfl⟩:=this;exact h
def Asc (s:List NB):Prop:=s.length<=7/\∀ x∈s,Re x.Align/\x.Align<=64/\1<=x.Size/\x.Size<=16
def Aao (s:List NB):Prop:=s.length<=40/\∀ x∈s,Re x.Align/\x.Align<=16777216/\1<=x.Size/\x.Size<=16
theorem Asc.w {s:List NB} (h:Asc s):Aao s:=⟨by have:=h.1;omega,λx hx=>⟨(h.2 x hx).1,by have:=(h.2 x hx).2.1;omega,(h.2 x hx).2.2⟩⟩
def Afq (q:List Int×Int) (s:NB):List Int×Int:=(q.1++[upN q.2 s.Align],upN q.2 s.Align+s.Size)
def plK (s:List NB) (a:Int) (k:Nat):List Int×Int:=(s.take k).foldl Afq ([],a)
theorem AcL {s:List NB} (hk:k<s.length):plK s a (k+1)=Afq (plK s a k) s[k]:=by
 grind [plK,aAg]
theorem AcK {s:List NB} (h:Aao s) {a:Int} (ha:0<=a/\a<=1000):∀ {k:Nat},k<=s.length->(plK s a k).1.length=k/\a<=(plK s a k).2/\(plK s a k).2<=a+16777240*k
 | 0,_=>by simp[plK]
 | k+1,hk=>by
  have ih:=AcK h ha (k:=k) (by omega)
  obtain⟨h1,h2,h3,h4⟩:=h.2 _ (aAF hk);obtain⟨u1,u2,_⟩:=Vh (n:=(plK s a k).2) (a:=s[k].Align) (by have:=h1.rng;omega)
  grind [AcL,Afq]
def QE (p:Nv) (f:Nn) (al:Int):NC:=⟨16*PI p f f.Code.length,upN (plK f.Slots (16*PI p f f.Code.length) f.Slots.length).2 al,(plK f.Slots (16*PI p f f.Code.length) f.Slots.length).1⟩
theorem Awt {i:Int} (hi:ixO p.Funcs i=some f) (hl:f.Code.length<=10000) (h:AaL p f) (hs:Aao f.Slots) {al:Int} (ha:Re al) (ha':al<=16777216):Vn p i al=some (QE p f al,0):=by
 have hr:=XJ h (k:=f.Code.length) (aAQ _);have hsl:=hs.1;have:Hs (Vn p i al) λr=>r=(QE p f al,0):=by
  unfold Vn;rw[Aws hi hl h,aA,hi,aA];unfold QE;have hr2:0<=16*PI p f f.Code.length/\16*PI p f f.Code.length<=128:=by omega
  generalize 16*PI p f f.Code.length=a0 at *;refine Hs.loop (λq=>∃ k:Nat,q=((plK f.Slots a0 k).1,(k:Int),(plK f.Slots a0 k).2)/\k<=f.Slots.length) (λq=>f.Slots.length-q.2.1.toNat) ⟨0,rfl,aAE _⟩ ?_
  rintro _ ⟨k,rfl,hk⟩;obtain⟨q1,q2,q3⟩:=AcK hs (a:=a0) (by omega) hk
  dsimp only;refine .dec (λhlt=>?_) λhge=>.lft ?_
  ·have hlt:k<f.Slots.length:=by omega
   have e:ixO f.Slots (k:Int)=some f.Slots[k]:=by simp_all
   obtain⟨h1,h2,h3,h4⟩:=hs.2 _ (aAF hlt);obtain⟨u1,u2,_⟩:=Vh (n:=(plK f.Slots a0 k).2) (a:=f.Slots[k].Align) (by have:=h1.rng;omega)
   simp only[e,aA];rw[AuN (by omega) (by omega) h1,aA]
   rw[wrap64 (n:=2147483519-f.Slots[k].Size) (by omega) (by omega),decide_eq_false (by omega),cond_false]
   refine .chk (by simp;omega) (.chk (by simp;omega) ?_)
   rw[e,aA,Nw (by omega),wrap64 (by omega) (by omega)]
   exact .cnt ⟨⟨k+1,by grind [AcL,Afq],hlt⟩,by grind⟩
  ·have:k=f.Slots.length:=by omega
   subst this;obtain⟨u1,u2,_⟩:=Vh (n:=(plK f.Slots a0 f.Slots.length).2) (a:=al) (by have:=ha.rng;omega)
   rw[AuN (by omega) (by omega) ha,aA]
   rw[decide_eq_false (by omega),cond_false]
   exact .pure rfl
 obtain⟨r,h,rfl⟩:=this;exact h
structure AwS (p:Nv) (i:Int) (f:Nn) (al:Int):Prop where
 hi:ixO p.Funcs i=some f
 arg:AaL p f
 slots:Aao f.Slots
 alok:Re al
 al16:16<=al
 al64:al<=16777216
 len':f.Code.length<=10000
def AeW (f:Nn) (y:NC) (k:Nat):Prop:=∃ o s,y.Off[k]? =some o/\f.Slots[k]? =some s/\y.Args<=o/\o.tmod s.Align=0/\InI ⟨o,s.Size⟩ y.Size
def Ti (p:Nv) (f:Nn) (al:Int) (y:NC):Prop :=
 y.Args=16*PI p f f.Code.length/\y.Off.length=f.Slots.length/\(∀ k:Nat,k<f.Slots.length->AeW f y k)/\y.Size.tmod al=0/\y.Args<=y.Size/\y.Size<=(QE p f al).Size
theorem Aor {s:List NB} {a:Int}:∀ {k:Nat},k<=s.length->(plK s a k).1.length=k
 | 0,_=>by simp[plK]
 | k+1,hk=>by
  have ih:=Aor (s:=s) (a:=a) (k:=k) (by omega)
  grind [AcL,Afq]
theorem Ass {s:List NB} {a:Int} {j:Nat} (hj:j<s.length):∀ {k:Nat},j<k->k<=s.length->(plK s a k).1[j]? =some (upN (plK s a j).2 s[j].Align)
 | 0,h,_=>absurd h (aAI _)
 | k+1,h,hk=>by
  rw[AcL hk];have hl:=Aor (a:=a) (show k<=s.length by omega)
  unfold Afq
  by_cases e:j=k
  ·simp_all
  ·rw[aAP (by omega)]
   exact Ass hj (by omega) (by omega)
theorem Asr {s:List NB} {j:Nat} (hj:j<s.length):(plK s a (j+1)).2=upN (plK s a j).2 s[j].Align+s[j].Size:=by rw[AcL hj];rfl
theorem AmC {s:List NB} (h:Aao s) {a:Int} {j:Nat}:∀ {k:Nat},j<=k->k<=s.length->(plK s a j).2<=(plK s a k).2
 | 0,h,_=>by simp_all
 | k+1,hjk,hk=>by
  by_cases e:j=k+1
  ·simp_all
  have ih:=AmC h (a:=a) (j:=j) (k:=k) (by omega) (by omega)
  obtain⟨h1,h2,h3,h4⟩:=h.2 _ (aAF hk);obtain⟨u1,u2,_⟩:=Vh (n:=(plK s a k).2) (a:=s[k].Align) (by have:=h1.rng;omega)
  grind [Asr]
section
variable {p:Nv} {i:Int} {f:Nn} {al:Int} (h:AwS p i f al)
 include h
theorem AjV:(plK f.Slots (16*PI p f f.Code.length) f.Slots.length).2<=(QE p f al).Size/\(QE p f al).Size<(plK f.Slots (16*PI p f f.Code.length) f.Slots.length).2+al/\(QE p f al).Size.tmod al=0/\0<=16*PI p f f.Code.length/\16*PI p f f.Code.length<=(plK f.Slots (16*PI p f f.Code.length) f.Slots.length).2/\(QE p f al).Size<=1000000000:=by
 have hr:=XJ h.arg (k:=f.Code.length) (aAQ _);have hsl:=h.slots.1;have h16:=h.al16;have h64:=h.al64;have hp:=AcK h.slots (a:=16*PI p f f.Code.length) (by omega) (aAQ _)
 obtain⟨u1,u2,u3⟩:=Vh (n:=(plK f.Slots (16*PI p f f.Code.length) f.Slots.length).2) (a:=al) (by omega)
 refine⟨u1,u2,?_,by omega,hp.2.1,?_⟩
 ·show(upN _ al).tmod al=0
  grind
 ·show upN _ al<=1000000000;omega
theorem AvA (hk:k<f.Slots.length):∃ o,(QE p f al).Off[k]? =some o/\(plK f.Slots (16*PI p f f.Code.length) k).2<=o/\o+f.Slots[k].Size=(plK f.Slots (16*PI p f f.Code.length) (k+1)).2/\o.tmod f.Slots[k].Align=0:=by
 have hr:=XJ h.arg (k:=f.Code.length) (aAQ _);have hp:=AcK h.slots (a:=16*PI p f f.Code.length) (by omega) (show k<=f.Slots.length by omega)
 obtain⟨h1,h2,h3,h4⟩:=h.slots.2 _ (aAF hk);obtain⟨u1,u2,u3⟩:=Vh (n:=(plK f.Slots (16*PI p f f.Code.length) k).2) (a:=f.Slots[k].Align) (by have:=h1.rng;omega)
 refine⟨_,Ass hk hk (aAQ _),u1,(Asr hk).symm,?_⟩
 grind
theorem AsG:Ti p f al (QE p f al):=by
 obtain⟨b1,b2,b3,b4,b5,b6⟩:=AjV h;refine⟨rfl,Aor (aAQ _),λk hk=>?_,b3,?_,aAW _⟩
 ·obtain⟨o,e1,e2,e3,e4⟩:=AvA h hk;have m1:=AmC h.slots (a:=16*PI p f f.Code.length) (j:=0) (k:=k) (by omega) (by omega)
  have m2:=AmC h.slots (a:=16*PI p f f.Code.length) (j:=k+1) (k:=f.Slots.length) hk (aAQ _);have m0:(plK f.Slots (16*PI p f f.Code.length) 0).2=16*PI p f f.Code.length:=rfl;have hs:=(h.slots.2 _ (aAF hk)).2.2;refine⟨o,f.Slots[k],e1,aAA _,?_,e4,⟨?_,?_⟩⟩
  ·show 16*PI p f f.Code.length<=o;omega
  ·refine⟨?_,?_,?_,?_,?_⟩<;>simp only<;>omega
  grind
 ·show 16*PI p f f.Code.length<=_;omega
end
open Go Go.Dw Go.Proofs
theorem Re.max {b:Int} (ha:Re a) (hb:Re b):Re (OA a b):=by grind [OA]
theorem Awz {B:Int} (hB:16<=B) {s:List NB} (hl:s.length<=512) (h:∀ x∈s,Re x.Align/\x.Align<=B):Hs (TX s) λa=>Re a/\16<=a/\a<=B:=by
 have a16:Re 16:=WC 4 (by omega)
 unfold TX;refine(AkT s).bind λe he=>.bne (λ_=>.pure ⟨a16,by omega,by omega⟩) λ_=>?_
 refine Hs.loop (λq=>∃ k:Nat,q.2=(k:Int)/\k<=s.length/\Re q.1/\16<=q.1/\q.1<=B) (λq=>s.length-q.2.toNat) ⟨0,rfl,aAE _,a16,by omega,by omega⟩ ?_
 rintro⟨a,_⟩ ⟨k,rfl,hk,h1,h2,h3⟩;replace h2:16<=a:=h2;replace h3:a<=B:=h3;unfold ZF;dsimp only;refine .dec (λhlt=>?_) λ_=>.lft (.pure ⟨h1,h2,h3⟩)
 have hlt:k<s.length:=by omega
 rw[Nw (by omega)]
 refine(Hs.ix (by omega) (by omega) λx hx=>h x (aAB hx)).bind λx hx=>.cnt ⟨⟨k+1,rfl,hlt,h1.max hx.1,?_,?_⟩,by grind⟩
 all_goals grind [OA]
theorem Awk {B:Int} (hB:16<=B) (hp:p.Funcs.length<=1000) (h:∀ f∈p.Funcs,f.Slots.length<=512/\∀ x∈f.Slots,Re x.Align/\x.Align<=B):Hs (Sm p) λa=>Re a/\16<=a/\a<=B:=by
 have a16:Re 16:=WC 4 (by omega)
 unfold Sm;refine Hs.loop (λq=>∃ k:Nat,q.2=(k:Int)/\k<=p.Funcs.length/\Re q.1/\16<=q.1/\q.1<=B) (λq=>p.Funcs.length-q.2.toNat) ⟨0,rfl,aAE _,a16,by omega,by omega⟩ ?_
 rintro⟨a,_⟩ ⟨k,rfl,hk,h1,h2,h3⟩;replace h2:16<=a:=h2;replace h3:a<=B:=h3;unfold AcN;dsimp only;refine .dec (λhlt=>?_) λ_=>.lft (.pure ⟨h1,h2,h3⟩)
 have hlt:k<p.Funcs.length:=by omega
 rw[Nw (by omega)]
 refine(Hs.ix (by omega) (by omega) λx hx=>h x (aAB hx)).bind λx hx=>(Awz hB hx.1 hx.2).bind λb hb=>.cnt ⟨⟨k+1,rfl,hlt,h1.max hb.1,?_,?_⟩,by grind⟩
 all_goals grind [OA]
theorem Sc.args {i most:Int} (h:Sc ps i most f) (hi:0<=i) (hl:p.Funcs.length=ps.length) (hps:AkY ps) (hall:∀ (j:Nat) g,p.Funcs[j]? =some g->Sc ps j most g):AaL p f:=by
 intro x hx;obtain⟨k,hk⟩:=aAH hx;have hkl:=(aAC.1 hk).1
 by_cases hk1:k+1<f.Code.length
 ·have hins:=h.body k x hk hk1;cases hins with
  | call j h0 h1 =>
   refine⟨λe=>by simp at e,λ_=>⟨by grind,?_⟩⟩
   have hg:p.Funcs[j.toNat]? =some (p.Funcs[j.toNat]'(by omega)):=aAA _
   have:=(hall _ _ hg).par;have:=hps.1 _ (aAB this)
   grind
  | arg a b h0 h1 h2=>grind
  | bin op a b c h1 h2 h3 h4 h5 h6=>grind
  | un op a h1 h2=>grind
  | _=>exact⟨λe=>by simp at e,λe=>by simp at e⟩
 ·have he:=h.last x (by grind)
  rcases he with rfl|⟨w,_,rfl⟩<;>exact⟨λe=>by simp at e,λe=>by simp at e⟩
structure Aiv (p:Nv) (i:Int) (f:Nn) (al:Int):Prop where
 hi:ixO p.Funcs i=some f
 arg:AaL p f
 slots:Aao f.Slots
 alok:Re al
 al16:16<=al
 al64:al<=16777216
 Um:NS f
 defs:QD f
 ml:YT f
theorem Aiv.bas {i:Int} {al:Int} (h:Aiv p i f al):AwS p i f al:=⟨h.hi,h.arg,h.slots,h.alok,h.al16,h.al64,h.Um.len'⟩
def Adx (n:Nat) (f:Nn):Prop:=∀ x∈f.Code,x.Op=22->0<=x.A/\x.A<n
theorem Asa {n:Nat} (h:Adx n f) {keep:List Bool} {pl:List Int} (hk:f.Code.length<=keep.length):∀ x∈TJ f keep to pl f.Code.length,x.Op=22->0<=x.A/\x.A<n:=by
 intro x hx hop;obtain⟨p,hp⟩:=aAH hx;obtain⟨j,h1,_,_,rfl⟩:=(Vx (f:=f) (keep:=keep) (to:=to) (pl:=pl) _ hk).2 p x hp;have hm:Ns f (j:Nat)∈f.Code:=by
  grind [Ns]
 have ho:(mvI pl (rnI to (Ns f (j:Nat)))).Op=(Ns f (j:Nat)).Op:=by
  refine Eq.trans ?_ (Ach to _)
  grind [mvI]
 rw[ho]at hop;have e:mvI pl (rnI to (Ns f (j:Nat)))=Ns f (j:Nat):=by grind [mvI,rnI]
 rw[e];exact h _ hm hop
theorem ArA (hf:NS f) (hd:QD f) (hlast:Ty f) {n:Nat} (hc:Adx n f) (hr:SO f r):Hs (QB f r) λq=>q.2=0/\NS q.1/\QD q.1/\Adx n q.1:=by
 obtain⟨q,e,h1,h2,h3⟩:=AmZ hf hd hlast hr;obtain⟨q',e',_,used,to,pl,_,_,_,_,_,_,_,_,cd⟩:=Ami hf hd hr;rw[e]at e';cases e';refine⟨q,e,h1,h2,h3,?_⟩;unfold Adx;rw[cd];exact Asa hc (by rw[hr.2.1];omega)
section
variable {p:Nv} {i:Int} {f:Nn}
theorem Xc.Azq (hs:∀ x∈f.Slots,Adh x) (htl:r.To.length=f.Slots.length) {out:List NB} (h:Xc f r used out):∀ y∈out,Adh y:=by
 intro y hy;obtain⟨j,hj⟩:=aAH hy;have hjl:=(aAC.1 hj).1;have hu:used[j]? =some (used[j]'(by rw[<- h.len];exact hjl)):=aAA _
 obtain⟨x,l,h1,h2,h3,h4⟩:=h.at_ j _ y hu hj;have hx:=hs x (aAB h1);unfold Adh;rw[h2];refine⟨hx.1,?_⟩;rcases h4.2.2 with e|⟨t,ht,e⟩
 ·rw[e];exact hx.2
 ·obtain⟨k,hk,rfl,_⟩:=(h3 t).1 ht;have hs':f.Slots[k]? =some (f.Slots[k]'(by omega)):=aAA _
  have:alS f (k:Int)=(f.Slots[k]'(by omega)).Align:=by grind [alS]
  rw[e,this];exact(hs _ (aAF _)).2
theorem AoV (pl:List Int) (x:Lo):(mvI pl x).Op=x.Op:=by
 grind [mvI]
theorem ArB {pl:List Int} (h:x.Op=18\/x.Op=22):mvI pl (rnI to x)=x:=by
 have e:rnI to x=x:=by
  unfold rnI
  grind
 rw[e];unfold mvI
 grind
theorem Asb {q:Nn} (hi:ixO p.Funcs i=some f) (hq:q.Params=f.Params) (a:Nat):((p.Funcs.set i.toNat q)[a]?).map Nn.Params=(p.Funcs[a]?).map Nn.Params:=by
 obtain⟨i0,i1,h⟩:=WJ hi
 grind
end
theorem Abt.Ayo (hf:NS f) (hd:QD f) (hml:YT f) (hr:SO f r) {q:Nn} (hx:Abt f r (q,0)):YT q:=by
 obtain⟨_,_,used,to,pl,hu,hsx,hn,hpl,hcode⟩:=hx;have hsx:Xc f r used q.Slots:=hsx;have hcode:q.Code=TJ f r.Keep to pl f.Code.length:=hcode;have hrl:=hr.1.1;have hsl:=hf.slots;intro y hy hop;rw[hcode]at hy;obtain⟨pn,hp⟩:=aAH hy;obtain⟨j,hj,hk,_,rfl⟩:=(Vx (f:=f) (keep:=r.Keep) (to:=to) (pl:=pl) _ (by rw[hr.2.1];omega)).2 pn y hp
 have hm:=(hf.at (j:=(j:Int)) (by omega) (by omega)).2
 rw[AoV,Ach]at hop;obtain⟨a0,a1,b0,b1,hsz⟩:=hml _ hm hop;have one:∀ s:Int,s∈Oo (Ns f (j:Nat))->0<=rnS to s/\rnS to s<q.Slots.length/\Ph q (rnS to s)=Ph f s:=λs hs=>by
  obtain⟨h0,h1⟩:=Agx hf hd hm hs;have hrn:=Abo hf hd hr.1 hm (rnS r.To s) ((AcI _ _ _).2 ⟨s,hs,rfl⟩);have hmu:rnS r.To s∈used:=(hu.2 _).2 ⟨⟨hrn.1,by omega⟩,j,hj,hk,(AcI _ _ _).2 ⟨s,hs,rfl⟩⟩
  rw[(hr.1.rng h0 h1).2.2]at hmu;have hg:=QQ (to:=to) (s:=s) h0 (by have:=hn.1;omega)
  have e:rnS to s=NJ to s:=by unfold rnS;grind
  have hn2:=hn.2 s.toNat _ hg;rw[aAU h0]at hn2;obtain⟨q0,q1⟩:=hn2 hmu;rw[e];have hlt:=(aAC.1 q1).1;have hql:(NJ to s).toNat<q.Slots.length:=by rw[hsx.len];exact hlt
  have hqs:q.Slots[(NJ to s).toNat]? =some q.Slots[(NJ to s).toNat]:=aAA _;obtain⟨x,l,x1,x2,_,_⟩:=hsx.at_ _ _ _ q1 hqs;refine⟨q0,by omega,?_⟩
  have hsz2:=(hr.1.2 s.toNat (by omega)).2.2.1
  grind [Ph]
 have eA:(mvI pl (rnI to (Ns f (j:Nat)))).A=rnS to (Ns f (j:Nat)).A:=by
  simp_all[mvI,rnI]
 have eB:(mvI pl (rnI to (Ns f (j:Nat)))).B=rnS to (Ns f (j:Nat)).B:=by
  simp_all[mvI,rnI]
 simp_all[Oo,Pm]
end Go.Proofs.YtcaoepecbgggcaaGreatDoor
