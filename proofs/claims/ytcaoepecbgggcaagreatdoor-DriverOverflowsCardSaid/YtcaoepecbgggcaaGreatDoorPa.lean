/-
  Plain laws about the typed programs.
-/
import Derived.Test.YtcaoepecbgggcaaGreatDoorDc
import Derived.Test.YtcaoepecbgggcaaGreatDoorDxP
open Bool renaming cond_eq_ite->aAG,not_true->aAY
open Classical renaming byContradiction->aAc
open Int renaming toNat_natCast->aAC,toNat_of_nonneg->aAS,le_refl->aAU,mul_le_mul_of_nonneg_left->aAh,emod_lt_of_pos->aAj,tmod_eq_emod_of_nonneg->aAk,dvd_of_emod_eq_zero->aAo,emod_nonneg->aAq
open List renaming getElem?_eq_getElem->aAA,getElem?_eq_some_iff->aAB,mem_of_getElem?->aAD,getElem_mem->aAF,getElem?_of_mem->aAH,mem_cons_self->aAJ,mem_cons_of_mem->aAK,getElem?_eq_none->aAM,getElem?_append_left->aAN,pairwise_cons->aAP,drop_eq_getElem_cons->aAQ,take_succ_eq_append_getElem->aAR,length_eq_zero_iff->aAT,take_add_one->aAV,getElem?_set_ne->aAW,mem_filter->aAZ,mem_or_eq_of_mem_set->aAa,mem_append->aAb,ext_getElem?->aAd,mem_cons->aAe,take_length->aAf,range_succ->aAg,mem_singleton->aAi,pairwise_iff_getElem->aAl,foldlM_cons->aAm,not_mem_nil->aAn,append_nil->aAp,take_of_length_le->aAr
open Nat renaming zero_le->aAE,not_lt_zero->aAI,le_refl->aAO,pow_le_pow_right->aAX
open Option renaming bind_some->aA,bind_eq_some_iff->aAL,map_eq_some_iff->aAs,bind_eq_bind->aAt
namespace Go.Dw
section
variable {ι R α:Type} {body:ι->Option (ι⊕R)} {v:R}
theorem RT {α β:Type} (s:List α) (mk:β->Int->ι) (I:β->Nat->Prop) (F:β->List α->Option R)
  (hnil:∀ acc,I acc s.length->∃ v,body (mk acc s.length)=some (.inr v)/\F acc []=some v)
  (hcons:∀ acc (i:Nat) x r,I acc i->s.drop i=x::r->i<s.length->s[i]? =some x ->
   (∃ acc',I acc' (i+1)/\body (mk acc i)=some (.inl (mk acc' ((i+1:Nat):Int)))/\F acc (x::r)=F acc' r)\/(∃ v,body (mk acc i)=some (.inr v)/\F acc (x::r)=some v))
  (acc:β) (h0:I acc 0):NW body (mk acc 0)=F acc s:=by
 have:∀ k i acc,i+k=s.length->I acc i->NW body (mk acc (i:Nat))=F acc (s.drop i):=by
  intro k
  induction k with
  | zero =>
   intro i acc hi hI;simp only[Nat.add_zero]at hi
   grind [Vi]
  | succ k ih =>
   grind [aAQ,Vi]
 have:=this s.length 0 acc (by omega) h0
 simp_all
@[simp] theorem Oo (l:List α) (i:Nat):ixO l (i:Int)=l[i]?:=by
 unfold ixO;rw[if_neg (by omega)]
 simp
theorem Pu (l:List α) {i:Int} (h:0<=i):ixO l i=l[i.toNat]?:=by
 simp_all[ixO,if_neg]
@[simp] theorem AxS (l:List α) (i:Nat):ixO l ((i:Int)+1)=l[i+1]?:=by
 have:=Oo l (i+1);simpa using this
@[simp] theorem AuY (l:List α):ixO l 0=l[0]?:=Pu l (aAU 0)
theorem wrap64 {n:Int} (h0: -9223372036854775808<=n) (h1:n<=9223372036854775807):IntKind.i64.wrap n=n:=Akg h0 h1
@[simp] theorem Ayj:IntKind.i64.wrap 0=0:=by decide
@[simp] theorem Ayk:IntKind.i64.wrap 1=1:=by decide
@[simp] theorem Ayl:IntKind.i64.wrap 2=2:=by decide
@[simp] theorem Aym:IntKind.i64.wrap 3=3:=by decide
theorem NO {i:Nat} (h:i<9223372036854775807):IntKind.i64.wrap ((i:Int)+1)=((i+1:Nat):Int):=by
 grind [wrap64]
@[simp] theorem AxU (r:R):(lft (some r):Option (ι⊕R))=some (.inr r):=rfl
@[simp] theorem AxT:(lft none:Option (ι⊕R))=none:=rfl
@[simp] theorem Awb (s:ι):(cnt s:Option (ι⊕R))=some (.inl s):=rfl
theorem Anb (a b:Int):OD a b=max a b:=by grind [OD]
end
open Go
variable {i:Int}
def Hs {α:Type} (m:Option α) (P:α->Prop):Prop:=∃ r,m=some r/\P r
section
variable {α β ι R:Type}
theorem Hs.pure {a:α} {P:α->Prop} (h:P a):Hs (some a) P:=⟨a,rfl,h⟩
theorem Hs.bind {m:Option α} {f:α->Option β} {P:α->Prop} {Q:β->Prop} (h:Hs m P) (hf:∀ r,P r->Hs (f r) Q):Hs (m.bind f) Q:=by
 obtain⟨r,rfl,hr⟩:=h;simp_all
theorem Hs.mono {m:Option α} {P Q:α->Prop} (h:Hs m P) (hf:∀ r,P r->Q r):Hs m Q:=by
 obtain⟨r,h1,hr⟩:=h;exact⟨r,h1,hf r hr⟩
theorem Hs.chk {p:Prop} [Decidable p] {m:Option α} {P:α->Prop} (hp:p) (h:Hs m P):Hs (chk p m) P:=by
 grind [OA]
theorem Hs.cond {b:Bool} {x y:Option α} {P:α->Prop} (h1:b=true->Hs x P) (h2:b=false->Hs y P):Hs (bif b then x else y) P:=by
 grind
theorem Hs.dec {p:Prop} [Decidable p] {x y:Option α} {P:α->Prop} (h1:p->Hs x P) (h2:¬ p->Hs y P):Hs (bif decide p then x else y) P :=
 Hs.cond (λh=>h1 (of_decide_eq_true h)) (λh=>h2 (of_decide_eq_false h))
theorem Hs.beq {a b:Int} {x y:Option α} {P:α->Prop} (h1:a=b->Hs x P) (h2:a≠b->Hs y P):Hs (bif a==b then x else y) P :=
 Hs.cond (λh=>h1 (by simp_all)) (λh=>h2 (by simp_all))
theorem Hs.bne {a b:Int} {x y:Option α} {P:α->Prop} (h1:a≠b->Hs x P) (h2:a=b->Hs y P):Hs (bif a != b then x else y) P :=
 Hs.cond (λh=>h1 (by simp_all)) (λh=>h2 (by simp_all))
theorem Hs.cnt {s:ι} {P:ι⊕R->Prop} (h:P (.inl s)):Hs (Go.Dw.cnt s) P:=⟨_,rfl,h⟩
theorem Hs.lft {m:Option R} {P:ι⊕R->Prop} (h:Hs m λr=>P (.inr r)):Hs (Go.Dw.lft m) P:=by
 obtain⟨r,rfl,h⟩:=h;exact⟨_,rfl,h⟩
def Rnd (I:ι->Prop) (μ:ι->Nat) (s:ι) (Q:R->Prop):ι⊕R->Prop
 | .inl s'=>I s'/\μ s'<μ s
 | .inr r=>Q r
theorem Hs.loop {body:ι->Option (ι⊕R)} {s:ι} {Q:R->Prop} (I:ι->Prop) (μ:ι->Nat) (h0:I s) (hb:∀ s,I s->Hs (body s) (Rnd I μ s Q)):Hs (NW body s) Q:=by
 refine AnF I Q μ h0 λs hs=>?_
 obtain⟨z,hz,hq⟩:=hb s hs;cases z with
 | inl s'=>exact .inl ⟨s',hz,hq⟩
 | inr r=>exact .inr ⟨r,hz,hq⟩
theorem Hs.get {l:List α} {P:α->Prop} (h0:0<=i) (h1:i<l.length) (h:∀ x,l[i.toNat]? =some x->P x):Hs (l[i.toNat]?) P:=by
 have:l[i.toNat]? =some (l[i.toNat]'(by omega)):=aAA _
 exact⟨_,this,h _ this⟩
theorem Hs.ix {l:List α} {P:α->Prop} (h0:0<=i) (h1:i<l.length) (h:∀ x,l[i.toNat]? =some x->P x):Hs (ixO l i) P:=by
 grind [Pu,Hs.get]
end
theorem AwB (n:Int):0<=IntKind.u64.wrap n/\IntKind.u64.wrap n<18446744073709551616:=by
 grind [IntKind.wrap,IntKind.signed,IntKind.bits]
end Go.Dw
namespace Go.Proofs.YtcaoepecbgggcaaGreatDoor
open Go Go.Dw Go.Proofs
attribute [local simp] OA aAG
variable {s ps:List Int} {l g:List (List Int)} {i:Nat} {x:NH} {sl:List NS} {f:Lo}
theorem AmT (n:Int):Wn n=some (decide (0<=n/\n<512)):=by
 grind [Wn]
theorem Ajw {n:Int} (h:0<=n/\n<512):Wn n=some true:=by grind [AmT]
theorem AsB {n:Int} (h:¬ (0<=n/\n<512)):Wn n=some false:=by grind [AmT]
theorem AbJ (s:List Int) (n:Int) (hs:s.length<=9223372036854775807):Vb s n=some (decide (n∈s)):=by
 refine RT s (λ(_:Unit) i=>i) (λ_ _=>True) (λ_ l=>some (decide (n∈l))) (λ_ _=>⟨_,by simp[Zg],rfl⟩) (λ_ i x r _ hd hi hx=>?_) () trivial
 have w:=NO (show i<9223372036854775807 by omega)
 by_cases h:x=n
 ·simp_all[Zg]
 ·refine .inl ⟨(),trivial,?_,?_⟩
  ·simp_all[Zg]
  grind
def Uv (n:Int):List Int->List Int
 | []=>[n]
 | x::r=>if x<n then x::Uv n r else if x=n then x::r else n::x::r
theorem AkA (n:Int):∀ s,(Uv n s).length<=s.length+1
 | []=>by simp[Uv]
 | x::r=>by
  have:=AkA n r
  grind [Uv]
def QT (n:Int) (s:List Int):List Int:=if 0<=n/\n<512 then Uv n s else s
theorem add_eq (s:List Int) (n:Int) (hs:s.length<=1000000):Wm s n=some (QT n s):=by
 unfold Wm QT;rw[AmT];simp only[aA];have key:∀ d:Bool,NW (λs_1:List Int×Bool×Int=>Sf s n s_1.1 s_1.2.1 s_1.2.2) ([],d,0)=some (if d then s else Uv n s):=by
  intro d;have:=RT (body:=λs_1:List Int×Bool×Int=>Sf s n s_1.1 s_1.2.1 s_1.2.2) s (λ(p:List Int×Bool) i=>(p.1,p.2,i)) (λp i=>p.1.length<=i+(if p.2 then 1 else 0)) (λp l=>some (p.1++(if p.2 then l else Uv n l)))
   (λp hp=>by
    obtain⟨out,done⟩:=p;cases done<;>simp only[if_true,Bool.false_eq_true,if_false]at hp
    ·exact⟨out++[n],by simp[Sf,show out.length<=16777215 by omega],by simp[Uv]⟩
    simp_all[Sf])
   (λp i x r hp hd hi hx=>by
    obtain⟨out,done⟩:=p;have w:=NO (show i<9223372036854775807 by omega)
    obtain⟨_,rfl⟩:=aAB.1 hx;left;cases done<;>simp only[if_true,Bool.false_eq_true,if_false]at hp
    ·by_cases h1:n<=s[i]
     ·by_cases h2:n<s[i]
      ·refine⟨(out++[n]++[s[i]],true),by simp;omega,?_,?_⟩
       ·simp[Sf,Ue,Tc,hi,h1,h2,w,show out.length<=16777215 by omega,show out.length<=16777214 by omega]
       grind [Uv]
      ·refine⟨(out++[s[i]],true),by simp;omega,?_,?_⟩
       ·simp[Sf,Ue,Tc,hi,h1,h2,w,show out.length<=16777215 by omega]
       grind [Uv]
     ·refine⟨(out++[s[i]],false),by simp;omega,?_,?_⟩
      ·simp[Sf,Ue,Tc,hi,h1,w,show out.length<=16777215 by omega]
      grind [Uv]
    ·refine⟨(out++[s[i]],true),by simp;omega,?_,?_⟩
     ·simp[Sf,Ue,Tc,hi,w,show out.length<=16777215 by omega]
     ·simp)
   ([],d) (by simp)
  simp_all
 grind
def Uu:Option Int->List Int->Bool
 | _,[]=>true
 | p,x::r=>decide (0<=x/\x<512)&&(match p with|none=>true|some y=>decide (y<x))&&Uu (some x) r
theorem AeX (s:List Int) (hs:s.length<=9223372036854775807):Aap s=some (Uu none s):=by
 refine RT s (λ(_:Option Int) i=>i) (λp i=>match i with|0=>p=none|k+1=>s[k]? =p/\p≠none) (λp l=>some (Uu p l)) (λ_ _=>⟨true,by simp[TG],by simp[Uu]⟩) (λp i x r hp hd hi hx=>?_) none rfl
 obtain⟨_,rfl⟩:=aAB.1 hx
 by_cases hg:0<=s[i]/\s[i]<512
 ·cases i with
  | zero =>
   subst hp;exact .inl ⟨some s[0],⟨hx,by simp⟩,by simp[TG,hi,Ajw hg],by grind [Uu]⟩
  | succ k =>
   obtain⟨hp,hpn⟩:=hp;have hk:k<s.length:=by omega
   rw[aAA hk]at hp;subst hp;have w:IntKind.i64.wrap ((k:Int)+1+1)=(k:Int)+1+1:=wrap64 (by omega) (by omega)
   have wp:IntKind.i64.wrap (k:Int)=k:=wrap64 (by omega) (by omega)
   have e0:(k:Int)+1-1=k:=by omega
   by_cases hlt:s[k]<s[k+1]
   ·exact .inl ⟨some s[k+1],⟨hx,by simp⟩,by simp[TG,hi,Ajw hg,w,wp,e0,hk,show ¬ s[k+1]<=s[k]by omega,show(0:Int)<k+1 by omega,show(k:Int)+1<s.length by omega],by grind [Uu]⟩
   ·exact .inr ⟨false,by simp[TG,hi,Ajw hg,w,wp,e0,hk,show s[k+1]<=s[k]by omega,show(0:Int)<k+1 by omega,show(k:Int)+1<s.length by omega],by grind [Uu]⟩
 ·exact .inr ⟨false,by simp_all[TG,AsB],by grind [Uu]⟩
def OK (s:List Int):Prop:=s.Pairwise (· <·)/\∀ x∈s,0<=x/\x<512
theorem Apq:∀ (p:Option Int) (s:List Int),Uu p s=true↔OK s/\∀ y,p=some y->∀ x∈s,y<x
 | p,[]=>by simp[Uu,OK]
 | p,x::r=>by
  simp only[Uu,Bool.and_eq_true,Apq (some x) r,decide_eq_true_eq,OK,aAP,aAe,forall_eq_or_imp,Option.some.injEq]
  grind
theorem Acy (s:List Int):Uu none s=true↔OK s:=by
 grind [Apq]
theorem OK.length_le (h:OK s):s.length<=512:=by
 have:∀ (s:List Int) (a:Int),s.Pairwise (· <·)->(∀ x∈s,a<=x/\x<512)->a<=512->(s.length:Int)<=512-a:=by
  intro s
  induction s with
  | nil=>simp_all
  | cons x r ih =>
   intro a hp hb ha;rw[aAP]at hp;have hx:=hb x (by simp)
   have:=ih (x+1) hp.2 (λy hy=>⟨by grind,(hb y (by simp[hy])).2⟩) (by omega)
   grind
 have:=this s 0 h.1 h.2 (by omega)
 omega
theorem AcJ (n m:Int):∀ s,m∈Uv n s↔m=n\/m∈s
 | []=>by simp[Uv]
 | x::r=>by
  simp only[Uv];split
  ·simp only[aAe,AcJ n m r]
   grind
  grind
theorem OK.Uv {n:Int} (h:OK s) (hn:0<=n/\n<512):OK (Proofs.YtcaoepecbgggcaaGreatDoor.Uv n s):=by
 refine⟨?_,λx hx=>?_⟩
 ·replace h:=h.1;clear hn
  induction s<;>grind [Proofs.YtcaoepecbgggcaaGreatDoor.Uv,aAP,AcJ]
 ·rw[AcJ]at hx;rcases hx with rfl|hx
  ·exact hn
  ·exact h.2 x hx
theorem OK.nil:OK []:=⟨List.Pairwise.nil,λx hx=>by cases hx⟩
theorem Agp (n:Int):Qe n=some (decide (0<=n/\n<512)):=by
 grind [Qe]
theorem AgO {n:Int} (h:0<=n/\n<512):Qe n=some true:=by grind [Agp]
theorem AqQ {n:Int} (h:¬ (0<=n/\n<512)):Qe n=some false:=by grind [Agp]
theorem AnH (s:List Int) (hs:s.length<=9223372036854775807):YO s=some (Uu none s):=by
 refine RT s (λ(_:Option Int) i=>i) (λp i=>match i with|0=>p=none|k+1=>s[k]? =p/\p≠none) (λp l=>some (Uu p l)) (λ_ _=>⟨true,by simp[SP],by simp[Uu]⟩) (λp i x r hp hd hi hx=>?_) none rfl
 obtain⟨_,rfl⟩:=aAB.1 hx
 by_cases hg:0<=s[i]/\s[i]<512
 ·cases i with
  | zero =>
   subst hp;exact .inl ⟨some s[0],⟨hx,by simp⟩,by simp[SP,hi,AgO hg],by grind [Uu]⟩
  | succ k =>
   obtain⟨hp,hpn⟩:=hp;have hk:k<s.length:=by omega
   rw[aAA hk]at hp;subst hp;have w:IntKind.i64.wrap ((k:Int)+1+1)=(k:Int)+1+1:=wrap64 (by omega) (by omega)
   have wp:IntKind.i64.wrap (k:Int)=k:=wrap64 (by omega) (by omega)
   have e0:(k:Int)+1-1=k:=by omega
   by_cases hlt:s[k]<s[k+1]
   ·exact .inl ⟨some s[k+1],⟨hx,by simp⟩,by simp[SP,hi,AgO hg,w,wp,e0,hk,show ¬ s[k+1]<=s[k]by omega,show(0:Int)<k+1 by omega,show(k:Int)+1<s.length by omega],by grind [Uu]⟩
   ·exact .inr ⟨false,by simp[SP,hi,AgO hg,w,wp,e0,hk,show s[k+1]<=s[k]by omega,show(0:Int)<k+1 by omega,show(k:Int)+1<s.length by omega],by grind [Uu]⟩
 ·exact .inr ⟨false,by simp_all[SP,AqQ],by grind [Uu]⟩
theorem Awt (a b:List Int) (h:a.length<=9223372036854775807):AbQ a b=some (decide (a=b)):=by
 unfold AbQ
 by_cases hl:a.length=b.length
 ·have:=RT (body:=λi:Int=>VS a b i) a (λ(_:List Int) i=>i) (λacc i=>b.drop i=acc) (λacc l=>some (decide (l=acc)))
   (λacc hacc=>⟨true,by simp[VS],by simp_all⟩) (λacc i x r hacc hd hi hx=>by
    have w:=NO (show i<9223372036854775807 by omega)
    obtain⟨_,rfl⟩:=aAB.1 hx;have hib:i<b.length:=by omega
    have hdb:=aAQ hib
    by_cases e:a[i]=b[i]
    ·exact .inl ⟨b.drop (i+1),rfl,by simp[VS,hi,hib,e,w],by rw[<- hacc,hdb];simp only[List.cons.injEq,e,true_and]⟩
    ·exact .inr ⟨false,by simp[VS,hi,hib,e],by rw[<- hacc,hdb];simp only[List.cons.injEq,e,false_and,decide_false]⟩)
   b (by simp)
  simp_all
 ·have:¬ a=b:=λe=>hl (by rw[e])
  grind
theorem AsM (a b:List (List Int)) (h:a.length<=9223372036854775807) (hr:∀ s∈a,s.length<=9223372036854775807):Yd a b=some (decide (a=b)):=by
 unfold Yd
 by_cases hl:a.length=b.length
 ·have:=RT (body:=λi:Int=>TH a b i) a (λ(_:List (List Int)) i=>i) (λacc i=>b.drop i=acc) (λacc l=>some (decide (l=acc)))
   (λacc hacc=>⟨true,by simp[TH],by simp_all⟩) (λacc i x r hacc hd hi hx=>by
    have w:=NO (show i<9223372036854775807 by omega)
    obtain⟨_,rfl⟩:=aAB.1 hx;have hib:i<b.length:=by omega
    have hdb:=aAQ hib;have hs:=Awt a[i] b[i] (hr _ (aAF _))
    by_cases e:a[i]=b[i]
    ·refine .inl ⟨b.drop (i+1),rfl,?_,by rw[<- hacc,hdb];simp only[List.cons.injEq,e,true_and]⟩
     rw[decide_eq_true e]at hs;simp[TH,hi,hib,hs,w]
    ·refine .inr ⟨false,?_,by rw[<- hacc,hdb];simp only[List.cons.injEq,e,false_and,decide_false]⟩
     rw[decide_eq_false e]at hs
     simp[TH,hi,hib,hs])
   b (by simp)
  simp_all
 ·have:¬ a=b:=λe=>hl (by rw[e])
  grind
theorem AtW (s:List Int) (n:Int) (hs:s.length<=16777215):Zi s n=some (s.filter (· != n)):=by
 unfold Zi;have:=RT (body:=λp:List Int×Int=>Uo s n p.1 p.2) s (λ(out:List Int) i=>(out,i)) (λout i=>out.length<=i) (λout l=>some (out++l.filter (· != n)))
  (λout _=>⟨out,by simp[Uo],by simp⟩) (λout i x r ho hd hi hx=>by
   have w:=NO (show i<9223372036854775807 by omega)
   obtain⟨_,rfl⟩:=aAB.1 hx;left
   by_cases h:s[i]=n
   ·exact⟨out,by omega,by simp_all[Uo],by simp[h]⟩
   ·exact⟨out++[s[i]],by simp;omega,by simp[Uo,hi,h,w,show out.length<=16777215 by omega],by simp[h]⟩)
  [] (by simp)
 simp_all
def QK (a b:List Int):List Int:=b.foldl (λo x=>QT x o) a
theorem AqS (n:Int) (s:List Int):(QT n s).length<=s.length+1:=by
 grind [QT,AkA]
theorem union_eq (a b:List Int) (h:a.length+b.length<=1000000):TV a b=some (QK a b):=by
 unfold TV QK;rw[OA (by simp;omega)]
 have:=RT (body:=λp:List Int×Int=>Xp b p.1 p.2) b (λ(out:List Int) i=>(out,i)) (λout i=>out.length<=a.length+i) (λout l=>some (l.foldl (λo x=>QT x o) out))
  (λout _=>⟨out,by simp[Xp],by simp⟩) (λout i x r ho hd hi hx=>by
   have w:=NO (show i<9223372036854775807 by omega)
   obtain⟨_,rfl⟩:=aAB.1 hx;have hl:=AqS b[i] out;left
   exact⟨QT b[i] out,by omega,by simp[Xp,hi,add_eq out b[i] (by omega),w],by simp⟩)
  a (by simp)
 simp_all
theorem AmF:∀ {a b:List Int},a.Pairwise (· <·)->b.Pairwise (· <·)->(∀ v∈a,v∈b)->a.Sublist b
 | [],_,_,_,_=>List.nil_sublist _
 | x::a,[],_,_,h=>by grind [aAJ]
 | x::a,y::b,ha,hb,h=>by
  rw[aAP]at ha hb
  by_cases e:x=y
  ·subst e;refine(AmF ha.2 hb.2 λv hv=>?_).cons_cons x
   grind
  ·have hx:x∈b:=by
    simp_all
   have hyx:=hb.1 x hx;refine(AmF (aAP.2 ha) hb.2 λv hv=>?_).cons y
   grind
theorem OK.sub {a b:List Int} (ha:OK a) (hb:OK b) (h:∀ v∈a,v∈b):a.Sublist b:=AmF ha.1 hb.1 h
theorem OK.ext {a b:List Int} (ha:OK a) (hb:OK b) (h:∀ v,v∈a↔v∈b):a=b :=
 (ha.sub hb λv hv=>(h v).1 hv).eq_of_length_le (hb.sub ha λv hv=>(h v).2 hv).length_le
theorem OK.filter {a:List Int} (ha:OK a) (p:Int->Bool):OK (a.filter p) :=
 ⟨ha.1.sublist List.filter_sublist,λx hx=>ha.2 x ((aAZ.1 hx).1)⟩
theorem Ot.AeS {n m:Int} (h:OK s/\∀ x∈s,x<n) (hm:0<=m/\m<n) (hn:n<=512):OK (QT m s)/\(∀ x∈QT m s,x<n)/\∀ v,v∈QT m s↔v=m\/v∈s:=by
 unfold QT;rw[if_pos (by omega)]
 refine⟨h.1.Uv (by omega),λx hx=>?_,λv=>AcJ _ _ _⟩
 grind [AcJ]
theorem UY {n:Int} (hn:n<=512):∀ {b a:List Int},(OK a/\∀ x∈a,x<n)->(∀ x∈b,0<=x/\x<n)->(OK (QK a b)/\∀ x∈QK a b,x<n)/\∀ v,v∈QK a b↔v∈a\/v∈b
 | [],a,ha,_=>⟨ha,λv=>by simp[QK]⟩
 | x::b,a,ha,hb=>by
  obtain⟨h1,h2,h3⟩:=Ot.AeS ha (hb x (aAJ ..)) hn;obtain⟨h4,h5⟩:=UY hn ⟨h1,h2⟩ λy hy=>hb y (aAK _ hy)
  grind [QK]
def TR (l:List Int) (p:Int->Prop):Prop:=OK l/\∀ v,v∈l↔(0<=v/\v<512)/\p v
theorem TR.eq {l m:List Int} {p q:Int->Prop} (h:TR l p) (k:TR m q) (e:∀ v,0<=v->v<512->(p v↔q v)):l=m :=
 h.1.ext k.1 λv=>by
  rw[h.2,k.2];simp_all
theorem TR.AlY {l:List Int} (h:OK l):TR l (· ∈l):=⟨h,λv=>⟨λk=>⟨h.2 v k,k⟩,λk=>k.2⟩⟩
theorem TR.mono {l:List Int} {p q:Int->Prop} (h:TR l p) (e:∀ v,0<=v->v<512->(p v↔q v)):TR l q :=
 ⟨h.1,λv=>by rw[h.2];simp_all⟩
abbrev BS:=NI
def RN (t:BS):Prop:=∀ w∈t.toList,WW w
theorem BS.len (t:BS):t.toList.length=8:=rfl
variable {t:BS}
def TX (t:BS) (i:Nat):Int:=(t.toList[i]?).getD 0
def hasB (t:BS) (v:Int):Bool:=Acz (TX t (v.toNat / 64)) (v.toNat % 64)
theorem Zo (h:i<8):t.toList[i]? =some (TX t i):=by
 have:t.toList[i]? =some (t.toList[i]'(show i<8 from h)):=aAA _
 grind [TX]
theorem RN.word (h:RN t) (hi:i<8):WW (TX t i):=h _ (aAD (Zo hi))
theorem Aod {j:Nat} {w:Int} (hi:i<8):TX (t.set i w) j=if i=j then w else TX t j:=by
 unfold TX;rw[RF,List.getElem?_set]
 by_cases h:i=j
 all_goals simp_all[NI.toList]
theorem RN.set (h:RN t) {w:Int} (hw:WW w):RN (t.set i w):=by
 intro x hx;rw[RF]at hx;rcases aAa hx with h1|rfl
 ·exact h x h1
 ·exact hw
theorem RN.zero:RN ⟨0,0,0,0,0,0,0,0⟩:=by
 intro w hw;simp[NI.toList]at hw;exact⟨by omega,by omega⟩
theorem Atw (v:Int):hasB ⟨0,0,0,0,0,0,0,0⟩ v=false:=by
 have:TX ⟨0,0,0,0,0,0,0,0⟩ (v.toNat / 64)=0:=by
  have hl:∀ i:Nat,(([0,0,0,0,0,0,0,0]:List Int)[i]?).getD 0=0:=by
   grind
  exact hl _
 simp_all[hasB,Acz]
theorem Apf (n:Int):0<=(IntKind.u64.wrap n).tmod 64/\(0<=n->n<512->((IntKind.u64.wrap n).tmod 64).toNat=n.toNat % 64):=by
 obtain⟨h0,h1⟩:=AwB n;rw[aAk h0];refine⟨by omega,λha hb=>?_⟩
 rw[Aun ⟨ha,by omega⟩]
 omega
theorem AsJ {n:Int} (h0:0<=n) (h1:n<512):IntKind.i64.wrap (n.tdiv 64)=((n.toNat / 64:Nat):Int):=by
 grind [wrap64]
theorem AwN {n:Int} (h0:0<=n) (h1:n<512):IntKind.u64.wrap (1*2 ^ (Nat.min ((IntKind.u64.wrap n).tmod 64).toNat IntKind.u64.bits))=((2 ^ (n.toNat % 64):Nat):Int):=by
 rw[(Apf n).2 h0 h1];have e:Nat.min (n.toNat % 64) IntKind.u64.bits=n.toNat % 64:=Nat.min_eq_left (by show n.toNat % 64<=64;omega)
 rw[e,Int.one_mul];have hp:2 ^ (n.toNat % 64)<18446744073709551616:=by
  have:=Nat.pow_lt_pow_right (a:=2) (by decide) (show n.toNat % 64<64 by omega)
  omega
 grind [AeI]
theorem ApZ (j:Nat) (h:j<64):2 ^ j<18446744073709551616:=by
 have:=Nat.pow_lt_pow_right (a:=2) (by decide) h
 omega
theorem Axg {n v:Int} (h0:0<=n) (h0':0<=v) (hne:v≠n) (h:n.toNat / 64=v.toNat / 64):v.toNat % 64≠n.toNat % 64:=by omega
theorem Aqa (ht:RN t) (n:Int) (b:Bool):Hs (Su t n b) λr=>RN r/\∀ v,0<=v->v<512->hasB r v=if v=n then b else hasB t v:=by
 refine .chk (Apf n).1 ?_;rw[Agp,aA]
 by_cases h:0<=n/\n<512
 ·rw[decide_eq_true h];obtain⟨h0,h1⟩:=h;have hi:n.toNat / 64<8:=by omega
  have hb:=AwN h0 h1;have hw:=ht.word hi;have hp:WW ((2 ^ (n.toNat % 64):Nat):Int):=WW.nat (ApZ _ (by omega))
  have fin:∀ (x:Nat),x<18446744073709551616->(∀ j,j<64->x.testBit j=if j=n.toNat % 64 then b else(TX t (n.toNat / 64)).toNat.testBit j) ->
    RN (t.set (n.toNat / 64) (x:Int))/\∀ v,0<=v->v<512->hasB (t.set (n.toNat / 64) (x:Int)) v=if v=n then b else hasB t v:=by
   intro x hx hbit;refine⟨ht.set (WW.nat hx),λv hv0 hv1=>?_⟩
   unfold hasB;rw[Aod hi]
   by_cases he:v=n
   ·subst he;rw[if_pos rfl,if_pos rfl];show(x:Int).toNat.testBit _=b;rw[aAC,hbit _ (by omega),if_pos rfl]
   ·rw[if_neg he]
    by_cases hq:n.toNat / 64=v.toNat / 64
    ·rw[if_pos hq];show(x:Int).toNat.testBit _=_;rw[aAC,hbit _ (by omega),if_neg (Axg h0 hv0 he hq),hq]
     rfl
    simp_all
  cases b with
  | true =>
   simp only[aAY,cond_false,cond_true];rw[AsJ h0 h1];refine .chk (by omega) ?_
   rw[aAC,Zo hi,aA];refine .chk (by omega) ?_
   rw[aA];refine .pure ?_;rw[hb,Axl hw hp,aAC];refine fin _ (AtK hw.toNat_lt (ApZ _ (by omega))) λj hj=>?_
   rw[Nat.testBit_or,Nat.testBit_two_pow]
   grind
  | false =>
   simp only[aAY,cond_false];rw[AsJ h0 h1];refine .chk (by omega) ?_
   rw[aAC,Zo hi,aA];refine .chk (by omega) ?_
   rw[aA];refine .pure ?_;rw[hb,Apn hw hp,aAC];refine fin _ (AmE hw.toNat_lt) λj hj=>?_
   rw[ApB hw.toNat_lt (ApZ _ (by omega)),Nat.testBit_two_pow]
   grind
 ·rw[decide_eq_false h];exact .pure ⟨ht,λv h0 h1=>by grind⟩
theorem AeD (l:List Int) (hl:l.length<=9000000000000000000):Hs (QC l) λr=>RN r/\∀ v,0<=v->v<512->hasB r v=decide (v∈l):=by
 refine Hs.loop (λs=>RN s.1/\∃ k:Nat,s.2=(k:Int)/\k<=l.length/\∀ v,0<=v->v<512->hasB s.1 v=decide (v∈l.take k)) (λs=>l.length-s.2.toNat) ⟨RN.zero,0,rfl,aAE _,λv _ _=>by simp[Atw]⟩ ?_
 rintro⟨t,k'⟩ ⟨ht,k,hk',hk,hall⟩;subst hk';refine .dec (λhlt=>?_) λhge=>?_
 ·have hlt:k<l.length:=by omega
  refine Hs.bind (P:=λx=>l[k]? =some x) ⟨l[k],by simp[hlt],by simp[hlt]⟩ λx hx=>(Aqa ht x true).bind λr hr=>.cnt ?_
  rw[NO (by omega)]
  refine⟨⟨hr.1,k+1,rfl,hlt,λv h0 h1=>?_⟩,by grind⟩
  grind [aAV]
 ·have:k=l.length:=by omega
  subst this;exact .lft (.pure ⟨ht,λv h0 h1=>by simp_all⟩)
theorem OK.snoc {l:List Int} (h:OK l) {z:Int} (h0:0<=z/\z<512) (hz:∀ x∈l,x<z):OK (l++[z]):=by
 refine⟨List.pairwise_append.2 ⟨h.1,List.pairwise_singleton _ _,λa ha b hb=>?_⟩,λx hx=>?_⟩
 ·simp_all
 ·simp only[aAb,aAi]at hx;rcases hx with h1|rfl
  ·exact h.2 x h1
  ·exact h0
theorem AbE (ht:RN t):Hs (Qz t) λr=>r.2=t/\TR r.1 (λv=>hasB t v=true):=by
 refine Hs.loop (λs=>∃ i:Nat,s.2=(i:Int)/\i<=8/\TR s.1 (λv=>v<64*i/\hasB t v=true)) (λs=>8-s.2.toNat) ⟨0,rfl,by omega,⟨OK.nil,λv=>by simp;omega⟩⟩ ?_
 rintro⟨l,i'⟩ ⟨i,hi',hi,hs⟩;subst hi';refine .dec (λhlt=>?_) λhge=>?_
 ·have hlt:i<8:=by omega
  refine .chk (by omega) ?_
  rw[aAC,Zo hlt,aA];have hw:=ht.word hlt;refine Hs.loop (λs=>WW s.2/\∃ c:Nat,c<=64/\TR s.1 (λv=>v<64*i+c/\hasB t v=true)/\∀ j,j<64->Acz s.2 j=(decide (c<=j)&&Acz (TX t i) j)) (λs=>s.2.toNat) ⟨hw,0,by omega,by simp_all,λj _=>by simp⟩ ?_
  rintro⟨m,x⟩ ⟨hx,c,hc,hm,hb⟩;simp only at hx hm hb;refine .bne (λhne=>?_) λhe=>?_
  ·have hx0:0<x.toNat:=by have:=hx.1;omega
   obtain⟨k1,k2,k3,k4⟩:=Avd hx0 hx.toNat_lt;generalize hk:Lib.ctz 64 x.toNat=k at k1 k2 k3 k4;have ek:Aiq x=some (k:Int):=by
    unfold Aiq;rw[OA (show 0<=x/\x<18446744073709551616 from hx),hk]
   rw[ek,aA];have hck:c<=k:=by
    grind [Acz]
   have hwk:Acz (TX t i) k=true:=by
    grind [Acz]
   have e1:IntKind.i64.wrap (IntKind.i64.wrap (64*(i:Int))+(k:Int))=((64*i+k:Nat):Int):=by
    grind [wrap64]
   have e2:IntKind.u64.wrap (x-1)=x-1:=Aun ⟨by omega,by have:=hx.2;omega⟩
   have e3:(x-1).toNat=x.toNat-1:=by omega
   have hz:∀ v∈m,v<((64*i+k:Nat):Int):=λv hv=>by
    have:=((hm.2 v).1 hv).2.1;omega
   have hlen:=hm.1.length_le;refine .chk (by simp;omega) (.cnt ?_)
   rw[e1,e2,AvL hx ⟨by omega,by have:=hx.2;omega⟩,e3]
   refine⟨⟨WW.nat (AmE hx.toNat_lt),k+1,by omega,⟨hm.1.snoc (by omega) hz,λv=>?_⟩,λj hj=>?_⟩,?_⟩
   ·simp only[aAb,aAi,hm.2];constructor
    ·grind [hasB]
    ·rintro⟨a,b,d⟩
     by_cases e:v=((64*i+k:Nat):Int)
     ·exact .inr e
     ·refine .inl ⟨a,?_,d⟩
      grind [Acz,hasB]
   ·simp only;unfold Acz;rw[aAC,k4]
    grind [Acz]
   grind [Nat.and_le_right]
  ·have he:x=0:=he;subst he;refine .lft (.cnt ?_);rw[NO (by omega)]
   refine⟨⟨i+1,rfl,hlt,hm.mono λv h0 h1=>⟨λ⟨a,b⟩=>⟨by omega,b⟩,λ⟨a,b⟩=>⟨?_,b⟩⟩⟩,by grind⟩
   grind [hasB,Acz]
 ·have:i=8:=by omega
  exact .lft (.pure ⟨rfl,hs.mono λv h0 h1=>⟨λh=>h.2,λh=>⟨by omega,h⟩⟩⟩)
theorem Auq {x y:Int} (hx:WW x) (hy:WW y):Xe x y=some ((x.toNat ||| y.toNat:Nat):Int):=by
 grind [Xe,Axl]
theorem AtH {x y:Int} (hx:WW x) (hy:WW y):Xd x y=some ((ApA x.toNat y.toNat:Nat):Int):=by
 grind [Xd,Apn]
theorem ArY {s:BS} (hs:RN s) (ht:RN t) (g:Nat->Nat->Nat) (hg:∀ x y,x<18446744073709551616->y<18446744073709551616->g x y<18446744073709551616) (p:Bool->Bool->Bool) (hp:∀ x y j,x<18446744073709551616->y<18446744073709551616->j<64->(g x y).testBit j=p (x.testBit j) (y.testBit j)) {body:BS×Int->Option ((BS×Int)⊕(BS×BS×BS))} (hend:∀ x,body (x,8)=some (.inr (x,s,t))) (hstep:∀ x (i:Nat),i<8->body (x,(i:Int))=some (.inl (x.set i ((g (TX s i).toNat (TX t i).toNat:Nat):Int),((i+1:Nat):Int)))) :
  Hs (NW body (⟨0,0,0,0,0,0,0,0⟩,0)) λr=>RN r.1/\∀ v,0<=v->v<512->hasB r.1 v=p (hasB s v) (hasB t v):=by
 refine Hs.loop (λq=>RN q.1/\∃ i:Nat,q.2=(i:Int)/\i<=8/\∀ j,j<i->TX q.1 j=((g (TX s j).toNat (TX t j).toNat:Nat):Int)) (λq=>8-q.2.toNat) ⟨RN.zero,0,rfl,by omega,λj hj=>by omega⟩ ?_
 rintro⟨x,i'⟩ ⟨hx,i,hi',hi,hall⟩;subst hi'
 by_cases hlt:i<8
 ·refine⟨_,hstep x i hlt,⟨hx.set (WW.nat (hg _ _ (hs.word hlt).toNat_lt (ht.word hlt).toNat_lt)),i+1,rfl,hlt,λj hj=>?_⟩,by grind⟩
  simp only;rw[Aod hlt]
  grind
 ·obtain rfl:i=8:=by omega
  refine⟨_,hend x,hx,λv h0 h1=>?_⟩
  have hv:v.toNat / 64<8:=by omega
  unfold hasB;rw[hall _ hv];unfold Acz;rw[aAC,hp _ _ _ (hs.word hv).toNat_lt (ht.word hv).toNat_lt (by omega)]
theorem Apa {s:BS} (hs:RN s) (ht:RN t):Hs (RP s t) λr=>RN r.1/\∀ v,0<=v->v<512->hasB r.1 v=(hasB s v||hasB t v):=by
 refine ArY hs ht (· ||| ·) (λx y=>AtK) (· ||·) (λx y j _ _ _=>Nat.testBit_or ..) (λx=>by simp[Rn]) λx i hi=>?_
 have w:=NO (show i<9223372036854775807 by omega)
 simp[Rn,Zo hi,Auq (hs.word hi) (ht.word hi),w,show(i:Int)<8 by omega]
theorem AoZ {s:BS} (hs:RN s) (ht:RN t):Hs (RO s t) λr=>RN r.1/\∀ v,0<=v->v<512->hasB r.1 v=(hasB s v&& !hasB t v):=by
 refine ArY hs ht ApA (λx y hx _=>AmE hx) (λa b=>a&& !b) (λx y j hx hy _=>ApB hx hy) (λx=>by simp[Rm]) λx i hi=>?_
 have w:=NO (show i<9223372036854775807 by omega)
 simp[Rm,Zo hi,AtH (hs.word hi) (ht.word hi),w,show(i:Int)<8 by omega]
theorem Apt (l:List Int) (hl:l.length<=9000000000000000000):Hs (YP l) λr=>TR r (· ∈l):=by
 exact(AeD l hl).bind λr hr=>(AbE hr.1).bind λq hq=>.pure (hq.2.mono λv h0 h1=>by simp_all)
theorem Apv (l:List Int) (n:Int) (hl:l.length<=9000000000000000000):Hs (VN l n) λr=>TR r (λv=>v∈l/\v≠n):=by
 unfold VN;refine(AeD l hl).bind λr hr=>(Aqa hr.1 n false).bind λu hu=>(AbE hu.1).bind λq hq=>.pure (hq.2.mono λv h0 h1=>?_)
 grind
theorem AqX (a b:List Int) (ha:a.length<=9000000000000000000) (hb:b.length<=9000000000000000000):Hs (TY a b) λr=>TR r (λv=>v∈a\/v∈b):=by
 unfold TY;refine(AeD a ha).bind λr hr=>(AeD b hb).bind λu hu=>(Apa hr.1 hu.1).bind λx hx=>(AbE hx.1).bind λq hq=>.pure (hq.2.mono λv h0 h1=>?_)
 simp_all
theorem AqW (a b:List Int) (ha:a.length<=9000000000000000000) (hb:b.length<=9000000000000000000):Hs (Xc a b) λr=>TR r (λv=>v∈a/\v∉b):=by
 unfold Xc;refine(AeD a ha).bind λr hr=>(AeD b hb).bind λu hu=>(AoZ hr.1 hu.1).bind λx hx=>(AbE hx.1).bind λq hq=>.pure (hq.2.mono λv h0 h1=>?_)
 simp_all
theorem Apu (hs:OK s) (n:Int):VN s n=some (s.filter (· != n)):=by
 obtain⟨r,h1,h2⟩:=Apv s n (by have:=hs.length_le;omega)
 rw[h1,h2.eq (TR.AlY (hs.filter (· != n))) λv _ _=>by simp_all]
theorem Agt {a b:List Int} (ha:OK a) (hb:∀ x∈b,0<=x/\x<512) (hl:b.length<=1000):TY a b=some (QK a b):=by
 obtain⟨r,h1,h2⟩:=AqX a b (by have:=ha.length_le;omega) (by omega)
 obtain⟨h3,h4⟩:=UY (n:=512) (by omega) (b:=b) ⟨ha,λx hx=>(ha.2 x hx).2⟩ hb
 rw[h1,h2.eq (TR.AlY h3.1) λv _ _=>by rw[h4]]
theorem AuF {b:List Int} (hb:∀ x∈b,0<=x/\x<512) (hl:b.length<=1000):YP b=some (QK [] b):=by
 obtain⟨r,h1,h2⟩:=Apt b (by omega)
 obtain⟨h3,h4⟩:=UY (n:=512) (by omega) (b:=b) ⟨OK.nil,λx hx=>by cases hx⟩ hb
 rw[h1,h2.eq (TR.AlY h3.1) λv _ _=>by simp_all]
def AdB (s:NS):Prop:=s.Size∈([8,4,8,1,2,16,8]:List Int)/\s.Align∈([8,4,1,8,16,2,32,64]:List Int)
def W64 (w:Int):Prop:=0<=w/\w<18446744073709551616
def Reg (a:Int):Prop:=0<=a/\a<4
def Auw (sl:List NS) (a b:Int):Prop:=0<=a/\a<sl.length/\∃ x y,sl[a.toNat]? =some x/\sl[b.toNat]? =some y/\x.Size=y.Size
inductive TO (sl:List NS) (np i:Int) (ps:List Int) (T:Int->Prop):NH->Prop
 | store (a b:Int):0<=a->a<sl.length->Reg b->TO sl np i ps T ⟨16,a,b,0,0⟩
 | load (a b:Int):Reg a->0<=b->b<sl.length->TO sl np i ps T ⟨15,a,b,0,0⟩
 | move (a b:Int):Auw sl a b->0<=b->b<sl.length->TO sl np i ps T ⟨17,a,b,0,0⟩
 | const (a w:Int):Reg a->W64 w->TO sl np i ps T ⟨0,a,0,0,w⟩
 | bin (op a b c:Int):2<=op->op<12->Reg a->Reg b->0<=c->c<8->TO sl np i ps T ⟨op,a,b,c,0⟩
 | out (a:Int):Reg a->TO sl np i ps T ⟨14,a,0,0,0⟩
 | un (op a:Int):(op=13\/op=12\/op=1)->Reg a->TO sl np i ps T ⟨op,a,0,0,0⟩
 | param (a b:Int):Reg a->0<=b->b<np->TO sl np i ps T ⟨19,a,b,0,0⟩
 | arg (a b:Int):0<=a->a<4->Reg b->TO sl np i ps T ⟨18,a,b,0,0⟩
 | call (j:Int):i<j->j<ps.length->TO sl np i ps T ⟨22,j,0,0,0⟩
 | jump (t:Int):T t->TO sl np i ps T ⟨20,t,0,0,0⟩
 | branch (a t:Int):Reg a->T t->TO sl np i ps T ⟨21,a,t,0,0⟩
def Asb (ps:List Int):Prop:=(∀ v∈ps,0<=v/\v<4)/\ps.length<=1000
theorem TO.mono {np i:Int} {T T':Int->Prop} (h:TO sl np i ps T x) (hT:∀ t,T t->T' t):TO sl np i ps T' x:=by
 cases h with
 | store a b h1 h2 h3=>exact .store a b h1 h2 h3
 | load a b h1 h2 h3=>exact .load a b h1 h2 h3
 | move a b h1 h2 h3=>exact .move a b h1 h2 h3
 | const a w h1 h2=>exact .const a w h1 h2
 | bin op a b c h1 h2 h3 h4 h5 h6=>exact .bin op a b c h1 h2 h3 h4 h5 h6
 | out a h1=>exact .out a h1
 | un op a h1 h2=>exact .un op a h1 h2
 | param a b h1 h2 h3=>exact .param a b h1 h2 h3
 | arg a b h1 h2 h3=>exact .arg a b h1 h2 h3
 | call j h1 h2=>exact .call j h1 h2
 | jump t h1=>exact .jump t (hT t h1)
 | branch a t h1 h2=>exact .branch a t h1 (hT t h2)
def AlA (x:NH):Prop:=x=⟨23,0,0,0,0⟩\/∃ w,W64 w/\x=⟨24,0,0,0,w⟩
def Ala (x:NH) (t:Int):NH :=
 if x.Op=20/\x.A<0 then⟨x.Op,t,x.B,x.C,x.Imm⟩else if x.Op=21/\x.B<0 then⟨x.Op,x.A,t,x.C,x.Imm⟩else x
theorem AlA.fix (h:AlA x) (t:Int):Ala x t=x:=by
 rcases h with rfl|⟨w,_,rfl⟩<;>simp[Ala]
theorem TO.fix {np i:Int} {T:Int->Prop} (h:TO sl np i ps (· = -1) x) {t:Int} (ht:T t):TO sl np i ps T (Ala x t):=by
 cases h with
 | store a b h1 h2 h3=>exact .store a b h1 h2 h3
 | load a b h1 h2 h3=>exact .load a b h1 h2 h3
 | move a b h1 h2 h3=>exact .move a b h1 h2 h3
 | const a w h1 h2=>exact .const a w h1 h2
 | bin op a b c h1 h2 h3 h4 h5 h6 =>
  have:Ala ⟨op,a,b,c,0⟩ t=⟨op,a,b,c,0⟩:=by grind [Ala]
  rw[this];exact .bin op a b c h1 h2 h3 h4 h5 h6
 | out a h1=>exact .out a h1
 | un op a h1 h2 =>
  have:Ala ⟨op,a,0,0,0⟩ t=⟨op,a,0,0,0⟩:=by grind [Ala]
  rw[this];exact .un op a h1 h2
 | param a b h1 h2 h3=>exact .param a b h1 h2 h3
 | arg a b h1 h2 h3=>exact .arg a b h1 h2 h3
 | call j h1 h2=>exact .call j h1 h2
 | jump q h1=>subst h1;exact .jump t ht
 | branch a q h1 h2=>subst h2;exact .branch a t h1 ht
structure UA (ps:List Int) (i most:Int) (f:Lo):Prop where
 par:ps[i.toNat]? =some f.Params
 slots:f.Slots.length<=6
 slot:∀ s∈f.Slots,AdB s
 len:1<=f.Code.length
 len':(f.Code.length:Int)<=7+5*most
 body:∀ (k:Nat) x,f.Code[k]? =some x->k+1<f.Code.length->TO f.Slots f.Params i ps (λt=>0<=t/\t<f.Code.length) x
 last:∀ x,f.Code[f.Code.length-1]? =some x->AlA x
def AsT (funcs most:Int) (p:NM):Prop :=
 ∃ ps,Asb ps/\ps[0]? =some 0/\1<=ps.length/\(ps.length:Int)<=funcs/\p.Funcs.length=ps.length/\∀ (j:Nat) f,p.Funcs[j]? =some f->UA ps j most f
def QW (x:NH) (k:Int):List Int :=
 if x.Op=20 then[x.A]else if x.Op=23\/x.Op=24 then[]else
 if x.Op=21 then(if x.B<k+1 then[x.B,k+1]else if k+1<x.B then[k+1,x.B]else[k+1])else[k+1]
theorem Aqv {k:Nat} (h:f.Code[k]? =some x) (hk:k<9223372036854775807):ZB f (k:Int)=some (QW x k):=by
 obtain⟨hl,hx⟩:=aAB.1 h;have hnl:¬ f.Code.length<=k:=by omega
 have w:IntKind.i64.wrap ((k:Int)+1)=(k:Int)+1:=wrap64 (by omega) (by omega)
 unfold ZB AaB QW;obtain⟨op,a,b,c,i⟩:=x
 by_cases h20:op=20
 ·subst h20;simp[hx,hl,hnl,show ¬ (k:Int)<0 by omega]
 ·by_cases h23:op=23
  ·simp_all[Rz]
  ·by_cases h24:op=24
   ·simp_all[Rz]
   ·by_cases h21:op=21
    ·subst h21
     by_cases hb:b<(k:Int)+1
     ·simp[hx,hl,hnl,show ¬ (k:Int)<0 by omega,Rz,w,hb]
     ·by_cases hb':(k:Int)+1<b
      ·simp[hx,hl,hnl,show ¬ (k:Int)<0 by omega,Rz,w,hb,hb']
      ·simp[hx,hl,hnl,show ¬ (k:Int)<0 by omega,Rz,w,hb,hb']
    ·simp[hx,hl,hnl,show ¬ (k:Int)<0 by omega,Rz,w,h20,h23,h24,h21]
def Pk (x:NH):List Int:=if x.Op=15\/x.Op=17 then[x.B]else[]
structure On (f:Lo):Prop where
 len:1<=f.Code.length
 len':f.Code.length<=10000
 slots:f.Slots.length<=500
 next:∀ (k:Nat) x,f.Code[k]? =some x->∀ j∈QW x k,0<=j/\j<f.Code.length
 uses:∀ x∈f.Code,∀ v∈Pk x,0<=v/\v<f.Slots.length
theorem UA.SS {i most:Int} (h:UA ps i most f) (hm:most<=1000):On f:=by
 have hl:=h.len;have hl':=h.len';have hs:=h.slots;refine⟨hl,by omega,by omega,λk x hx j hj=>?_,λx hx v hv=>?_⟩
 ·have hkl:=(aAB.1 hx).1
  by_cases hk:k+1<f.Code.length
  ·have hins:=h.body k x hx hk;cases hins<;>grind [QW]
  ·have he:=h.last x (by grind)
   rcases he with rfl|⟨w,_,rfl⟩<;>simp[QW]at hj
 ·obtain⟨k,hk⟩:=aAH hx;have hkl:=(aAB.1 hk).1
  by_cases hk1:k+1<f.Code.length
  ·have hins:=h.body k x hk hk1;cases hins<;>grind [Pk]
  ·have he:=h.last x (by grind)
   rcases he with rfl|⟨w,_,rfl⟩<;>simp[Pk]at hv
def Ot (n:Int) (s:List Int):Prop:=OK s/\∀ x∈s,x<n
theorem Ot.nil (n:Int):Ot n []:=⟨OK.nil,λx hx=>by cases hx⟩
theorem Ot.add {n m:Int} (h:Ot n s) (hm:0<=m/\m<n) (hn:n<=512):Ot n (QT m s)/\Wm s m=some (QT m s):=by
 have hl:=h.1.length_le;refine⟨?_,add_eq s m (by omega)⟩
 unfold QT;rw[if_pos (by omega)]
 refine⟨h.1.Uv (by omega),λx hx=>?_⟩
 rw[AcJ]at hx;rcases hx with rfl|hx
 ·exact hm.2
 ·exact h.2 x hx
def RowsIn (n:Int) (g:List (List Int)):Prop:=∀ s∈g,Ot n s
theorem RowsIn.set {n:Int} (h:RowsIn n g) (hs:Ot n s):RowsIn n (g.set i s):=by
 intro x hx;rcases aAa hx with h1|rfl
 ·exact h x h1
 ·exact hs
def inN (x:NH) (s:List Int):List Int:=QK (if x.Op=16\/x.Op=17 then s.filter (· != x.A)else s) (Pk x)
theorem AvO (x:NH) (s:List Int) (h:s.length<=900000):AcW x s=some (inN x s):=by
 obtain⟨op,a,b,c,i⟩:=x;have hu:UW ⟨op,a,b,c,i⟩=some (Pk ⟨op,a,b,c,i⟩):=by
  grind [UW,Pk]
 have hul:(Pk ⟨op,a,b,c,i⟩).length<=1:=by grind [Pk]
 have hfl:(s.filter (· != a)).length<=s.length:=List.length_filter_le ..;have hr:=AtW s a (by omega)
 grind [union_eq,AcW,Sl,RU,inN]
theorem AcG (hf:On f) (hx:x∈f.Code) (hs:Ot f.Slots.length s) :
  Ot f.Slots.length (inN x s)/\∀ v,v∈inN x s↔(v∈s/\¬ ((x.Op=16\/x.Op=17)/\x.A=v))\/v∈Pk x:=by
 have hsl:=hf.slots;have h0:Ot f.Slots.length (if x.Op=16\/x.Op=17 then s.filter (· != x.A)else s):=by
  split
  ·exact⟨hs.1.filter _,λv hv=>hs.2 v (aAZ.1 hv).1⟩
  ·exact hs
 obtain⟨h1,h2⟩:=UY (n:=f.Slots.length) (by omega) (b:=Pk x) h0 (hf.uses x hx)
 refine⟨h1,λv=>?_⟩
 unfold inN
 grind
def NJ (f:Lo) (j:Int):NH:=(f.Code[j.toNat]?).getD default
def Oc (l:List (List Int)) (j:Int):List Int:=(l[j.toNat]?).getD []
def Yr (f:Lo) (l:List (List Int)) (k:Int):List Int:=(QW (NJ f k) k).foldl (λo j=>QK o (inN (NJ f j) (Oc l j))) []
def TW (f:Lo) (l:List (List Int)):List (List Int):=(List.range f.Code.length).map λk=>Yr f l (k:Nat)
def RC (f:Lo) (l:List (List Int)):Prop:=l.length=f.Code.length/\∀ s∈l,Ot f.Slots.length s
theorem ApJ {f:Lo} (hf:On f) {l:List (List Int)} (hl:RC f l):∀ {js:List Int} {o:List Int},(∀ j∈js,0<=j/\j<f.Code.length)->Ot f.Slots.length o ->
  Ot f.Slots.length (js.foldl (λo j=>QK o (inN (NJ f j) (Oc l j))) o)/\∀ v,v∈js.foldl (λo j=>QK o (inN (NJ f j) (Oc l j))) o↔v∈o\/∃ j∈js,v∈inN (NJ f j) (Oc l j)
 | [],o,_,ho=>⟨ho,λv=>by simp⟩
 | j::js,o,hj,ho=>by
  have hsl:=hf.slots;have h0:=hj j (aAJ ..);have hc:NJ f j∈f.Code:=by
   grind [NJ]
  have ho':Ot f.Slots.length (Oc l j):=by
   unfold Oc;rw[aAA (show j.toNat<l.length by have:=hl.1;omega)]
   exact hl.2 _ (aAF _)
  obtain⟨h1,h2⟩:=AcG hf hc ho';obtain⟨h3,h4⟩:=UY (n:=f.Slots.length) (by omega) (b:=inN (NJ f j) (Oc l j)) ho λx hx=>⟨(h1.1.2 x hx).1,h1.2 x hx⟩
  obtain⟨h5,h6⟩:=ApJ hf hl (λq hq=>hj q (aAK _ hq)) h3
  grind
theorem Aax (hf:On f) (hl:RC f l) {k:Nat} (hk:k<f.Code.length) :
  Ot f.Slots.length (Yr f l k)/\∀ v,v∈Yr f l k↔∃ j∈QW (NJ f k) k,v∈inN (NJ f j) (Oc l j):=by
 have hx:f.Code[k]? =some (NJ f k):=by grind [NJ]
 obtain⟨h1,h2⟩:=ApJ hf hl (js:=QW (NJ f k) k) (hf.next k _ hx) (Ot.nil _)
 grind [Yr]
theorem AqK (hf:On f) (hl:RC f l):RC f (TW f l):=by
 refine⟨by simp[TW],λs hs=>?_⟩
 obtain⟨k,hk,rfl⟩:=List.mem_map.1 hs
 grind [Aax]
theorem step_eq (hf:On f) (hl:RC f l):AbS f ⟨l⟩=some ⟨TW f l⟩:=by
 have hlen:=hf.len';unfold AbS;rw[OA (by omega)]
 have key:Hs (NW (λs:List (List Int)×Int=>Ye f ⟨l⟩ s.1 s.2) (List.replicate (f.Code.length:Int).toNat ([]:List Int),0)) λr=>r=⟨TW f l⟩:=by
  refine Hs.loop (λs=>s.1.length=f.Code.length/\∃ k:Nat,s.2=(k:Int)/\k<=f.Code.length/\∀ (j:Nat) r,s.1[j]? =some r->r=if j<k then Yr f l j else[]) (λs=>f.Code.length-s.2.toNat) ⟨by simp,0,rfl,aAE _,λj r hj=>?_⟩ ?_
  ·grind
  rintro⟨x,k'⟩ ⟨hxl,k,hke,hk,hall⟩;simp only at hxl hke hall;subst hke
  by_cases hlt:k<f.Code.length
  ·have w:=NO (show k<9223372036854775807 by omega)
   have hx:f.Code[k]? =some (NJ f k):=by grind [NJ]
   have hxk:x[k]? =some []:=by
    grind
   have hset:x.set k []=x:=by
    grind [List.set_getElem_self]
   have inner:=RT (body:=λs:List (List Int)×Int=>Yf (QW (NJ f k) k) k f ⟨l⟩ s.1 s.2) (QW (NJ f k) k) (λ(o:List Int) i=>(x.set k o,i)) (λo _=>Ot f.Slots.length o)
    (λo js=>some (.inl (x.set k (js.foldl (λo j=>QK o (inN (NJ f j) (Oc l j))) o),((k+1:Nat):Int))))
    (λo _=>⟨_,by simp[Yf,AaC,w];rfl,by simp⟩) (λo i j r ho hd hi hj=>by
     left
     have wi:=NO (show i<9223372036854775807 by
      grind [QW])
     have hjm:=hf.next k _ hx j (aAD hj);have hjc:f.Code[j.toNat]? =some (NJ f j):=by grind [NJ]
     have hjl:j.toNat<l.length:=by have:=hl.1;omega
     have hjo:l[j.toNat]? =some (Oc l j):=by grind [Oc]
     have hos:Ot f.Slots.length (Oc l j):=hl.2 _ (aAD hjo);have hsl:=hf.slots;obtain⟨g1,g2⟩:=AcG hf (aAD hjc) hos;obtain⟨g3,g4⟩:=UY (n:=f.Slots.length) (by omega) (b:=inN (NJ f j) (Oc l j)) ho λx hx=>⟨(g1.1.2 x hx).1,g1.2 x hx⟩
     have e1:=AvO (NJ f j) (Oc l j) (by have:=hos.1.length_le;omega)
     have e2:=union_eq o (inN (NJ f j) (Oc l j)) (by have:=ho.1.length_le;have:=g1.1.length_le;omega)
     obtain⟨_,hje⟩:=aAB.1 hj;refine⟨QK o (inN (NJ f j) (Oc l j)),g3,?_,by simp⟩
     simp_all[Yf,Pu]) [] (Ot.nil _)
   simp only[hset]at inner;refine⟨.inl (x.set k (Yr f l k),((k+1:Nat):Int)),?_,⟨by simp_all,k+1,rfl,hlt,λj r hj=>?_⟩,by grind⟩
   ·simp only[Ye,decide_eq_true (Int.ofNat_lt.2 hlt),cond_true,Aqv hx (by omega),aA]
    exact inner
   grind
  ·refine⟨.inr ⟨x⟩,by simp[Ye,hlt],?_⟩
   congr 1;refine List.ext_getElem (by grind [TW]) λj h1 h2=>?_
   have:=hall j _ (aAA h1);rw[this,if_pos (by omega)]
   simp[TW]
 obtain⟨r,h1,rfl⟩:=key;exact h1
def LE (a b:List (List Int)):Prop:=∀ (k:Nat) s t,a[k]? =some s->b[k]? =some t->∀ v∈s,v∈t
theorem LE.trans {a b c:List (List Int)} (h1:LE a b) (h2:LE b c) (hl:a.length=b.length):LE a c:=by
 intro k s t hs ht v hv;have hk:=(aAB.1 hs).1;have hb:b[k]? =some (b[k]'(by omega)):=aAA _
 exact h2 k _ t hb ht v (h1 k s _ hs hb v hv)
theorem Auj:∀ {a b:List (List Int)},a.length=b.length->(∀ s∈a,OK s)->(∀ s∈b,OK s)->LE a b->(a.map List.length).sum<=(b.map List.length).sum/\((a.map List.length).sum=(b.map List.length).sum->a=b)
 | [],[],_,_,_,_=>⟨aAO _,λ_=>rfl⟩
 | [],y::b,h,_,_,_=>by simp at h
 | x::a,[],h,_,_,_=>by simp at h
 | x::a,y::b,h,ha,hb,hle=>by
  have hsub:=(ha x (aAJ ..)).sub (hb y (aAJ ..)) (hle 0 x y rfl rfl);obtain⟨h1,h2⟩:=Auj (a:=a) (b:=b) (by simp_all) (λs hs=>ha s (aAK _ hs)) (λs hs=>hb s (aAK _ hs)) λk s t hs ht=>hle (k+1) s t (by simp_all) (by simp_all)
  grind
theorem Aob:∀ {a:List (List Int)},(∀ s∈a,OK s)->(a.map List.length).sum<=512*a.length
 | [],_=>by simp
 | x::a,ha=>by
  have h1:=(ha x (aAJ ..)).length_le;have h2:=Aob (a:=a) λs hs=>ha s (aAK _ hs)
  grind
theorem AuW (hf:On f) (hx:x∈f.Code) {t:List Int} (hs:Ot f.Slots.length s) (ht:Ot f.Slots.length t) (h:∀ v∈s,v∈t):∀ v∈inN x s,v∈inN x t:=by
 intro v hv;rw[(AcG hf hx hs).2]at hv;rw[(AcG hf hx ht).2]
 grind
theorem AnZ (hf:On f) {a b:List (List Int)} (ha:RC f a) (hb:RC f b) (h:LE a b):LE (TW f a) (TW f b):=by
 intro k s t hs ht v hv;have hk:k<f.Code.length:=by grind [TW]
 have e1:s=Yr f a k:=by grind [TW]
 have e2:t=Yr f b k:=by grind [TW]
 subst e1 e2;rw[(Aax hf ha hk).2]at hv;rw[(Aax hf hb hk).2];obtain⟨j,hj,hv⟩:=hv;have hx:f.Code[k]? =some (NJ f k):=by grind [NJ]
 have hjm:=hf.next k _ hx j hj;have hjc:f.Code[j.toNat]? =some (NJ f j):=by grind [NJ]
 have hja:a[j.toNat]? =some (Oc a j):=by simp[Oc,show j.toNat<a.length by have:=ha.1;omega]
 have hjb:b[j.toNat]? =some (Oc b j):=by simp[Oc,show j.toNat<b.length by have:=hb.1;omega]
 exact⟨j,hj,AuW hf (aAD hjc) (ha.2 _ (aAD hja)) (hb.2 _ (aAD hjb)) (h _ _ _ hja hjb) v hv⟩
structure AmB (f:Lo) (l:List (List Int)):Prop where
 ok:RC f l
 fix:TW f l=l
 least:∀ b,RC f b->LE (TW f b) b->LE l b
theorem AqF (hf:On f):Hs (Aar f) λl=>AmB f l.Out:=by
 have hlen:=hf.len';refine .chk (by omega) ?_
 refine Hs.loop (λl=>RC f l/\LE l (TW f l)/\∀ b,RC f b->LE (TW f b) b->LE l b) (λl=>512*f.Code.length-(l.map List.length).sum) ⟨⟨by simp,λs hs=>?_⟩,λk s t hs ht v hv=>?_,λb _ _ k s t hs ht v hv=>?_⟩ ?_
 ·grind [Ot.nil]
 ·grind
 ·grind
 ·rintro l ⟨hl,hle,hleast⟩;have hl':=AqK hf hl;have e1:=step_eq hf hl;have e2:AbR ⟨TW f l⟩ ⟨l⟩=some (decide (TW f l=l)):=by
   unfold AbR;rw[AsM _ _ (by have:=hl'.1;grind) (λs hs=>by have:=(hl'.2 s hs).1.length_le;omega)]
   rfl
  obtain⟨s1,s2⟩:=Auj (by rw[hl.1,hl'.1]) (λs hs=>(hl.2 s hs).1) (λs hs=>(hl'.2 s hs).1) hle
  have s3:=Aob λs hs=>(hl'.2 s hs).1
  rw[hl'.1]at s3;unfold AcZ;rw[e1,aA,e2,aA]
  by_cases he:TW f l=l
  ·simp only[he,decide_true,cond_true];exact .lft (.pure ⟨hl,he,hleast⟩)
  ·simp only[he,decide_false,cond_false];refine .cnt ⟨⟨hl',AnZ hf hl hl' hle,λb hb hb'=>(AnZ hf hl hb (hleast b hb hb')).trans hb' (by rw[hl'.1,(AqK hf hb).1])⟩,?_⟩
   grind
theorem ApF (x:NH):WJ x=some (Pk x):=by
 grind [WJ,Pk]
theorem Ahc (x:NH):RH x=some (if x.Op=16\/x.Op=17 then(x.A,true)else(0,false)):=by
 grind [RH]
theorem ArW (x:NH):(Pk x).length<=1:=by grind [Pk]
theorem Aur (x:NH) (hu:∀ v∈Pk x,0<=v/\v<512):QK [] (Pk x)=Pk x:=by
 unfold Pk at hu ⊢;split
 all_goals simp_all[QK,QT,Uv]
theorem Axc (hs:OK s) (hu:∀ v∈Pk x,0<=v/\v<512):AdG x s=some (inN x s):=by
 have hl:=ArW x;have h1:=AuF hu (by omega)
 rw[Aur x hu]at h1;have h2:=Apu hs x.A;have h3:=Agt (hs.filter (· != x.A)) hu (by omega)
 have h4:=Agt hs hu (by omega)
 unfold AdG inN;rw[Ahc,aA,ApF]
 grind
theorem AqV {a b:List Int} (ha:OK a) (hb:OK b):Xc a b=some (a.filter λv=>!decide (v∈b)):=by
 obtain⟨r,h1,h2⟩:=AqW a b (by have:=ha.length_le;omega) (by have:=hb.length_le;omega)
 rw[h1,h2.eq (TR.AlY (ha.filter λv=>!decide (v∈b))) λv _ _=>by simp_all]
theorem AtY (a b:List Int) (ha:a.length<=16777215) (hb:b.length<=9223372036854775807):Aaq a b=some (a.filter λv=>!decide (v∈b)):=by
 unfold Aaq;have:=RT (body:=λp:List Int×Int=>Vf a b p.1 p.2) a (λ(out:List Int) i=>(out,i)) (λout i=>out.length<=i) (λout l=>some (out++l.filter λv=>!decide (v∈b)))
  (λout _=>⟨out,by simp[Vf],by simp⟩) (λout i x r ho hd hi hx=>by
   have w:=NO (show i<9223372036854775807 by omega)
   obtain⟨_,rfl⟩:=aAB.1 hx;left
   by_cases h:a[i]∈b
   ·exact⟨out,by omega,by simp_all[Vf,AbJ],by simp[h]⟩
   ·exact⟨out++[a[i]],by simp;omega,by simp[Vf,hi,AbJ b _ hb,h,w,show out.length<=16777215 by omega],by simp[h]⟩)
  [] (by simp)
 simp_all
theorem ArZ (ht:RN t) (n:Int):Rq t n=some (decide (0<=n/\n<512)&&hasB t n,t):=by
 unfold Rq;rw[Agp,aA]
 by_cases h:0<=n/\n<512
 ·rw[decide_eq_true h];obtain⟨h0,h1⟩:=h;have hi:n.toNat / 64<8:=by omega
  have hw:=ht.word hi;simp only[cond_true,Bool.true_and];rw[AsJ h0 h1,OA (by omega),aAC,Zo hi,aA,OA (Apf n).1,(Apf n).2 h0 h1]
  have e:Nat.min (n.toNat % 64) IntKind.u64.bits=n.toNat % 64:=Nat.min_eq_left (by show n.toNat % 64<=64;omega)
  have e2:(TX t (n.toNat / 64)).fdiv (2 ^ (n.toNat % 64))=(((TX t (n.toNat / 64)).toNat / 2 ^ (n.toNat % 64):Nat):Int):=by
   rw[Int.fdiv_eq_ediv_of_nonneg _ (Int.pow_nonneg (by omega))]
   have:TX t (n.toNat / 64)=(((TX t (n.toNat / 64)).toNat:Nat):Int):=by have:=hw.1;omega
   grind
  have hlt:(TX t (n.toNat / 64)).toNat / 2 ^ (n.toNat % 64)<18446744073709551616:=Nat.lt_of_le_of_lt (Nat.div_le_self ..) hw.toNat_lt;rw[e,e2,AvL (WW.nat hlt) ⟨by omega,by omega⟩]
  congr 2;unfold hasB Acz
  grind
 grind
theorem AwH (t:BS) (n:Int):Ss t n=(Rq t n).map (·.1):=by
 unfold Ss Rq;rw[Option.map_bind];congr 1;funext b;cases b
 ·rfl
 ·simp only[cond_true,Function.comp]
  by_cases h:0<=IntKind.i64.wrap (n.tdiv 64)/\IntKind.i64.wrap (n.tdiv 64)<8
  ·rw[OA h,OA h,Option.map_bind];congr 1;funext e;simp_all[chk]
  grind [chk]
theorem AwG {l:List Int} (hl:l.length<=9000000000000000000) {n:Int} (h0:0<=n) (h1:n<512):Abz l n=some (decide (n∈l)):=by
 unfold Abz;obtain⟨r,e1,e2,e3⟩:=AeD l hl
 grind [ArZ]
theorem AsR {a b:List Int} (ha:∀ v∈a,0<=v/\v<512) (hla:a.length<=1000000) (hb:b.length<=9000000000000000000):XX a b=some (decide (∀ v∈a,v∈b)):=by
 unfold XX;obtain⟨r,e1,e2,e3⟩:=AeD b hb;rw[e1,aA];unfold Qc;have key:∃ k:Int,Qv a r=some k/\(0<=k↔¬ ∀ v∈a,v∈b):=by
  have h1:∀ v,0<=v->v<512->TZ v r=some (!decide (v∈b)):=by
   grind [TZ,AwH,ArZ]
  refine Hs.loop (λi=>0<=i/\i<=a.length/\∀ v∈a.take i.toNat,v∈b) (λi=>a.length-i.toNat) ⟨by omega,by omega,by simp⟩ λi ⟨h0,h2,h3⟩=>?_
  refine .dec (λh=>?_) λh=>?_
  ·refine Hs.bind (P:=λx=>a[i.toNat]? =some x) (.ix h0 h λx hx=>hx) λx hx=>?_
   have hm:=aAD hx;rw[h1 x (ha x hm).1 (ha x hm).2,aA];refine .cond (λe=>.lft (.pure ?_)) λe=>.cnt ⟨⟨?_,?_,?_⟩,?_⟩
   ·refine⟨λ_ hall=>?_,λ_=>h0⟩
    simp_all
   all_goals rw[Akg (by omega) (by omega)]
   ·omega
   ·omega
   ·rw[show(i+1).toNat=i.toNat+1 by omega,aAV,hx]
    grind
   grind
  ·refine .lft (.pure ⟨λk=>absurd k (by decide),λk=>absurd (λv hv=>h3 v ?_) k⟩)
   grind [aAr]
 grind
theorem AnE (hs:OK s) {n:Int} (h:0<=n/\n<512):Aby s n=some (QT n s):=by
 unfold Aby;obtain⟨r,e1,e2,e3⟩:=AeD s (by have:=hs.length_le;omega)
 obtain⟨u,f1,f2,f3⟩:=Aqa e2 n true;obtain⟨q,g1,g2,g3⟩:=AbE f2;rw[e1,aA,f1,aA,g1,aA];congr 1;have hk:=Ot.AeS (n:=512) (m:=n) (s:=s) ⟨hs,λx hx=>(hs.2 x hx).2⟩ h (aAU _)
 refine g3.1.ext hk.1 λv=>?_
 rw[g3.2,hk.2.2];constructor
 ·simp_all
 ·intro hv;have hr:0<=v/\v<512:=hv.elim (λe=>e▸h) (hs.2 v)
  simp_all
structure GrY (g:List (List Int)):Prop where
 len:g.length<=500
 row:∀ s∈g,OK s/\∀ x∈s,x<g.length
theorem GrY.at_ (h:GrY g) (hi:g[i]? =some s):OK s/\∀ x∈s,x<g.length:=h.row s (aAD hi)
theorem ArI {ι R:Type} {body:ι->Option (ι⊕R)} {s:ι} {m:Option R} (h:body s=lft m):NW body s=m:=by
 rw[Vi,h];cases m<;>rfl
def nxY (g:List (List Int)) (done:List Int):Nat->Nat->Int
 | 0,_=>-1
 | d+1,k=>if ¬ (k:Int)∈done/\∀ v∈g.getD k [],v∈done then k else nxY g done d (k+1)
theorem ApV {g:List (List Int)} {done:List Int}:∀ (d k:Nat),nxY g done d k= -1\/∃ j:Nat,nxY g done d k=j/\k<=j/\j<k+d/\¬ (j:Int)∈done/\∀ v∈g.getD j [],v∈done
 | 0,_=>.inl rfl
 | d+1,k=>by
  unfold nxY;split
  ·grind
  ·rcases ApV (g:=g) (done:=done) d (k+1)with h|⟨j,h1,h2,h3,h4⟩
   all_goals grind
section
variable {g:List (List Int)} (hg:GrY g) {done:List Int} (hd:OK done)
 include hg hd
theorem AnL (order:List Int):∀ (d k:Nat),k+d=g.length->NW (λs=>Sw g done order s) (k:Int)=Ve order done (nxY g done d k)
 | 0,k,hk=>ArI (by
  grind [Sw,nxY])
 | d+1,k,hk=>by
  have hl:=hg.len;have hk':(k:Int)<g.length:=by omega
  have hkl:k<g.length:=by omega
  have hx:g[k]? =some g[k]:=aAA hkl;have hgd:g.getD k []=g[k]:=by simp_all
  obtain⟨h1,h2⟩:=hg.at_ hx;have hdl:=hd.length_le;have h1l:=h1.length_le;have w:IntKind.i64.wrap ((k:Int)+1)=((k+1:Nat):Int):=by grind [Akg]
  have hH:=AwG (l:=done) (by omega) (n:=(k:Int)) (by omega) (by omega)
  have hW:=AsR (a:=g[k]) (b:=done) h1.2 (by omega) (by omega)
  have ih:=AnL order d (k+1) (by omega)
  by_cases hc:¬ (k:Int)∈done/\∀ v∈g.getD k [],v∈done
  ·have hc2:∀ v∈g[k],v∈done:=hgd▸hc.2;refine ArI ?_;simp_all[nxY,Sw]
  ·unfold nxY;rw[if_neg hc,<- ih,Vi];have hb:Sw g done order (k:Int)=some (.inl ((k+1:Nat):Int)):=by
    by_cases e:(k:Int)∈done
    ·simp_all[Sw]
    simp_all[Sw,decide_eq_false]
   rw[hb]
end
structure Ut (g:List (List Int)) (order done:List Int):Prop where
 set:OK done
 mem:∀ v,v∈done↔v∈order
 nodup:order.Nodup
 rng:∀ x∈order,0<=x/\x<g.length
 top:∀ (j:Nat) x,order[j]? =some x->∀ v∈g.getD x.toNat [],v∈order.take j
theorem Ut.nil (g:List (List Int)):Ut g [] []:=⟨⟨by simp,by simp⟩,by simp,by simp,by simp,by simp⟩
theorem Ut.snoc (hg:GrY g) {order done:List Int} (h:Ut g order done) {j:Nat} (hj:j<g.length) (hn:¬ (j:Int)∈done) (hc:∀ v∈g.getD j [],v∈done):Ut g (order++[(j:Int)]) (QT (j:Int) done):=by
 have hl:=hg.len;have hk:=Ot.AeS (n:=512) (m:=(j:Int)) (s:=done) ⟨h.set,λx hx=>(h.set.2 x hx).2⟩ (by omega) (aAU _)
 refine⟨hk.1,λv=>by rw[hk.2.2,h.mem];grind,?_,?_,?_⟩
 ·refine List.nodup_append.2 ⟨h.nodup,by simp,λa ha b hb e=>?_⟩
  simp at hb;subst hb;subst e;exact hn ((h.mem _).2 ha)
 ·intro x hx;rcases aAb.1 hx with hx|hx
  ·exact h.rng x hx
  simp_all
 ·intro i x hi v hv
  by_cases e:i<order.length
  ·rw[aAN e]at hi;rw[List.take_append_of_le_length (by omega)]
   exact h.top i x hi v hv
  ·rw[List.getElem?_append_right (by omega)]at hi
   have hi0:i-order.length=0:=by
    grind
   rw[hi0]at hi;simp at hi;subst hi;have:i=order.length:=by omega
   subst this;rw[List.take_left];exact(h.mem v).1 (hc v hv)
def Adv (g:List (List Int)) (order done:List Int):(List Int×List Int)⊕(List Int×Int) :=
 if order.length<g.length then(if nxY g done g.length 0<0 then .inr ([],8)else .inl (order++[nxY g done g.length 0],QT (nxY g done g.length 0) done))else .inr (order,0)
theorem AqL (hg:GrY g) {order done:List Int} (h:Ut g order done) {s:List Int×List Int} (hs:Adv g order done= .inl s):Ut g s.1 s.2/\s.1.length=order.length+1/\order.length<g.length:=by
 unfold Adv at hs;split at hs
 ·rename_i hlt;split at hs
  all_goals grind [ApV,Ut.snoc]
 ·cases hs
end Go.Proofs.YtcaoepecbgggcaaGreatDoor
namespace Go.Dw
open Go
section
variable {α β ι R:Type}
def Le (x y:Option α):Prop:=∀ z,x=some z->y=some z
theorem Le.refl (x:Option α):Le x x:=λ_ h=>h
theorem Le.none (y:Option α):Le none y:=λ_ h=>nomatch h
theorem Le.trans {x y z:Option α} (h:Le x y) (h':Le y z):Le x z:=λr hr=>h' r (h r hr)
theorem Le.bind {x y:Option α} {f g:α->Option β} (h:Le x y) (hf:∀ a,Le (f a) (g a)):Le (x.bind f) (y.bind g):=by
 intro z hz;obtain⟨a,h1,h2⟩:=aAL.1 hz;exact aAL.2 ⟨a,h a h1,hf a z h2⟩
theorem Le.chk {p:Prop} [Decidable p] {x y:Option α} (h:Le x y):Le (chk p x) (Go.Dw.chk p y):=by
 intro z hz;unfold Go.Dw.chk at hz ⊢;split at hz
 ·rename_i hp;rw[if_pos hp];exact h z hz
 ·cases hz
theorem Le.cond {b:Bool} {x y x' y':Option α} (h:Le x y) (h':Le x' y'):Le (bif b then x else x') (bif b then y else y'):=by
 grind
theorem Le.loop {body body':ι->Option (ι⊕R)} {s:ι} (h:∀ s,Le (body s) (body' s)):Le (NW body s) (NW body' s):=by
 intro r hr;obtain⟨n,hn⟩:=Adz.1 hr;clear hr
 induction n generalizing s with
 | zero=>cases hn
 | succ n ih =>
  rw[Vi];unfold AbK at hn;cases e:body s with
  | none=>simp_all
  | some z =>
   rw[e]at hn;rw[h s z e]
   grind
theorem Awk {m:Nat->Option α} (hm:∀ n,Le (m n) (m (n+1))) {n:Nat} {r:α} (h:m n=some r):Aju m=some r:=by
 have up:∀ k n,Le (m n) (m (n+k)):=by
  intro k
  induction k with
  | zero=>intro n;exact .refl _
  | succ k ih=>intro n;exact(ih n).trans (hm (n+k))
 obtain⟨r',h1,h2⟩:=Awl (P:=λr'=>r'=r) h λn' r' h'=>by
  have a:=up n' n r h;have b:=up n n' r' h'
  grind
 rw[h1,h2]
end
end Go.Dw
namespace Go.Proofs.YtcaoepecbgggcaaGreatDoor
open Go Go.Dw Go.Proofs
attribute [local simp] OA aAG
variable {p:NM} {i k:Nat} {s ps to used:List Int} {j a v u:Int} {x:NH} {g l:List (List Int)} {m:List (List Bool)} {r:NU} {f:Lo} {mv:NH->Int->Bool} {Q:Nat->Int->Prop} {I:List NS×Int->Prop} {μ:List NS×Int->Nat} {s0:List NS×Int}
def bF (g:List (List Int)) (w:List Int):Nat->Nat->Option Int
 | 0,_=>none
 | n+1,i=>(g[i]?).bind λs=>(w[i]?).bind λx=>(s.foldlM (λa j=>(bF g w n j.toNat).map (OD a)) 0).bind λm=>if x+m<=2147483647 then some (x+m)else none
def vB (g:List (List Int)) (w:List Int) (i:Nat):Option Int:=bF g w g.length i
def mB (g:List (List Int)) (w:List Int) (s:List Int):Option Int:=s.foldlM (λa j=>(vB g w j.toNat).map (OD a)) 0
theorem foldlM_congr {α β:Type} {f h:β->α->Option β}:∀ {s:List α} {b:β},(∀ a x,x∈s->f a x=h a x)->s.foldlM f b=s.foldlM h b
 | [],_,_=>rfl
 | x::s,b,hx=>by
  simp only[aAm];rw[hx b x (by simp)]
  congr 1;funext c;exact foldlM_congr λa y hy=>hx a y (by simp[hy])
section
variable {g:List (List Int)} {w order done:List Int} (hg:GrY g) (ho:Ut g order done)
 include hg ho
theorem Alj {p:Nat} (hp:order[p]? =some (i:Int)) (hs:g[i]? =some s) (hj:j∈s):∃ q:Nat,q<p/\order[q]? =some ((j.toNat:Nat):Int)/\0<=j:=by
 have h:=ho.top p i hp j (by simp_all)
 obtain⟨q,hq⟩:=aAH h;rw[List.getElem?_take]at hq;split at hq
 ·have h0:=((hg.at_ hs).1.2 j hj).1
  grind
 ·cases hq
theorem AvY:∀ (p n m i:Nat),order[p]? =some (i:Int)->p<n->p<m->bF g w n i=bF g w m i:=by
 intro p
 induction p using Nat.strongRecOn with
 | ind p ih =>
  intro n m i hp hn hm;obtain⟨n,rfl⟩:∃ n',n=n'+1:=⟨n-1,by omega⟩
  obtain⟨m,rfl⟩:∃ m',m=m'+1:=⟨m-1,by omega⟩
  unfold bF;cases hs:g[i]? with
  | none=>rfl
  | some s =>
   simp only[aA]
   grind [foldlM_congr,Alj]
theorem AsQ (hl:order.length=g.length) {p:Nat} {x:Int} (hp:order[p]? =some (i:Int)) (hs:g[i]? =some s) (hx:w[i]? =some x) :
  vB g w i=(mB g w s).bind λm=>if x+m<=2147483647 then some (x+m)else none:=by
 have hpl:p<g.length:=hl▸(aAB.1 hp).1;unfold vB mB;obtain⟨k,hk⟩:∃ k,g.length=k+1:=⟨g.length-1,by omega⟩
 rw[hk]
 conv=>lhs;unfold bF
 rw[hs,aA,hx,aA]
 grind [foldlM_congr,Alj,vB,AvY]
end
theorem Aus {b:Int} (ha:0<=a/\a<=2147483647) (hb:0<=b/\b<=2147483647):0<=OD a b/\OD a b<=2147483647:=by
 grind [OD]
def WtY (g:List (List Int)) (w:List Int):Prop:=w.length=g.length/\∀ x∈w,0<=x/\x<=2147483647
theorem Ajv {f:Nat->Option Int} (hf:∀ i x,f i=some x->0<=x/\x<=2147483647):∀ {s:List Int} {b m:Int},0<=b/\b<=2147483647->s.foldlM (λa j=>(f j.toNat).map (OD a)) b=some m->0<=m/\m<=2147483647
 | [],b,m,hb,h=>by simp_all
 | x::s,b,m,hb,h=>by
  simp only[aAm,aAt,aAL]at h;obtain⟨c,hc,h⟩:=h;obtain⟨y,hy,rfl⟩:=aAs.1 hc;exact Ajv hf (Aus hb (hf _ _ hy)) h
theorem AsZ {g:List (List Int)} {w:List Int} (hw:WtY g w):∀ (n i:Nat) (x:Int),bF g w n i=some x->0<=x/\x<=2147483647
 | 0,_,_,h=>by cases h
 | n+1,i,x,h=>by
  unfold bF at h;simp only[aAL]at h;obtain⟨s,hs,y,hy,m,hm,h⟩:=h;have h1:=hw.2 y (aAD hy);have h2:=Ajv (AsZ hw n) ⟨aAU 0,by decide⟩ hm
  grind
theorem Axr {w:List Int} (hw:WtY g w) {x:Int} (h:vB g w i=some x):0<=x/\x<=2147483647:=AsZ hw _ _ _ h
theorem AtB {w:List Int} (hw:WtY g w) {m:Int} (h:mB g w s=some m):0<=m/\m<=2147483647:=Ajv (f:=vB g w) (λ_ _ h=>Axr hw h) ⟨aAU 0,by decide⟩ h
theorem AvJ {x y:Int} (hx:0<=x/\x<=2147483647) (hy:0<=y/\y<=2147483647):UJ x y=some (if x+y<=2147483647 then(x+y,0)else(0,9)):=by
 grind [Akg,UJ,SR,XY,TD]
open Go Go.Dw Go.Proofs
attribute [local simp] OA aAG
theorem AeC:∀ (n:Nat) (l:List Int),l.Nodup->(∀ x∈l,0<=x/\x<n)->l.length<=n/\(l.length=n->∀ i:Int,0<=i->i<n->i∈l)
 | 0,l,_,hr=>by
  have:l=[]:=by
   cases l with
   | nil=>rfl
   | cons x l=>have:=hr x (by simp);omega
  simp_all
 | n+1,l,hn,hr=>by
  by_cases h:(n:Int)∈l
  ·have h1:=AeC n (l.erase n) (hn.erase _) λx hx=>by
    grind
   grind
  ·have h1:=AeC n l hn λx hx=>by
    grind
   omega
theorem Ut.full {order done:List Int} (ho:Ut g order done) (hl:order.length=g.length) (hi:i<g.length):∃ p:Nat,order[p]? =some (i:Int) :=
 aAH ((AeC g.length order ho.nodup ho.rng).2 hl i (by omega) (by omega))
theorem AuE {rec0 rec1:Oi->Int->Option (Int×Int×Oi)} (h:∀ a b,Le (rec0 a b) (rec1 a b)) (s:Oi) (k:Int):Le (Ra rec0 s k) (Ra rec1 s k):=by
 refine .chk (.bind (.refl _) λ_=>.cond (.refl _) (.bind (.refl _) λ_=>.loop λs=>?_))
 exact .cond (.bind (.refl _) λ_=>.bind (h _ _) λ_=>.refl _) (.refl _)
theorem AnI:∀ (n:Nat) (s:Oi) (k:Int),Le (Qn n s k) (Qn (n+1) s k)
 | 0,_,_=>.none _
 | n+1,s,k=>AuE (λa b=>AnI n a b) s k
theorem Acn {α:Type} {l:List α} {j:α} (h:l[i]? =some j):l.take (i+1)=l.take i++[j]:=by grind [aAV]
structure BI (g:List (List Int)) (w:List Int) (kn:List Bool) (of:List Int):Prop where
 kl:kn.length=g.length
 ol:of.length=g.length
 eq:∀ i:Nat,kn[i]? =some true->of[i]? =vB g w i
def BR (g:List (List Int)) (w:List Int) (kn0:List Bool) (i:Nat) (r:Int×Int×Oi):Prop:=(∃ x kn of,vB g w i=some x/\r=(x,0,⟨g,w,kn,of⟩)/\BI g w kn of/\kn[i]? =some true/\∀ a:Nat,kn0[a]? =some true->kn[a]? =some true)\/(vB g w i=none/\r.2.1=9)
theorem Arh {α β:Type} {f:β->α->Option β} {s:List α} {b:β} {x:α} (h:s[k]? =some x):(s.take (k+1)).foldlM f b=((s.take k).foldlM f b).bind λa=>f a x:=by
 simp_all[Acn]
section
variable {g:List (List Int)} {w order done:List Int} (hg:GrY g) (ho:Ut g order done) (hl:order.length=g.length) (hw:WtY g w)
 include hg ho hl hw
theorem Atb:∀ (p n i:Nat),order[p]? =some (i:Int)->p<n->∀ kn of,BI g w kn of->Hs (Qn n ⟨g,w,kn,of⟩ (i:Int)) (BR g w kn i):=by
 intro p
 induction p using Nat.strongRecOn with
 | ind p ih =>
  intro n i hp hn kn of hb;obtain⟨n,rfl⟩:∃ n',n=n'+1:=⟨n-1,by omega⟩
  have hkl:=hb.kl;have hol:=hb.ol;have hil:i<g.length:=by have:=ho.rng _ (aAD hp);omega
  obtain⟨x,hx⟩:∃ x,w[i]? =some x:=⟨w[i]'(by have:=hw.1;omega),aAA (by have:=hw.1;omega)⟩
  obtain⟨s,hs⟩:∃ s,g[i]? =some s:=⟨g[i],aAA hil⟩;have hv:=AsQ hg ho hl hp hs hx;obtain⟨hset,hrow⟩:=hg.at_ hs;have hsl:=hset.length_le;have hxr:=hw.2 x (aAD hx);show Hs (Ra (Qn n) ⟨g,w,kn,of⟩ (i:Int)) _;refine .chk (by simp_all) ((Hs.get (l:=kn) (i:=(i:Int)) (by omega) (by omega) λz hz=>hz).bind λb hkb=>?_)
  refine .cond (λhbt=>?_) λhbt=>?_
  ·subst hbt;refine .chk (by simp_all) ((Hs.get (l:=of) (i:=(i:Int)) (by omega) (by omega) λz hz=>hz).bind λy hy=>.pure (.inl ?_))
   exact⟨y,kn,of,(hb.eq i hkb).symm.trans hy,rfl,hb,hkb,λ_ h=>h⟩
  ·refine(Hs.ix (l:=g) (i:=(i:Int)) (by omega) (by omega) λz hz=>hz).bind λs' hs'=>?_
   simp only[aAC]at hs';rw[hs]at hs';cases hs';refine Hs.loop (λz=>z.1=g/\z.2.1=w/\BI g w z.2.2.1 z.2.2.2.1/\(∀ a:Nat,kn[a]? =some true->z.2.2.1[a]? =some true)/\∃ k:Nat,z.2.2.2.2.1=(k:Int)/\k<=s.length/\mB g w (s.take k)=some z.2.2.2.2.2) (λz=>s.length-z.2.2.2.2.1.toNat) ⟨rfl,rfl,hb,λ_ h=>h,0,rfl,aAE _,rfl⟩ ?_
   rintro⟨b6,b7,b8,b9,x10,m11⟩ ⟨h6,h7,hb8,hmo,k,hk,hkl,hm⟩;simp only at h6 h7 hb8 hmo hk hm;subst h6;subst h7;subst hk;dsimp only;refine .dec (λhlt=>?_) λhlt=>?_
   ·have hlt:k<s.length:=by omega
    refine(Hs.ix (l:=s) (i:=(k:Int)) (by omega) (by omega) λz hz=>hz).bind λj hj=>?_
    obtain⟨q,hq1,hq2,hj0⟩:=Alj hg ho hp hs (aAD hj);have hmt:=Arh (f:=λa j=>(vB b6 b7 (Int.toNat j)).map (OD a)) (b:=0) hj
    change mB b6 b7 (s.take (k+1))=(mB b6 b7 (s.take k)).bind _ at hmt;rw[hm,aA]at hmt;have hih:=ih q hq1 n j.toNat hq2 (by omega) b8 b9 hb8
    rw[show((j.toNat:Nat):Int)=j by omega]at hih
    refine hih.bind λr hr=>?_
    rcases hr with⟨y,kn',of',hy,rfl,hb',_,hmo'⟩|⟨hy,h9⟩
    ·refine .cond (λe=>absurd e (by simp)) λ_=>.cnt ⟨⟨rfl,rfl,hb',λa ha=>hmo' a (hmo a ha),k+1,NO (by omega),hlt,?_⟩,?_⟩
     ·simp_all
     ·simp only[NO (show k<9223372036854775807 by omega)];omega
    ·refine .cond (λ_=>.lft (.pure (.inr ⟨?_,h9⟩))) λe=>absurd e (by simp[h9])
     grind [mB,List.take_append_drop,List.foldlM_append]
   ·have hke:k=s.length:=by omega
    rw[hke,aAf]at hm;have hmr:=AtB hw hm;rw[hm,aA]at hv;refine .lft ((Hs.ix (l:=b7) (i:=(i:Int)) (by omega) (by grind) λz hz=>hz).bind λx' hx'=>?_)
    simp only[aAC]at hx';rw[hx]at hx';cases hx';rw[AvJ hxr hmr,aA];have hkl8:=hb8.kl;have hol9:=hb8.ol
    by_cases h:x+m11<=2147483647
    ·rw[if_pos h]at hv ⊢;refine .cond (λe=>absurd e (by simp)) λ_=>.chk (by omega) ((Hs.get (l:=b9) (i:=(i:Int)) (by omega) (by omega) λz hz=>hz).bind λ_ _=>.chk (by omega) ((Hs.get (l:=b8) (i:=(i:Int)) (by omega) (by omega) λz hz=>hz).bind λ_ _=>.pure (.inl ⟨_,_,_,hv,rfl,⟨by simp[hkl8],by simp[hol9],λa ha=>?_⟩,?_,λa ha=>?_⟩)))
     ·simp only[aAC]at ha ⊢
      by_cases e:i=a
      ·simp_all
      ·rw[aAW e]at ha ⊢;exact hb8.eq a ha
     all_goals grind
    ·rw[if_neg h]at hv ⊢;exact .cond (λ_=>.pure (.inr ⟨hv,rfl⟩)) λe=>absurd e (by simp)
theorem AuD (hi:i<g.length) {kn:List Bool} {of:List Int} (hb:BI g w kn of):Hs (YQ ⟨g,w,kn,of⟩ (i:Int)) (BR g w kn i):=by
 obtain⟨p,hp⟩:=ho.full hl hi;obtain⟨r,h1,h2⟩:=Atb hg ho hl hw p (p+1) i hp (by omega) kn of hb
 exact⟨r,Awk (λn=>AnI n _ _) h1,h2⟩
end
open Go Go.Dw Go.Proofs
theorem Aoa (hg:GrY g) {order done:List Int} (h:Ut g order done):Zr g order done=some (Adv g order done):=by
 have hl:=hg.len;unfold Zr Adv
 by_cases hc:order.length<g.length
 ·have e1:=AnL hg h.set order g.length 0 (by omega)
  simp only[Int.natCast_zero]at e1;rw[if_pos hc,decide_eq_true (by omega:(order.length:Int)<g.length),cond_true,e1]
  unfold Ve;rcases ApV (g:=g) (done:=done) g.length 0 with e|⟨j,e,_,h3,h4,h5⟩
  ·rw[e];rfl
  ·rw[e];have hj:¬ (j:Int)<0:=by omega
   rw[if_neg hj,decide_eq_false hj,cond_false,OA (show order.length+([(j:Int)]:List Int).length<=16777216 by simp;omega),AnE h.set ⟨by omega,by omega⟩]
   rfl
 ·rw[if_neg hc,decide_eq_false (by omega:¬ (order.length:Int)<g.length),cond_false]
  rfl
theorem AnW (hg:GrY g):∃ r,Rb g=some r/\(r=([],8)\/(r.2=0/\r.1.length=g.length/\∃ done,Ut g r.1 done)):=by
 show Hs (Rb g) _;unfold Rb;refine Hs.loop (λs:List Int×List Int=>Ut g s.1 s.2/\s.1.length<=g.length) (λs=>g.length-s.1.length) ⟨Ut.nil g,aAE _⟩ λs ⟨hs,hsl⟩=>?_
 refine⟨Adv g s.1 s.2,Aoa hg hs,?_⟩;cases hst:Adv g s.1 s.2 with
 | inl s' =>
  obtain⟨h1,h2,h3⟩:=AqL hg hs hst;exact⟨⟨h1,by omega⟩,by show g.length-s'.1.length<g.length-s.1.length;omega⟩
 | inr r =>
  unfold Adv at hst;split at hst
  ·split at hst
   ·cases hst;exact .inl rfl
   ·cases hst
  ·cases hst;exact .inr ⟨rfl,by show s.1.length=g.length;omega,s.2,hs⟩
attribute [local simp] OA aAG
def SzY (g:List (List Int)):Prop:=1<=g.length/\g.length<=80
instance (g:List (List Int)):Decidable (SzY g):=inferInstanceAs (Decidable (_/\_))
instance (g:List (List Int)) (w:List Int):Decidable (WtY g w):=inferInstanceAs (Decidable (_/\_))
section
variable {g:List (List Int)} (hg:GrY g)
 include hg
theorem Avt (hs:g[i]? =some s) (h:0<s.length):∃ z,s[s.length-1]? =some z/\z<g.length :=
 ⟨s[s.length-1],aAA (by omega),(hg.at_ hs).2 _ (aAF _)⟩
theorem AlJ:Ui g=some (decide (SzY g)):=by
 have hgl:=hg.len;have hh:Hs (Ui g) λr=>r=decide (SzY g):=by
  refine Hs.loop (λi=>∃ k:Nat,i=(k:Int)/\k<=g.length) (λi=>g.length-i.toNat) ⟨0,rfl,aAE _⟩ λi ⟨k,hi,hk⟩=>?_
  subst hi;refine .dec (λh=>?_) λh=>?_
  ·refine(Hs.ix (l:=g) (i:=(k:Int)) (by omega) h λz hz=>hz).bind λs hs=>?_
   simp only[aAC]at hs;obtain⟨h1,h2⟩:=hg.at_ hs;have hsl:=h1.length_le;rw[AnH s (by omega),(Acy s).2 h1,aA]
   refine .cond (λe=>absurd e (by simp)) λ_=>?_
   have nx:Hs (cnt (R:=Bool) (IntKind.i64.wrap ((k:Int)+1))) (Rnd (λi:Int=>∃ k:Nat,i=(k:Int)/\k<=g.length) (λi:Int=>g.length-i.toNat) (k:Int) λr:Bool=>r=decide (SzY g)):=by
    refine .cnt ⟨⟨k+1,NO (by omega),by omega⟩,?_⟩
    grind [NO]
   refine .dec (λh0=>?_) λ_=>nx
   obtain⟨z,hz,hzl⟩:=Avt hg hs (by omega)
   rw[wrap64 (by omega) (by omega),Pu _ (by omega),show((s.length:Int)-1).toNat=s.length-1 by omega,hz,aA]
   grind
  ·refine .lft ?_;refine .dec (λh=>.pure ?_) λh=>.pure ?_
   ·show _=decide (SzY g);rw[decide_eq_decide];grind [SzY]
   ·show _=decide (SzY g);rw[eq_comm,decide_eq_false_iff_not];grind [SzY]
 obtain⟨r,h1,rfl⟩:=hh;exact h1
end
def Yv (g:List (List Int)) (w:List Int) (o:List Int×Int) (z:List Int×Int):Prop :=
 (¬ (SzY g/\WtY g w)/\z=([],4))\/((SzY g/\WtY g w)/\((o.2≠0/\z=([],o.2))\/(o.2=0/\(((∃ i,i<g.length/\vB g w i=none)/\z=([],9))\/(z.2=0/\z.1.length=g.length/\∀ i,i<g.length->∃ x,vB g w i=some x/\z.1[i]? =some x)))))
theorem Yv.unique {w:List Int} {o z z':List Int×Int} (h:Yv g w o z) (h':Yv g w o z'):z=z':=by
 rcases h with⟨h1,rfl⟩|⟨h1,⟨h2,rfl⟩|⟨h2,⟨⟨i,hi,hn⟩,rfl⟩|⟨h3,h4,h5⟩⟩⟩<;>rcases h' with⟨g1,rfl⟩|⟨g1,⟨g2,rfl⟩|⟨g2,⟨⟨j,hj,gn⟩,rfl⟩|⟨g3,g4,g5⟩⟩⟩<;>first|rfl|exact absurd g1 h1|exact absurd h1 g1|exact absurd g2 h2|exact absurd h2 g2|skip
 ·simp_all
 ·simp_all
 ·refine Prod.ext (aAd λi=>?_) (h3.trans g3.symm)
  grind
theorem Atc (hg:GrY g) {w:List Int} {r:List Int×Int} (hr:Rb g=some r):Hs (Wb g w) (Yv g w r):=by
 have hgl:=hg.len;obtain⟨r',e1,hO⟩:=AnW hg;rw[hr]at e1;cases e1;unfold Wb;rw[AlJ hg,aA];refine .cond (λe=>.pure (.inl ⟨λh=>?_,rfl⟩)) λe=>.bne (λh=>.pure (.inl ⟨λh'=>?_,rfl⟩)) λh=>?_
 ·simp_all
 ·have:=h'.2.1;omega
 have hz:SzY g:=by simp_all
 have hl:w.length=g.length:=by omega
 refine Hs.loop (λi=>∃ k:Nat,i=(k:Int)/\k<=w.length/\∀ x∈w.take k,0<=x/\x<=2147483647) (λi=>w.length-i.toNat) ⟨0,rfl,aAE _,by simp⟩ λi ⟨k,hi,hk,hp⟩=>?_
 subst hi;refine .dec (λh=>?_) λh=>.lft ?_
 ·refine(Hs.ix (l:=w) (i:=(k:Int)) (by omega) h λz hz=>hz).bind λx hx=>?_
  simp only[aAC]at hx;have hm:=aAD hx;refine .dec (λh0=>.lft (.pure (.inl ⟨λhw=>?_,rfl⟩))) λh0=>.dec (λh1=>.lft (.pure (.inl ⟨λhw=>?_,rfl⟩))) λh1=>.cnt ⟨⟨k+1,NO (by omega),by omega,?_⟩,?_⟩
  ·have:=hw.2.2 x hm;omega
  ·have:=hw.2.2 x hm;omega
  ·rw[Acn hx]
   grind
  grind [NO]
 ·rw[aAr (by omega)]at hp
  have hw:WtY g w:=⟨hl,hp⟩;rw[hr,aA];refine .bne (λh=>.pure (.inr ⟨⟨hz,hw⟩,.inl ⟨h,rfl⟩⟩)) λhr0=>?_
  have hO:r.1.length=g.length/\∃ done,Ut g r.1 done:=by
   grind
  obtain⟨hol,done,ho⟩:=hO;refine .chk (by omega) (.chk (by omega) ?_)
  refine Hs.loop (λz=>z.1=g/\z.2.1=w/\BI g w z.2.2.1 z.2.2.2.1/\∃ q:Nat,z.2.2.2.2=(q:Int)/\q<=g.length/\∀ i,i<q->z.2.2.1[i]? =some true) (λz=>g.length-z.2.2.2.2.toNat) ⟨rfl,rfl,⟨by simp,by simp,λi hi=>?_⟩,0,rfl,aAE _,λi hi=>by omega⟩ ?_
  ·grind
  rintro⟨x6,x7,x8,x9,x10⟩ ⟨h6,h7,hb,q,hq,hql,hall⟩;simp only at h6 h7 hb hq hall;subst h6;subst h7;subst hq;dsimp only;refine .dec (λhlt=>?_) λhlt=>.lft (.pure (.inr ⟨⟨hz,hw⟩,.inr ⟨hr0,.inr ⟨rfl,hb.ol,λi hi=>?_⟩⟩⟩))
  refine(AuD hg ho hol hw (i:=q) (by omega) hb).bind λr hr=>?_
  rcases hr with⟨y,kn',of',hy,rfl,hb',hki,hmo⟩|⟨hy,h9⟩
  ·refine .cond (λe=>absurd e (by simp)) λ_=>.cnt ⟨⟨rfl,rfl,hb',q+1,NO (by omega),by omega,λi hi=>?_⟩,?_⟩
   all_goals grind [NO]
  ·exact .cond (λ_=>.lft (.pure (.inr ⟨⟨hz,hw⟩,.inr ⟨hr0,.inl ⟨⟨q,by omega,hy⟩,by rw[h9]⟩⟩⟩))) λe=>absurd e (by simp[h9])
  ·have h1:=hb.eq i (hall i (by omega))
   have h2:i<x9.length:=by rw[hb.ol];exact hi
   grind
open Go Go.Dw Go.Proofs
attribute [local simp] OA aAG
theorem Ahm (a b:Int):a<=OD a b/\b<=OD a b:=by grind [OD]
theorem ApK {f:Nat->Option Int}:∀ {s:List Int} {b m:Int},s.foldlM (λa j=>(f j.toNat).map (OD a)) b=some m->b<=m/\∀ j∈s,∃ d,f j.toNat=some d/\d<=m
 | [],b,m,h=>by simp_all
 | x::s,b,m,h=>by
  simp only[aAm,aAt,aAL]at h;obtain⟨c,hc,h⟩:=h;obtain⟨y,hy,rfl⟩:=aAs.1 hc;obtain⟨h1,h2⟩:=ApK h;have:=Ahm b y
  grind
structure AmA (g:List (List Int)) (w c:List Int):Prop where
 size:SzY g
 row:∀ s∈g,OK s/\∀ x∈s,x<g.length
 wt:WtY g w
 cl:c.length=g.length
 ge:∀ i,i<g.length->∃ a b s,c[i]? =some a/\w[i]? =some b/\g[i]? =some s/\0<=a/\a<=2147483647/\b<=a/\∀ j∈s,∃ d,c[j.toNat]? =some d/\d<=a-b
theorem Yv.AxR (hg:GrY g) {w:List Int} {o r:List Int×Int} (h:Yv g w o r) (h0:r.2=0) {done:List Int} (ho:Ut g o.1 done) (hl:o.1.length=g.length):AmA g w r.1:=by
 rcases h with⟨_,rfl⟩|⟨⟨hz,hw⟩,⟨h2,rfl⟩|⟨h2,⟨_,rfl⟩|⟨h3,h4,h5⟩⟩⟩
 ·omega
 ·omega
 ·omega
 refine⟨hz,hg.row,hw,h4,λi hi=>?_⟩
 obtain⟨a,ha,hra⟩:=h5 i hi;obtain⟨x,hx⟩:∃ x,w[i]? =some x:=⟨w[i]'(by have:=hw.1;omega),aAA (by have:=hw.1;omega)⟩
 obtain⟨s,hs⟩:∃ s,g[i]? =some s:=⟨g[i],aAA hi⟩;obtain⟨p,hp⟩:=ho.full hl hi;rw[AsQ hg ho hl hp hs hx]at ha;obtain⟨m,hm,ha⟩:=aAL.1 ha;have hmr:=AtB hw hm;have hxr:=hw.2 x (aAD hx);split at ha
 ·cases ha;refine⟨_,x,s,hra,hx,hs,by omega,by omega,by omega,λj hj=>?_⟩
  obtain⟨d,hd,hdm⟩:=(ApK hm).2 j hj;have hjr:=((hg.at_ hs).1.2 j hj).1;have hjl:=(hg.at_ hs).2 j hj
  grind
 ·cases ha
theorem AjJ {w c:List Int} (h:AmA g w c):RY g w c=some true:=by
 have hg:GrY g:=⟨by have:=h.size;grind [SzY],h.row⟩
 have hgl:=hg.len;have hwl:=h.wt.1;have hcl:=h.cl;unfold RY;rw[AlJ hg,decide_eq_true h.size,aA];have e1:((w.length:Int) != (g.length:Int))=false:=by simp[hwl]
 have e2:((c.length:Int) != (g.length:Int))=false:=by simp[hcl]
 rw[e1,e2];have hh:Hs (Sa w) λr=>r=true:=by
  unfold Sa;refine Hs.loop (λi=>∃ k:Nat,i=(k:Int)/\k<=w.length) (λi=>w.length-i.toNat) ⟨0,rfl,aAE _⟩ λi ⟨k,hi,hk⟩=>?_
  subst hi;unfold WI;refine .dec (λhlt=>?_) λhlt=>.lft (.pure rfl)
  refine(Hs.ix (l:=w) (i:=(k:Int)) (by omega) hlt λz hz=>hz).bind λx hx=>?_
  simp only[aAC]at hx;have hr:=h.wt.2 x (aAD hx);have hb:RL x=some true:=by grind [RL]
  rw[hb,aA];refine .cond (λe=>absurd e (by simp)) λe=>.cnt ⟨⟨k+1,NO (by omega),by omega⟩,?_⟩
  grind [NO]
 obtain⟨r,h1,rfl⟩:=hh;exact h1
def Xh (l:List NH):List Int:=l.foldl (λs x=>if x.Op=22 then QT x.A s else s) []
def cgR (p:NM):List (List Int):=p.Funcs.map λf=>Xh f.Code
def CallsIn (p:NM):Prop:=∀ f∈p.Funcs,∀ x∈f.Code,x.Op=22->0<=x.A/\x.A<p.Funcs.length
theorem AqY {l:List NH} (h:l[k]? =some x):Xh (l.take (k+1))=if x.Op=22 then QT x.A (Xh (l.take k))else Xh (l.take k):=by
 simp_all[Xh,Acn]
theorem Asm {n:Int} (hn:n<=512):∀ {l:List NH},(∀ x∈l,x.Op=22->0<=x.A/\x.A<n)->Ot n (Xh l):=by
 intro l hl;have key:∀ k,k<=l.length->Ot n (Xh (l.take k)):=by
  intro k
  induction k with
  | zero=>intro _;exact⟨⟨by simp[Xh],by simp[Xh]⟩,by simp[Xh]⟩
  | succ k ih =>
   intro hk;have hx:l[k]? =some l[k]:=aAA (by omega)
   rw[AqY hx];split
   ·rename_i h;have hr:=hl l[k] (aAF _) h;have:=Ot.AeS (n:=n) (m:=l[k].A) (s:=Xh (l.take k)) (ih (by omega)) hr hn
    exact⟨this.1,this.2.1⟩
   grind
 have:=key l.length (aAO _);simp_all
theorem AwO (hn:p.Funcs.length<=500) (hp:CallsIn p):GrY (cgR p):=by
 refine⟨by grind [cgR],λs hs=>?_⟩
 obtain⟨f,hf,rfl⟩:=List.mem_map.1 hs;have:=Asm (n:=p.Funcs.length) (by omega) (hp f hf)
 exact⟨this.1,λx hx=>by have:=this.2 x hx;grind [cgR]⟩
theorem Ave {r:List NH} {y:NV} {l:List NH} {x':NH} (hk:k<r.length) (hl:l[k]? =some x) (ho:0<=x.Op/\x.Op<25) (h:Po f y x=some x'):Xm r f y l (k:Int)=cnt (l.set k x',IntKind.i64.wrap ((k:Int)+1)):=by
 have hkl:=(aAB.1 hl).1;have hd:(decide ((k:Int)<(r.length:Int)))=true:=by simp_all
 have hc:0<=(k:Int)/\(k:Int)<l.length:=by omega
 unfold Xm;unfold Po at h;rw[hd,cond_true,OA hc,aAC,hl,aA,OA ho];unfold UO UP UQ UR US AeB
 by_cases h15:x.Op=15
 ·simp_all
 rw[show(x.Op==15)=false by simp[h15]]at h ⊢
 rw[cond_false]at h ⊢
 by_cases h16:x.Op=16
 ·simp_all
 rw[show(x.Op==16)=false by simp[h16]]at h ⊢
 rw[cond_false]at h ⊢
 by_cases h17:x.Op=17
 ·simp_all
 rw[show(x.Op==17)=false by simp[h17]]at h ⊢
 rw[cond_false]at h ⊢
 by_cases h18:x.Op=18
 ·simp_all
 rw[show(x.Op==18)=false by simp[h18]]at h ⊢
 rw[cond_false]at h ⊢
 by_cases h19:x.Op=19
 all_goals simp_all
section
variable {p:NM} {i:Nat} {f:Lo} {y:NV} {T:NH->NH} (hf:p.Funcs[i]? =some f) (hn:f.Code.length<=1000000) (hT:∀ x∈f.Code,Po f y x=some (T x))
 include hf hn hT
theorem AuV (ho:∀ x∈f.Code,0<=x.Op/\x.Op<25):WL p (i:Int) y=some ⟨f.Params,y.Size,f.Code.map T⟩:=by
 unfold WL;rw[Pu _ (by omega),aAC,hf,aA]
 have hcl:AlM f.Code=some f.Code:=by unfold AlM YS;grind [OA]
 rw[hcl,aA];have hh:Hs (NW (λs=>Xm f.Code f y s.1 s.2) (f.Code,0)) λr=>r=⟨f.Params,y.Size,f.Code.map T⟩:=by
  refine Hs.loop (λz=>∃ k:Nat,z.2=(k:Int)/\k<=f.Code.length/\z.1=(f.Code.take k).map T++f.Code.drop k) (λz=>f.Code.length-z.2.toNat) ⟨0,rfl,aAE _,by simp⟩ ?_
  rintro⟨code,k6⟩ ⟨k,hk,hkl,hc⟩;simp only at hk hc;subst hk
  by_cases hlt:k<f.Code.length
  ·obtain⟨x,hx⟩:∃ x,f.Code[k]? =some x:=⟨f.Code[k],aAA hlt⟩;have hm:=aAD hx;have hlen:((f.Code.take k).map T).length=k:=by simp;omega
   have hd:f.Code.drop k=x::f.Code.drop (k+1):=by
    grind [aAQ]
   have hcx:code[k]? =some x:=by
    simp_all
   rw[Ave hlt hcx (ho x hm) (hT x hm)];refine .cnt ⟨⟨k+1,NO (by omega),by omega,?_⟩,?_⟩
   ·grind
   grind [NO]
  ·refine .dec (λh=>absurd h (by omega)) λ_=>.lft (.pure ?_)
   have:k=f.Code.length:=by omega
   rw[this,aAf,List.drop_length,aAp]at hc;show OE.mk _ _ code=_;rw[hc]
 obtain⟨r,h1,rfl⟩:=hh;exact h1
end
open Go Go.Dw Go.Proofs
theorem Awv (n:Int):Hs (Tb n) λ_=>True:=by
 exact .cond (λ_=>.pure trivial) λ_=>.cond (λ_=>.pure trivial) λ_=>.cond (λ_=>.pure trivial) λ_=>.cond (λ_=>.pure trivial) λ_=>.pure trivial
theorem AcA (n:Int):SO n=some (decide (0<=n/\n<=2147483647)):=by
 unfold SO
 grind
theorem Avn (n:Int):Hs (QM n) λb=>b=true->1<=n/\n<=16777216:=by
 refine Hs.loop (λk=>1<=k/\k<=33554432) (λk=>33554433-k.toNat) ⟨by omega,by omega⟩ ?_
 rintro k ⟨h0,h1⟩;refine .dec (λh=>.beq (λe=>.lft (.pure λ_=>⟨by omega,by omega⟩)) λ_=>?_) λh=>.lft (.pure λh=>(by cases h))
 rw[wrap64 (by omega) (by omega)]
 exact .cnt ⟨⟨by omega,by omega⟩,by grind⟩
theorem Auc (s:List NS):Hs (TU s) λe=>e=0->s.length<=512:=by
 refine .dec (λ_=>.pure λh=>by simp at h) λh=>?_
 have hl:s.length<=512:=by omega
 refine(Hs.loop (Q:=λ_=>True) (λi=>∃ k:Nat,i=(k:Int)/\k<=s.length) (λi=>s.length-i.toNat) ⟨0,rfl,aAE _⟩ ?_).mono λ_ _ _=>hl
 rintro _ ⟨k,rfl,hk⟩;refine .dec (λhlt=>?_) λ_=>.lft (.pure trivial)
 refine(Hs.ix (P:=λ_=>True) (by omega) hlt λ_ _=>trivial).bind λx _=>(Awv _).bind λb _=>.cond (λ_=>.lft (.pure trivial)) λ_=>?_
 refine(Hs.ix (P:=λ_=>True) (by omega) hlt λ_ _=>trivial).bind λy _=>(Avn _).bind λb _=>.cond (λ_=>.lft (.pure trivial)) λ_=>?_
 rw[NO (by omega)]
 exact .cnt ⟨⟨k+1,rfl,by omega⟩,by grind⟩
theorem Ata (a b:NS):Hs (Acg a b) λ_=>True:=by
 exact .cond (λ_=>.pure trivial) λ_=>.cond (λ_=>.pure trivial) λ_=>.pure trivial
attribute [local simp] OA aAG
theorem Akx:Lib.compact ([]:List Int)=[]:=by simp[Lib.compact,Lib.compactUpTo]
theorem Aky (a:Int):Lib.compact [a]=[a]:=by simp[Lib.compact,Lib.compactUpTo,aAg,Lib.keeps]
theorem Agv (a b:Int):Lib.compact [a,b]=if a=b then[a]else[a,b]:=by
 by_cases h:a=b
 ·simp_all[Lib.compact,Lib.compactUpTo,aAg,Lib.keeps]
 ·have h':¬ b=a:=λe=>h e.symm
  simp_all[Lib.compact,Lib.compactUpTo,aAg,Lib.keeps]
theorem AqI (a:Int):YK [a]=[a]:=by simp[YK]
theorem AqH:YK []=[]:=by simp[YK]
theorem Avz (a b:Int):YK [a,b]=if a<=b then[a,b]else[b,a]:=by
 unfold YK List.mergeSort
 by_cases h:a<=b<;>simp[List.MergeSort.Internal.splitInTwo,h]
theorem AuU (h:f.Code[k]? =some x) (hk:k<9223372036854775807):AdI f (k:Int)=some (QW x k):=by
 obtain⟨hl,hx⟩:=aAB.1 h;have hnl:¬ f.Code.length<=k:=by omega
 have w:IntKind.i64.wrap ((k:Int)+1)=(k:Int)+1:=wrap64 (by omega) (by omega)
 unfold AdI AbI YX QW PJ;obtain⟨op,a,b,c,i⟩:=x
 by_cases h20:op=20
 ·subst h20;simp[hx,hl,hnl,show ¬ (k:Int)<0 by omega,AqI,Aky]
 ·by_cases h23:op=23
  ·simp_all[AqH,Akx]
  ·by_cases h24:op=24
   ·simp_all[AqH,Akx]
   ·have e24:(op==24)=false:=by simp_all
    by_cases h21:op=21
    ·subst h21;simp[hx,hl,hnl,show ¬ (k:Int)<0 by omega,w,Avz]
     by_cases hb:b<(k:Int)+1
     ·simp[hb,show ¬ (k:Int)+1<=b by omega,Agv,show ¬ b=(k:Int)+1 by omega]
     ·by_cases hb':(k:Int)+1<b
      ·simp[hb,hb',show(k:Int)+1<=b by omega,Agv,show ¬ (k:Int)+1=b by omega]
      ·simp[Agv,show(k:Int)+1=b by omega]
    ·simp[hx,hl,hnl,show ¬ (k:Int)<0 by omega,w,e24,h20,h23,h24,h21,AqI,Aky]
attribute [local simp] OA
theorem ApO (hs:s.Pairwise (· <·)) {n:Int} {h:s.length-1<s.length} (hl:s[s.length-1]<n):∀ v∈s,v<n:=by
 grind [List.getElem_of_mem,aAl]
theorem AvI (s:List Int) (f:Lo) (hs:s.length<=maxLen):Hs (Sz s f) λb=>(b=false↔Ot f.Slots.length s):=by
 have hm:maxLen<=9223372036854775807:=by decide
 unfold Sz;rw[AnH s (by omega),aA]
 by_cases hc:Uu none s=true
 ·have hset:=(Acy s).1 hc;rw[hc];refine .dec (λhp=>?_) λhp=>?_
  ·have hi:s.length-1<s.length:=by omega
   have w:IntKind.i64.wrap ((s.length:Int)-1)=((s.length-1:Nat):Int):=by grind [wrap64]
   rw[w,Oo,aAA hi,aA];refine .pure ⟨λh=>⟨hset,ApO hset.1 (h:=hi) (by simp_all)⟩,λh=>?_⟩
   have:=h.2 _ (aAF hi);simp;omega
  ·have:s=[]:=aAT.1 (by omega)
   subst this;exact .pure ⟨λ_=>Ot.nil _,λ_=>rfl⟩
 ·have hc':Uu none s=false:=by simp_all
  rw[hc'];exact .pure ⟨λh=>(by cases h),λh=>(hc ((Acy s).2 h.1)).elim⟩
theorem AnQ (f:Lo) (l:Oa) (hl:l.Out.length<=maxLen) (hr:∀ s∈l.Out,s.length<=maxLen):Hs (Vt f l) λb=>(b=true↔RC f l.Out):=by
 have hm:maxLen<=9223372036854775807:=by decide
 refine .beq (λhe=>?_) λhne=>.pure ⟨λh=>(by cases h),λh=>(hne (by rw[h.1])).elim⟩
 have he:l.Out.length=f.Code.length:=by omega
 have key:Hs (QO l.Out f) λi=>(0<=i↔¬ ∀ s∈l.Out,Ot f.Slots.length s):=by
  refine Hs.loop (λi=>∃ k:Nat,i=(k:Int)/\k<=l.Out.length/\∀ (j:Nat) s,j<k->l.Out[j]? =some s->Ot f.Slots.length s) (λi=>l.Out.length-i.toNat) ⟨0,rfl,aAE _,λj s h=>absurd h (aAI _)⟩ ?_
  rintro _ ⟨k,rfl,hk,hall⟩;refine .dec (λhlt=>?_) λhge=>?_
  ·have hlt:k<l.Out.length:=by omega
   rw[Oo,aAA hlt,aA];refine(AvI _ f (hr _ (aAF hlt))).bind λb hb=>.cond (λh=>?_) λh=>?_
   ·refine .lft (.pure ⟨λ_ hh=>?_,λ_=>by omega⟩)
    simp_all
   ·rw[NO (by omega)]
    refine .cnt ⟨⟨k+1,rfl,hlt,λj s hj hs=>?_⟩,by grind⟩
    grind
  ·refine .lft (.pure ⟨λh=>by omega,λh=>(h λs hs=>?_).elim⟩)
   grind [aAH]
 refine Hs.bind (P:=λb=>(b=true↔¬ ∀ s∈l.Out,Ot f.Slots.length s)) (key.bind λi hi=>.pure (by simp_all)) λb hb=>.pure ?_
 constructor
 ·intro h;have hb':b=false:=by simp_all
  refine⟨he,λs hs=>?_⟩
  simp_all
 ·intro h;have:¬ b=true:=λhbt=>hb.1 hbt h.2
  simp_all
theorem Aqx (f:Lo) (l:Oa) (hl:l.Out.length<=maxLen) (hr:∀ s∈l.Out,s.length<=maxLen):Hs (Aas f l) λb=>(b=true↔RC f l.Out):=by
 have hm:maxLen<=9223372036854775807:=by decide
 refine .bne (λhne=>.pure ⟨λh=>(by cases h),λh=>(hne (by rw[h.1])).elim⟩) λhe=>?_
 have he:l.Out.length=f.Code.length:=by omega
 refine Hs.loop (λi=>∃ k:Nat,i=(k:Int)/\k<=l.Out.length/\∀ (j:Nat) s,j<k->l.Out[j]? =some s->Ot f.Slots.length s) (λi=>l.Out.length-i.toNat) ⟨0,rfl,aAE _,λj s h=>absurd h (aAI _)⟩ ?_
 rintro _ ⟨k,rfl,hk,hall⟩;refine .dec (λhlt=>?_) λhge=>?_
 ·have hlt:k<l.Out.length:=by omega
  have hg:l.Out[k]? =some l.Out[k]:=aAA hlt;have hlen:=hr _ (aAF hlt);rw[Oo,hg,aA,AeX _ (by omega),aA]
  have next:Ot f.Slots.length l.Out[k]->Hs (cnt (R:=Bool) (IntKind.i64.wrap ((k:Int)+1))) (Rnd (λi:Int=>∃ k:Nat,i=(k:Int)/\k<=l.Out.length/\∀ (j:Nat) s,j<k->l.Out[j]? =some s->Ot f.Slots.length s) (λi=>l.Out.length-i.toNat) (k:Int) λb=>(b=true↔RC f l.Out)):=by
   intro hset;rw[NO (by omega)]
   refine .cnt ⟨⟨k+1,rfl,hlt,λj s hj hs=>?_⟩,by grind⟩
   grind
  have stop:¬ Ot f.Slots.length l.Out[k]->((false:Bool)=true↔RC f l.Out):=λhn=>⟨λh=>(by cases h),λh=>(hn (h.2 _ (aAF hlt))).elim⟩
  by_cases hc:Uu none l.Out[k]=true
  ·have hset:=(Acy _).1 hc;rw[hc];simp only[aAY,cond_false,aA];refine .dec (λhp=>?_) λhp=>?_
   ·have hi:l.Out[k].length-1<l.Out[k].length:=by omega
    have w:IntKind.i64.wrap ((l.Out[k].length:Int)-1)=((l.Out[k].length-1:Nat):Int):=by grind [wrap64]
    rw[w,Oo,aAA hi,aA];refine .dec (λh=>.lft (.pure (stop λhh=>?_))) λh=>next ⟨hset,ApO hset.1 (h:=hi) (by omega)⟩
    have:=hh.2 _ (aAF hi);omega
   grind [aAT,Ot.nil]
  ·have hc':Uu none l.Out[k]=false:=by simp_all
   rw[hc'];exact .lft (.pure (stop λh=>hc ((Acy _).2 h.1)))
 ·refine .lft (.pure ⟨λ_=>⟨he,λs hs=>?_⟩,λ_=>rfl⟩)
  grind [aAH]
def UT (f:Lo) (l:List (List Int)) (k:Int):List Int :=
 (QW (NJ f k) k).foldl (λo j=>QK o ((inN (NJ f j) (Oc l j)).filter λv=>!decide (v∈Oc l k))) []
theorem RC.at (h:RC f l) (h0:0<=j) (h1:j<f.Code.length):l[j.toNat]? =some (Oc l j)/\Ot f.Slots.length (Oc l j):=by
 have hl:j.toNat<l.length:=by have:=h.1;omega
 have:l[j.toNat]? =some (Oc l j):=by grind [Oc]
 exact⟨this,h.2 _ (aAD this)⟩
theorem On.at (_h:On f) (h0:0<=j) (h1:j<f.Code.length):f.Code[j.toNat]? =some (NJ f j)/\NJ f j∈f.Code:=by
 grind [NJ]
theorem On.AwE (h:On f) (hx:x∈f.Code):∀ v∈Pk x,0<=v/\v<512:=λv hv=>by have:=h.uses x hx v hv;have:=h.slots;omega
theorem AjL (hf:On f) (hl:RC f l) {k:Int} (_hk:0<=k/\k<f.Code.length) (hj:0<=j/\j<f.Code.length) {o:List Int} (ho:Ot f.Slots.length o) :
  Ot f.Slots.length (QK o ((inN (NJ f j) (Oc l j)).filter λv=>!decide (v∈Oc l k)))/\∀ v,v∈QK o ((inN (NJ f j) (Oc l j)).filter λv=>!decide (v∈Oc l k))↔v∈o\/(v∈inN (NJ f j) (Oc l j)/\v∉Oc l k):=by
 have hsl:=hf.slots;obtain⟨g1,g2⟩:=AcG hf (hf.at hj.1 hj.2).2 (hl.at hj.1 hj.2).2;obtain⟨g3,g4⟩:=UY (n:=f.Slots.length) (by omega) (b:=(inN (NJ f j) (Oc l j)).filter λv=>!decide (v∈Oc l k)) ho λx hx=>⟨(g1.1.2 x (aAZ.1 hx).1).1,g1.2 x (aAZ.1 hx).1⟩
 exact⟨g3,λv=>by simp_all⟩
theorem AnU {f:Lo} (hf:On f) {l:List (List Int)} (hl:RC f l) {k:Int} (hk:0<=k/\k<f.Code.length):∀ {js:List Int} {o:List Int},(∀ j∈js,0<=j/\j<f.Code.length)->Ot f.Slots.length o ->
  Ot f.Slots.length (js.foldl (λo j=>QK o ((inN (NJ f j) (Oc l j)).filter λv=>!decide (v∈Oc l k))) o)/\∀ v,v∈js.foldl (λo j=>QK o ((inN (NJ f j) (Oc l j)).filter λv=>!decide (v∈Oc l k))) o↔v∈o\/∃ j∈js,v∈inN (NJ f j) (Oc l j)/\v∉Oc l k
 | [],o,_,ho=>⟨ho,λv=>by simp⟩
 | j::js,o,hj,ho=>by
  obtain⟨h1,h2⟩:=AjL hf hl hk (hj j (aAJ ..)) ho;obtain⟨h5,h6⟩:=AnU hf hl hk (λq hq=>hj q (aAK _ hq)) h1
  grind
theorem Alg (hf:On f) (hl:RC f l) (hk:k<f.Code.length):Ot f.Slots.length (UT f l k)/\∀ v,v∈UT f l k↔∃ j∈QW (NJ f k) k,v∈inN (NJ f j) (Oc l j)/\v∉Oc l k:=by
 have hx:f.Code[k]? =some (NJ f k):=by grind [NJ]
 obtain⟨h1,h2⟩:=AnU hf hl (k:=(k:Int)) ⟨by omega,by omega⟩ (hf.next k _ hx) (Ot.nil _)
 grind [UT]
theorem ArK (x:NH) (k:Int):(QW x k).length<=2:=by grind [QW]
theorem Asz (hf:On f) {l:Oa} (hl:RC f l.Out) (hk:k<f.Code.length):PW f k l [] l k=some (true,UT f l.Out k):=by
 have hlen:=hf.len';have hx:f.Code[k]? =some (NJ f k):=by grind [NJ]
 have hn:=hf.next k _ hx;have h2:=ArK (NJ f k) k;obtain⟨hk1,hk2⟩:=hl.at (j:=(k:Int)) (by omega) (by omega)
 simp only[aAC]at hk1;unfold PW;rw[AuU hx (by omega),aA]
 have:=RT (body:=λs:List Int×Int=>PD (QW (NJ f k) k) f l l k s.1 s.2) (QW (NJ f k) k) (λ(o:List Int) i=>(o,i)) (λo _=>Ot f.Slots.length o)
  (λo js=>some (true,js.foldl (λo j=>QK o ((inN (NJ f j) (Oc l.Out j)).filter λv=>!decide (v∈Oc l.Out k))) o))
  (λo _=>⟨_,by simp[PD];rfl,by simp⟩) (λo i j r ho hd hi hj=>by
   left;have wi:=NO (show i<9223372036854775807 by omega)
   have hjm:=hn j (aAD hj);obtain⟨c1,c2⟩:=hf.at hjm.1 hjm.2;obtain⟨o1,o2⟩:=hl.at hjm.1 hjm.2;obtain⟨g1,g2⟩:=AjL hf hl (k:=(k:Int)) ⟨by omega,by omega⟩ hjm ho
   obtain⟨s1,s2⟩:=AcG hf c2 o2;have hsl:=hf.slots;have e1:=Axc o2.1 (hf.AwE c2);have e2:=AqV s1.1 hk2.1;have e3:=Agt ho.1 (b:=(inN (NJ f j) (Oc l.Out j)).filter λv=>!decide (v∈Oc l.Out k)) (λx hx=>by have:=s1.1.2 x (aAZ.1 hx).1;exact this) (by have:=(s1.1.filter λv=>!decide (v∈Oc l.Out k)).length_le;omega)
   obtain⟨_,hje⟩:=aAB.1 hj;refine⟨_,g1,?_,rfl⟩
   simp_all[PD,VB,SH,Pu]) [] (Ot.nil _)
 exact this
theorem Arv (hf:On f) {l:Oa} (hl:RC f l.Out) (hk:k<f.Code.length):Yg f l k=some (UT f l.Out k):=by
 have hlen:=hf.len';have hx:f.Code[k]? =some (NJ f k):=by grind [NJ]
 have hn:=hf.next k _ hx;have h2:=ArK (NJ f k) k;obtain⟨hk1,hk2⟩:=hl.at (j:=(k:Int)) (by omega) (by omega)
 simp only[aAC]at hk1;unfold Yg;rw[Aqv hx (by omega),aA]
 have:=RT (body:=λs:List Int×Int=>Vv (QW (NJ f k) k) f l k s.1 s.2) (QW (NJ f k) k) (λ(o:List Int) i=>(o,i)) (λo _=>Ot f.Slots.length o)
  (λo js=>some (js.foldl (λo j=>QK o ((inN (NJ f j) (Oc l.Out j)).filter λv=>!decide (v∈Oc l.Out k))) o))
  (λo _=>⟨_,by simp[Vv];rfl,by simp⟩) (λo i j r ho hd hi hj=>by
   left;have wi:=NO (show i<9223372036854775807 by omega)
   have hjm:=hn j (aAD hj);obtain⟨c1,c2⟩:=hf.at hjm.1 hjm.2;obtain⟨o1,o2⟩:=hl.at hjm.1 hjm.2;obtain⟨g1,g2⟩:=AjL hf hl (k:=(k:Int)) ⟨by omega,by omega⟩ hjm ho
   obtain⟨s1,s2⟩:=AcG hf c2 o2;have hsl:=hf.slots;have e1:=AvO (NJ f j) (Oc l.Out j) (by have:=o2.1.length_le;omega)
   have e2:=AtY (inN (NJ f j) (Oc l.Out j)) (Oc l.Out k) (by have:=s1.1.length_le;omega) (by have:=hk2.1.length_le;omega)
   have e3:=union_eq o ((inN (NJ f j) (Oc l.Out j)).filter λv=>!decide (v∈Oc l.Out k)) (by have:=(s1.1.filter λv=>!decide (v∈Oc l.Out k)).length_le;have:=ho.1.length_le;omega)
   obtain⟨_,hje⟩:=aAB.1 hj;refine⟨_,g1,?_,rfl⟩
   simp_all[Vv,Pu]) [] (Ot.nil _)
 exact this
def AeP (f:Lo) (l:List (List Int)) (r:Int×Int×Bool):Prop :=
 (RC f l/\∃ (k:Nat) (v:Int),k<f.Code.length/\(∀ j:Nat,j<k->UT f l j=[])/\(UT f l k)[0]? =some v/\r=((k:Int),v,true)) \/
 ((RC f l->∀ j:Nat,j<f.Code.length->UT f l j=[])/\r=(0,0,false))
theorem AeP.unique {r q:Int×Int×Bool} (h:AeP f l r) (k:AeP f l q):r=q:=by
 rcases h with⟨h0,i,v,h1,h2,h3,rfl⟩|⟨h1,rfl⟩<;>rcases k with⟨k0,j,u,k1,k2,k3,rfl⟩|⟨k1,rfl⟩
 all_goals grind
def Acc (f:Lo) (l:List (List Int)):Prop:=RC f l/\∀ j:Nat,j<f.Code.length->UT f l j=[]
theorem AeP.acc {r:Int×Int×Bool} (h:AeP f l r) (hl:RC f l):r.2.2=false↔Acc f l:=by
 rcases h with⟨h0,i,v,h1,h2,h3,rfl⟩|⟨h1,rfl⟩
 ·exact⟨λh=>(by cases h),λh=>by rw[h.2 i h1]at h3;cases h3⟩
 ·exact⟨λ_=>⟨hl,h1 hl⟩,λ_=>rfl⟩
def TP (l:List (List Int)):Prop:=l.length<=maxLen/\∀ s∈l,s.length<=maxLen
theorem AuT (hf:On f) {l:Oa} (hl:TP l.Out):Hs (YF f l) (AeP f l.Out):=by
 have hlen:=hf.len';refine(AnQ f l hl.1 hl.2).bind λb hb=>.cond (λh=>?_) λh=>?_
 ·have hb':¬ b=true:=by simp_all
  exact .pure (.inr ⟨λhh=>(hb' (hb.2 hh)).elim,rfl⟩)
 ·have hb':b=true:=by simp_all
  have hok:=hb.1 hb';refine Hs.loop (λi=>∃ k:Nat,i=(k:Int)/\k<=f.Code.length/\∀ j:Nat,j<k->UT f l.Out j=[]) (λi=>f.Code.length-i.toNat) ⟨0,rfl,aAE _,λj h=>absurd h (aAI _)⟩ ?_
  rintro _ ⟨k,rfl,hk,hall⟩;refine .dec (λhlt=>?_) λhge=>?_
  ·have hlt:k<f.Code.length:=by omega
   rw[show Zu l=some l from rfl,aA,Asz hf hok hlt,aA]
   refine .dec (λhp=>?_) λhp=>?_
   ·have hp:0<(UT f l.Out k).length:=by simp_all
    simp only[AuY];have hg:(UT f l.Out k)[0]? =some ((UT f l.Out k)[0]):=aAA hp;rw[hg,aA];exact .lft (.pure (.inl ⟨hok,k,_,hlt,hall,hg,rfl⟩))
   ·rw[NO (by omega)]
    refine .cnt ⟨⟨k+1,rfl,hlt,λj hj=>?_⟩,by grind⟩
    grind [aAT]
  ·exact .lft (.pure (.inr ⟨λ_ j hj=>hall j (by omega),rfl⟩))
theorem AtX (hf:On f) {l:Oa} (hl:TP l.Out):Hs (Adr f l) (AeP f l.Out):=by
 have hlen:=hf.len';refine(Aqx f l hl.1 hl.2).bind λb hb=>.cond (λh=>?_) λh=>?_
 ·have hb':¬ b=true:=by simp_all
  exact .pure (.inr ⟨λhh=>(hb' (hb.2 hh)).elim,rfl⟩)
 ·have hb':b=true:=by simp_all
  have hok:=hb.1 hb';refine Hs.loop (λi=>∃ k:Nat,i=(k:Int)/\k<=f.Code.length/\∀ j:Nat,j<k->UT f l.Out j=[]) (λi=>f.Code.length-i.toNat) ⟨0,rfl,aAE _,λj h=>absurd h (aAI _)⟩ ?_
  rintro _ ⟨k,rfl,hk,hall⟩;refine .dec (λhlt=>?_) λhge=>?_
  ·have hlt:k<f.Code.length:=by omega
   rw[Arv hf hok hlt,aA];refine .dec (λhp=>?_) λhp=>?_
   ·have hp:0<(UT f l.Out k).length:=by omega
    refine .chk (by omega) ?_
    have hg:(UT f l.Out k)[0]? =some ((UT f l.Out k)[0]):=aAA hp;rw[show(0:Int).toNat=0 from rfl,hg,aA]
    exact .lft (.pure (.inl ⟨hok,k,_,hlt,hall,hg,rfl⟩))
   ·rw[NO (by omega)]
    refine .cnt ⟨⟨k+1,rfl,hlt,λj hj=>?_⟩,by grind⟩
    grind [aAT]
  ·exact .lft (.pure (.inr ⟨λ_ j hj=>hall j (by omega),rfl⟩))
theorem AkQ (hf:On f) {l:Oa} (hl:TP l.Out):Hs (Um f l) λe=>(e=0\/e=11)/\(e=0↔Acc f l.Out):=by
 refine(AnQ f l hl.1 hl.2).bind λb hb=>.cond (λh=>?_) λh=>?_
 ·have hb':¬ b=true:=by simp_all
  exact .pure ⟨.inr rfl,λh=>by omega,λh=>(hb' (hb.2 h.1)).elim⟩
 ·have hb':b=true:=by simp_all
  refine(AuT hf hl).bind λr hr=>.cond (λh=>.pure ⟨.inr rfl,λh=>by omega,λh'=>?_⟩) λh=>.pure ⟨.inl rfl,λ_=>(hr.acc (hb.1 hb')).1 h,λ_=>rfl⟩
  rw[(hr.acc h'.1).2 h']at h;cases h
theorem AtT (hf:On f) {l:Oa} (hl:TP l.Out):Hs (Adq f l) λe=>(e=0\/e=11)/\(e=0↔Acc f l.Out):=by
 refine(AtX hf hl).bind λr hr=>.cond (λh=>.pure ⟨.inr rfl,λh=>by omega,λh'=>?_⟩) λh=>?_
 ·rw[(hr.acc h'.1).2 h']at h;cases h
 ·refine(Aqx f l hl.1 hl.2).bind λb hb=>.cond (λh=>?_) λh2=>?_
  ·have hb':¬ b=true:=by simp_all
   exact .pure ⟨.inr rfl,λh=>by omega,λh=>(hb' (hb.2 h.1)).elim⟩
  ·have hb':b=true:=by simp_all
   exact .pure ⟨.inl rfl,λ_=>(hr.acc (hb.1 hb')).1 h,λ_=>rfl⟩
theorem RC.len (hf:On f) (h:RC f l):TP l:=by
 have hm:(100000:Nat)<=maxLen:=by decide
 have:=hf.len';have:=h.1;exact⟨by omega,λs hs=>by have:=(h.2 s hs).1.length_le;omega⟩
theorem AvV (hf:On f) (hl:RC f l):Acc f l↔LE (TW f l) l:=by
 constructor
 ·rintro⟨_,h⟩ k s t hs ht v hv;have hk:k<f.Code.length:=by have:=(aAB.1 ht).1;have:=hl.1;omega
  have e1:s=Yr f l k:=by grind [TW]
  have e2:t=Oc l k:=by grind [Oc]
  subst e1 e2;rw[(Aax hf hl hk).2]at hv;obtain⟨j,hj,hv⟩:=hv;refine aAc λhn=>?_
  have:v∈UT f l k:=((Alg hf hl hk).2 v).2 ⟨j,hj,hv,hn⟩;simp_all
 ·intro h;refine⟨hl,λk hk=>?_⟩
  refine List.eq_nil_iff_forall_not_mem.2 λv hv=>?_
  obtain⟨j,hj,h1,h2⟩:=((Alg hf hl hk).2 v).1 hv;refine h2 (h k (Yr f l k) (Oc l k) (by grind [TW]) ?_ v (((Aax hf hl hk).2 v).2 ⟨j,hj,h1⟩))
  have:=(hl.at (j:=(k:Int)) (by omega) (by omega)).1
  simp_all
theorem Acc.mem (hf:On f) (h:Acc f l) (hk:k<f.Code.length) (hj:j∈QW (NJ f k) k) (hv:v∈inN (NJ f j) (Oc l j)):v∈Oc l k:=by
 refine aAc λhn=>?_
 have:v∈UT f l k:=((Alg hf h.1 hk).2 v).2 ⟨j,hj,hv,hn⟩;rw[h.2 k hk]at this;cases this
theorem AmB.acc (hf:On f) (h:AmB f l):Acc f l:=by
 rw[AvV hf h.ok,h.fix];intro k s t hs ht v hv;simp_all
def I64 (v:Int):Prop:=-9223372036854775808<=v/\v<=9223372036854775807
def AsU (l:List (List Int)):Prop:=∀ s∈l,s.length<=512/\∀ v∈s,I64 v
def Apl (l:List (List Int)):Prop:=∀ s∈l,OK s
theorem Apl.set (h:Apl l) (hs:OK s):Apl (l.set k s):=by
 intro t ht;rcases aAa ht with h1|rfl
 ·exact h t h1
 ·exact hs
theorem OK.add (h:OK s) (n:Int):OK (QT n s):=by
 unfold QT;split
 ·exact h.Uv (by assumption)
 ·exact h
theorem AsU.len (hf:On f) (h1:l.length<=f.Code.length) (h2:AsU l):TP l:=by
 have hm:(100000:Nat)<=maxLen:=by decide
 have:=hf.len';exact⟨by omega,λs hs=>by have:=(h2 s hs).1;omega⟩
def Agw (x:NH):Int×Bool:=if x.Op=16\/x.Op=17 then(x.A,true)else(0,false)
theorem Aka (x:NH):Sl x=some (Agw x):=by
 grind [Sl,RU,Agw]
def Rl (f:Lo):Prop:=∀ x∈f.Code,(x.Op=16\/x.Op=17)->0<=x.A/\x.A<f.Slots.length
theorem UA.defs {i most:Int} (h:UA ps i most f):Rl f:=by
 intro x hx hop;obtain⟨k,hk⟩:=aAH hx;have hkl:=(aAB.1 hk).1
 by_cases hk1:k+1<f.Code.length
 ·have hins:=h.body k x hk hk1;cases hins with
  | store a b h0 h1 h2=>simp_all
  | move a b h0 h1 h2=>exact⟨h0.1,h0.2.1⟩
  | bin op a b c h1 h2 h3 h4 h5 h6=>grind
  | un op a h1 h2=>grind
  | _=>simp at hop
 ·have he:=h.last x (by grind)
  rcases he with rfl|⟨w,_,rfl⟩<;>simp at hop
def Yp (x:NH) (v:Int):Bool:=x.Op==17&&x.B==v
def AcK (_:NH) (_:Int):Bool:=false
def Aph (mv:NH->Int->Bool) (f:Lo) (l:List (List Int)) (k:Nat) (a v:Int):Prop :=
 a=(NJ f k).A/\((NJ f k).Op=16\/(NJ f k).Op=17)/\¬ ((NJ f k).Op=17/\(NJ f k).A=(NJ f k).B)/\v∈Oc l k/\v≠a/\mv (NJ f k) v=false
def Abu (mv:NH->Int->Bool) (f:Lo) (l:List (List Int)) (k:Nat) (a v:Int):Prop:=∃ j<k,Aph mv f l j a v
def Ed (mv:NH->Int->Bool) (f:Lo) (l:List (List Int)) (a v:Int):Prop:=Abu mv f l f.Code.length a v
def AdU (mv:NH->Int->Bool) (f:Lo) (l:List (List Int)) (k i:Nat) (a v:Int):Prop :=
 Abu mv f l k a v\/(a=(NJ f k).A/\v∈(Oc l k).take i/\v≠a/\mv (NJ f k) v=false)
theorem AnO:Abu mv f l (k+1) a v↔Abu mv f l k a v\/Aph mv f l k a v:=by
 constructor
 ·rintro⟨j,hj,h⟩
  by_cases e:j=k
  ·simp_all
  ·exact .inl ⟨j,by omega,h⟩
 ·rintro(⟨j,hj,h⟩|h)
  ·exact⟨j,by omega,h⟩
  ·exact⟨k,by omega,h⟩
theorem Atq:AdU mv f l k 0 a v↔Abu mv f l k a v:=by simp[AdU]
theorem AuR (h1:(NJ f k).Op=16\/(NJ f k).Op=17) (h2:¬ ((NJ f k).Op=17/\(NJ f k).A=(NJ f k).B)) :
  AdU mv f l k (Oc l k).length a v↔Abu mv f l (k+1) a v:=by
 grind [AnO,AdU,Aph]
theorem AnM {x:Int} (hx:(Oc l k)[i]? =some x) :
  AdU mv f l k (i+1) a v↔AdU mv f l k i a v\/(a=(NJ f k).A/\v=x/\x≠a/\mv (NJ f k) x=false):=by
 grind [aAV,AdU]
theorem AnN (h:((NJ f k).Op≠16/\(NJ f k).Op≠17)\/((NJ f k).Op=17/\(NJ f k).A=(NJ f k).B)) :
  Abu mv f l (k+1) a v↔Abu mv f l k a v:=by
 rw[AnO];constructor
 ·rintro(h1|⟨_,h2,h3,_⟩)
  all_goals omega
 simp_all
theorem Atp {x:Int} (hx:(Oc l k)[i]? =some x) (h:x=(NJ f k).A\/mv (NJ f k) x=true) :
  AdU mv f l k (i+1) a v↔AdU mv f l k i a v:=by
 grind [AnM]
def AfY (m:List (List Bool)) (a v:Nat):Bool:=(((m[a]?).getD [])[v]?).getD false
def AjU (n:Nat) (m:List (List Bool)) (P:Int->Int->Prop):Prop :=
 m.length=n/\(∀ row∈m,row.length=n)/\∀ a v:Nat,a<n->v<n->(AfY m a v=true↔P a v\/P v a)
theorem AjU.congr {n:Nat} {P Q:Int->Int->Prop} (h:AjU n m P) (hq:∀ a v,Q a v↔P a v):AjU n m Q :=
 ⟨h.1,h.2.1,λa v ha hv=>by rw[h.2.2 a v ha hv,hq,hq]⟩
theorem AnK {n:Nat} (hl:m.length=n) {d:Nat} (hd:d<n) (r:List Bool) (a v:Nat):AfY (m.set d r) a v=if a=d then(r[v]?).getD false else AfY m a v:=by
 unfold AfY
 grind
theorem ApM {n:Nat} {r:List Bool} (hl:r.length=n) {v:Nat} (hv:v<n) (b:Nat):((r.set v true)[b]?).getD false=if b=v then true else(r[b]?).getD false:=by
 grind
theorem AjU.set {n:Nat} {P:Int->Int->Prop} (h:AjU n m P) {d v:Nat} {r1 r2:List Bool} (hd:d<n) (hv:v<n) (hne:d≠v) (h1:m[d]? =some r1) (h2:m[v]? =some r2) :
  AjU n ((m.set d (r1.set v true)).set v (r2.set d true)) (λa b=>P a b\/(a=d/\b=v)):=by
 obtain⟨hl,hr,hc⟩:=h;have l1:=hr _ (aAD h1);have l2:=hr _ (aAD h2);refine⟨by simp[hl],λrow hrow=>?_,λa b ha hb=>?_⟩
 ·grind
 ·rw[AnK (n:=n) (by simp[hl]) hv,AnK hl hd,ApM l2 hd,ApM l1 hv]
  have e1:(r1[b]?).getD false=AfY m d b:=by grind [AfY]
  have e2:(r2[b]?).getD false=AfY m v b:=by grind [AfY]
  grind
def Ql (n:Nat) (out:List (List Int)) (Q:Nat->Int->Prop):Prop:=out.length=n/\∀ (a:Nat) s,out[a]? =some s->Ot n s/\∀ v,v∈s↔Q a v
theorem Ql.congr {n:Nat} {out:List (List Int)} {P:Nat->Int->Prop} (h:Ql n out P) (hq:∀ a v,a<n->(Q a v↔P a v)):Ql n out Q :=
 ⟨h.1,λa s hs=>⟨(h.2 a s hs).1,λv=>by rw[(h.2 a s hs).2 v,hq a v (by have:=(aAB.1 hs).1;have:=h.1;omega)]⟩⟩
theorem Ql.ext {n:Nat} {o1 o2:List (List Int)} (h1:Ql n o1 Q) (h2:Ql n o2 Q):o1=o2:=by
 apply aAd;intro a
 by_cases ha:a<n
 ·have e1:o1[a]? =some (o1[a]'(by have:=h1.1;omega)):=aAA _
  have e2:o2[a]? =some (o2[a]'(by have:=h2.1;omega)):=aAA _
  rw[e1,e2,(h1.2 a _ e1).1.1.ext (h2.2 a _ e2).1.1 λv=>by rw[(h1.2 a _ e1).2 v,(h2.2 a _ e2).2 v]]
 ·rw[aAM (by have:=h1.1;omega),aAM (by have:=h2.1;omega)]
theorem Ql.nil (n:Nat) (hq:∀ a v,¬ Q a v):Ql n (List.replicate n []) Q :=
 ⟨by simp,λa s hs=>by
  grind [Ot.nil]⟩
theorem Ql.set {n:Nat} {out:List (List Int)} {P:Nat->Int->Prop} (h:Ql n out P) {d:Nat} (_hd:d<n) (hs:Ot n s) (h1:∀ v,v∈s↔Q d v) (h2:∀ a v,a≠d->(Q a v↔P a v)):Ql n (out.set d s) Q:=by
 refine⟨by simp[h.1],λa t ht=>?_⟩
 by_cases e:a=d
 ·grind
 ·rw[aAW (λh=>e h.symm)]at ht
  exact⟨(h.2 a t ht).1,λv=>by rw[(h.2 a t ht).2 v,h2 a v e]⟩
def YM (mv:NH->Int->Bool) (f:Lo) (l:List (List Int)) (r:List (List Int)×Int):Prop :=
 (r.2=0/\Acc f l/\Ql f.Slots.length r.1 λa v=>Ed mv f l a v\/Ed mv f l v a)\/(r.2=11/\¬ Acc f l/\r.1=[])
theorem YM.unique {r q:List (List Int)×Int} (h:YM mv f l r) (k:YM mv f l q):r=q:=by
 obtain⟨r1,r2⟩:=r;obtain⟨q1,q2⟩:=q;rcases h with⟨h1,h2,h3⟩|⟨h1,h2,h3⟩<;>rcases k with⟨k1,k2,k3⟩|⟨k1,k2,k3⟩
 ·simp only at h1 k1 h3 k3;rw[h1,k1,h3.ext k3]
 all_goals simp_all
def NZ (to:List Int) (s:Int):Int:=(to[s.toNat]?).getD 0
def Pj (f:Lo) (s:Int):Int:=((f.Slots[s.toNat]?).map NS.Size).getD 0
def AeR (f:Lo) (to:List Int):Prop :=
 to.length=f.Slots.length/\∀ s:Nat,s<to.length->0<=NZ to s/\NZ to s<to.length/\Pj f (NZ to s)=Pj f s/\NZ to (NZ to s)=NZ to s
theorem QJ {s:Int} (h0:0<=s) (h:s<to.length):to[s.toNat]? =some (NZ to s):=by
 grind [NZ]
theorem ZL {s:Int} {x:NS} (h:f.Slots[s.toNat]? =some x):x.Size=Pj f s:=by
 simp[Pj,h]
def Oh (keep:List Bool) (k:Nat):Bool:=(keep[k]?).getD true
def So (f:Lo) (r:NU):Prop :=
 AeR f r.To/\r.Keep.length=f.Code.length/\∀ k:Nat,k<f.Code.length->Oh r.Keep k=false->(NJ f k).Op=16\/(NJ f k).Op=17
def rnS (to:List Int) (s:Int):Int:=if 0<=s/\s<to.length then NZ to s else s
theorem Axo (to:List Int) (s:Int):Tp s to=some (rnS to s):=by
 unfold Tp rnS
 by_cases h0:s<0
 ·grind
 ·rw[decide_eq_false h0,cond_false]
  by_cases h1:s>=(to.length:Int)
  ·grind
  ·rw[decide_eq_false h1,cond_false,if_pos (by omega),Pu _ (by omega),QJ (by omega) (by omega)]
   rfl
def rnI (to:List Int) (x:NH):NH :=
 if x.Op=15 then⟨x.Op,x.A,rnS to x.B,x.C,x.Imm⟩else if x.Op=16 then⟨x.Op,rnS to x.A,x.B,x.C,x.Imm⟩else if x.Op=17 then⟨x.Op,rnS to x.A,rnS to x.B,x.C,x.Imm⟩else x
theorem Aqu (x:NH) (to:List Int):VT x to=some (rnI to x):=by
 unfold VT rnI;simp only[Axo,aA]
 grind
theorem Ack (to:List Int) (x:NH):(rnI to x).Op=x.Op:=by
 unfold rnI
 grind
def kept (keep:List Bool) (k:Nat):Nat:=(keep.take k).countP id
theorem AeK (keep:List Bool) (k:Nat):kept keep k<=k:=by
 grind [kept,List.countP_le_length]
theorem Xz {keep:List Bool} {b:Bool} (h:keep[k]? =some b):kept keep (k+1)=kept keep k+(if b then 1 else 0):=by
 grind [kept,aAV]
theorem AnX (r:NU) (hl:r.Keep.length<=1000000):Hs (Acb r) λl=>l.length=r.Keep.length/\∀ j:Nat,j<r.Keep.length->l[j]? =some (kept r.Keep j:Int):=by
 refine Hs.loop (λs=>∃ k:Nat,s.2.2=(k:Int)/\k<=r.Keep.length/\s.2.1=(kept r.Keep k:Int)/\s.1.length=k/\∀ j:Nat,j<k->s.1[j]? =some (kept r.Keep j:Int)) (λs=>r.Keep.length-s.2.2.toNat) ⟨0,rfl,aAE _,rfl,rfl,λj hj=>absurd hj (aAI _)⟩ ?_
 rintro⟨l,n,_⟩ ⟨k,rfl,hk,hn,hll,hj⟩;subst hn;replace hll:l.length=k:=hll;refine .dec (λhlt=>?_) λhge=>.lft (.pure ?_)
 ·have hlt:k<r.Keep.length:=by simp_all
  have hg:r.Keep[k]? =some r.Keep[k]:=aAA _;generalize r.Keep[k]=b at hg;have hkl:=AeK r.Keep k;have hks:=Xz hg;have hap:∀ j:Nat,j<k+1->(l++[(kept r.Keep k:Int)])[j]? =some (kept r.Keep j:Int):=by
   grind
  refine .chk (by simp;omega) ?_
  simp only[Oo,hg,aA];rw[NO (show k<9223372036854775807 by omega),NO (show kept r.Keep k<9223372036854775807 by omega)]
  refine .cond (λh=>?_) λh=>?_
  ·subst h;exact .cnt ⟨⟨k+1,rfl,hlt,by simp_all,by simp[hll],hap⟩,by grind⟩
  ·subst h;exact .cnt ⟨⟨k+1,rfl,hlt,by simp_all,by simp[hll],hap⟩,by grind⟩
 ·have hkk:k=r.Keep.length:=by grind
  subst hkk;exact⟨hll,hj⟩
theorem Apr (x:NH):UW x=some (Pk x):=by
 grind [UW,Pk]
theorem AeR.rng (h:AeR f to) {s:Int} (h0:0<=s) (h1:s<f.Slots.length):0<=rnS to s/\rnS to s<f.Slots.length/\rnS to s=NZ to s:=by
 obtain⟨j,rfl⟩:∃ j:Nat,s=(j:Int):=⟨s.toNat,by omega⟩
 have hl:=h.1;have:=h.2 j (by omega)
 simp_all[rnS]
def OB (x:NH):List Int:=Pk x++(if x.Op=16\/x.Op=17 then[x.A]else[])
theorem Abl (hf:On f) (hd:Rl f) (h:AeR f to) (hx:x∈f.Code):∀ v∈OB (rnI to x),0<=v/\v<f.Slots.length:=by
 intro v hv;have hu:=hf.uses x hx;have hdf:=hd x hx;have key:∀ s:Int,0<=s->s<f.Slots.length->0<=rnS to s/\rnS to s<f.Slots.length:=λs h0 h1=>⟨(h.rng h0 h1).1,(h.rng h0 h1).2.1⟩
 grind [OB,Pk,rnI]
theorem AwD (hf:On f) (hd:Rl f) (hr:So f r):Hs (ZI f r) λl=>Ot f.Slots.length l/\∀ k:Nat,k<f.Code.length->Oh r.Keep k=true->∀ v∈OB (rnI r.To (NJ f k)),v∈l:=by
 have hlen:=hf.len';have hsl:=hf.slots;have hkl:=hr.2.1;unfold ZI;refine Hs.loop (λs=>∃ k:Nat,s.2=(k:Int)/\k<=f.Code.length/\Ot f.Slots.length s.1/\∀ j:Nat,j<k->Oh r.Keep j=true->∀ v∈OB (rnI r.To (NJ f j)),v∈s.1) (λs=>f.Code.length-s.2.toNat) ⟨0,rfl,aAE _,Ot.nil _,λj hj=>absurd hj (aAI _)⟩ ?_
 rintro⟨l,_⟩ ⟨k,rfl,hk,hs,hj⟩;replace hs:Ot f.Slots.length l:=hs;replace hj:∀ j:Nat,j<k->Oh r.Keep j=true->∀ v∈OB (rnI r.To (NJ f j)),v∈l:=hj;unfold Aej;refine .dec (λhlt=>.dec (λ_=>?_) λh=>?_) λhge=>.lft (.pure ⟨hs,λj h=>hj j (by omega)⟩)
 ·have hlt:k<f.Code.length:=by omega
  have hx:=hf.at (j:=(k:Int)) (by omega) (by omega)
  rw[aAC]at hx;have hg:r.Keep[k]? =some (Oh r.Keep k):=by grind [Oh]
  have hnr:=Abl hf hd hr.1 hx.2;unfold Yh;simp only[Oo,hg,hx.1,aA,Aqu,Apr,Aka,NO (show k<9223372036854775807 by omega)]
  refine .cond (λh=>.cnt ⟨⟨k+1,rfl,hlt,hs,λj h' hkj=>?_⟩,by grind⟩) λh=>?_
  ·grind
  ·obtain⟨y,hy⟩:∃ y,y=rnI r.To (NJ f k):=⟨_,rfl⟩;rw[<- hy]at hnr ⊢;have hul:(Pk y).length<=1:=by grind [Pk]
   have hll:=hs.1.length_le;rw[union_eq _ _ (by omega),aA]
   obtain⟨u1,u2⟩:=UY (n:=f.Slots.length) (by omega) (b:=Pk y) (a:=l) hs (λx hx=>hnr x (by grind [OB]))
   by_cases hdy:y.Op=16\/y.Op=17
   ·simp only[Agw,if_pos hdy,cond_true];have hA:=hnr y.A (by simp_all[OB])
    obtain⟨a1,a2⟩:=Ot.add (n:=f.Slots.length) u1 hA (by omega)
    have a3:=(Ot.AeS u1 hA (by omega)).2.2
    rw[a2,aA];refine .cnt ⟨⟨k+1,rfl,hlt,a1,λj h' hkj v hv=>?_⟩,by grind⟩
    show v∈QT y.A (QK l (Pk y));rw[a3,u2]
    by_cases e:j=k
    ·subst e;rw[<- hy]at hv;unfold OB at hv
     grind
    grind
   ·simp only[Agw,if_neg hdy,cond_false];refine .cnt ⟨⟨k+1,rfl,hlt,u1,λj h' hkj v hv=>?_⟩,by grind⟩
    show v∈QK l (Pk y);rw[u2]
    by_cases e:j=k
    ·simp_all[OB]
    grind
 omega
theorem AlX (hl:r.To.length<=500) (hu:used.length<=512):Hs (Yi r used) λl=>l.length=r.To.length/\∀ (s:Nat) x,l[s]? =some x->0<=x/\(NZ r.To s∈used->used[x.toNat]? =some (NZ r.To s)):=by
 unfold Yi;refine Hs.loop (λz=>∃ k:Nat,z.2=(k:Int)/\k<=r.To.length/\z.1.length=k/\∀ (s:Nat) x,z.1[s]? =some x->0<=x/\(NZ r.To s∈used->used[x.toNat]? =some (NZ r.To s))) (λz=>r.To.length-z.2.toNat) ⟨0,rfl,aAE _,rfl,λs x h=>by simp at h⟩ ?_
 rintro⟨l,_⟩ ⟨k,rfl,hk,hll,hq⟩;replace hll:l.length=k:=hll;refine .dec (λhlt=>?_) λhge=>.lft (.pure ?_)
 ·have hlt:k<r.To.length:=by omega
  have hg:=QJ (to:=r.To) (s:=(k:Int)) (by omega) (by omega)
  rw[aAC]at hg;refine Hs.loop (λz=>∃ i:Nat,z.2=(i:Int)/\i<=used.length/\0<=z.1/\(NZ r.To k∈used.take i->used[z.1.toNat]? =some (NZ r.To k))) (λz=>used.length-z.2.toNat) ⟨0,rfl,aAE _,aAU _,λh=>by simp at h⟩ ?_
  rintro⟨n,_⟩ ⟨i,rfl,hi,hn,hm⟩;refine .dec (λhlt2=>?_) λhge2=>.lft (.chk (by simp;omega) ?_)
  ·have hlt2:i<used.length:=by omega
   have hgx:used[i]? =some used[i]:=aAA _;have htk:used.take (i+1)=used.take i++[used[i]]:=by simp_all
   generalize used[i]=y at hgx htk;simp only[Oo,hgx,hg,aA];rw[NO (by omega)]
   refine .beq (λh=>.cnt ⟨⟨i+1,rfl,hlt2,by omega,λ_=>?_⟩,by grind⟩) λh=>.cnt ⟨⟨i+1,rfl,hlt2,hn,λh'=>?_⟩,by simp only;omega⟩
   all_goals grind [aAC]
  ·have hii:i=used.length:=by omega
   subst hii;unfold XS;rw[NO (by omega)]
   refine .cnt ⟨⟨k+1,rfl,hlt,by simp[hll],λs x hx=>?_⟩,by simp only;omega⟩
   have hx:(l++[n])[s]? =some x:=hx
   by_cases e:s=k
   ·simp_all
   ·have hsl:s<l.length:=by
     have:=(aAB.1 hx).1;simp at this;omega
    rw[aAN hsl]at hx;exact hq s x hx
 ·have hkk:k=r.To.length:=by simp only at hge;omega
  subst hkk;exact⟨hll,hq⟩
def mvI (pl:List Int) (x:NH):NH :=
 if x.Op=20 then⟨x.Op,(pl[x.A.toNat]?).getD 0,x.B,x.C,x.Imm⟩else if x.Op=21 then⟨x.Op,x.A,(pl[x.B.toNat]?).getD 0,x.C,x.Imm⟩else x
def Ta (f:Lo) (keep:List Bool) (to pl:List Int) (k:Nat):List NH:=(List.range k).filterMap λj=>if Oh keep j=true then some (mvI pl (rnI to (NJ f (j:Nat))))else none
theorem AjM (f:Lo) (keep:List Bool) (to pl:List Int) (k:Nat):Ta f keep to pl (k+1)=Ta f keep to pl k++(if Oh keep k=true then[mvI pl (rnI to (NJ f (k:Nat)))]else[]):=by
 grind [Ta,aAg]
theorem WM {f:Lo} {keep:List Bool} {to pl:List Int}:∀ k:Nat,k<=keep.length->(Ta f keep to pl k).length=kept keep k/\∀ (p:Nat) x,(Ta f keep to pl k)[p]? =some x->∃ j:Nat,j<k/\Oh keep j=true/\kept keep j=p/\x=mvI pl (rnI to (NJ f (j:Nat)))
 | 0,_=>⟨rfl,λp x h=>by grind [Ta]⟩
 | k+1,hk=>by
  obtain⟨h1,h2⟩:=WM (f:=f) (keep:=keep) (to:=to) (pl:=pl) k (by omega)
  have hg:keep[k]? =some (Oh keep k):=by grind [Oh]
  rw[AjM]
  by_cases h:Oh keep k=true
  ·rw[if_pos h];rw[h]at hg;have hs:=Xz hg
   grind
  ·rw[if_neg h,aAp]
   grind [Xz]
theorem AdS (h:x.Op=20\/x.Op=21):rnI to x=x:=by
 unfold rnI
 grind
theorem Aio (hf:On f) (hk:k<f.Code.length):((NJ f k).Op=20->0<=(NJ f k).A/\(NJ f k).A<f.Code.length)/\((NJ f k).Op=21->0<=(NJ f k).B/\(NJ f k).B<f.Code.length):=by
 have hx:=hf.at (j:=(k:Int)) (by omega) (by omega)
 rw[aAC]at hx;have hn:=hf.next k _ hx.1;refine⟨λh=>hn _ (by simp[QW,h]),λh=>hn _ ?_⟩
 unfold QW
 grind
theorem Apm (hf:On f) (hkl:r.Keep.length=f.Code.length) (to pl:List Int) (hpl:pl.length=r.Keep.length) (sl:List NS) :
  Hs (NW (λs=>Ade f r to pl sl s.1 s.2) ([],0)) λq=>q=(⟨f.Params,sl,Ta f r.Keep to pl f.Code.length⟩,0):=by
 have hlen:=hf.len';refine Hs.loop (λs=>∃ k:Nat,s.2=(k:Int)/\k<=f.Code.length/\s.1=Ta f r.Keep to pl k) (λs=>f.Code.length-s.2.toNat) ⟨0,rfl,aAE _,rfl⟩ ?_
 rintro⟨_,_⟩ ⟨k,rfl,hk,rfl⟩;refine .dec (λhlt=>?_) λhge=>.lft (.pure ?_)
 ·have hlt:k<f.Code.length:=by omega
  have hx:=hf.at (j:=(k:Int)) (by omega) (by omega)
  rw[aAC]at hx;have hg:r.Keep[k]? =some (Oh r.Keep k):=by grind [Oh]
  have hol:=(WM (f:=f) (keep:=r.Keep) (to:=to) (pl:=pl) k (by omega)).1
  have hkk:=AeK r.Keep k;have hs:=AjM f r.Keep to pl k;obtain⟨t1,t2⟩:=Aio hf hlt;simp only[Oo,hg,hx.1,aA,Aqu];refine .cond (λh=>?_) λh=>?_
  ·have hkf:¬ Oh r.Keep k=true:=λh'=>by simp_all
   rw[if_neg hkf,aAp]at hs;rw[NO (by omega)]
   exact .cnt ⟨⟨k+1,rfl,hlt,hs.symm⟩,by grind⟩
  ·have hkt:Oh r.Keep k=true:=by simp_all
   rw[if_pos hkt]at hs;have fin:∀ a b:Int,(⟨(rnI to (NJ f k)).Op,a,b,(rnI to (NJ f k)).C,(rnI to (NJ f k)).Imm⟩:NH)=mvI pl (rnI to (NJ f k))->Hs (TK (Ta f r.Keep to pl k) (rnI to (NJ f k)) (k:Int) a b) (Rnd (λs:List NH×Int=>∃ k:Nat,s.2=(k:Int)/\k<=f.Code.length/\s.1=Ta f r.Keep to pl k) (λs=>f.Code.length-s.2.toNat) (Ta f r.Keep to pl k,(k:Int)) λq=>q=(⟨f.Params,sl,Ta f r.Keep to pl f.Code.length⟩,0)):=by
    intro a b hab;unfold TK;refine .chk (by simp;omega) (.chk (by simp;omega) ?_)
    rw[NO (by omega)]
    refine .cnt ⟨⟨k+1,rfl,hlt,?_⟩,by grind⟩
    simp_all
   refine .beq (λh20=>?_) λh20=>.beq (λh21=>?_) λh21=>fin _ _ ?_
   ·simp_all[Ack,AdS,chk,mvI]
   ·simp_all[Ack,AdS,chk,mvI]
   simp_all[mvI]
 ·have hkk:k=f.Code.length:=by omega
  subst hkk;rfl
theorem Axn {n:Nat} {out:List (List Int)} {P:Int->Int->Prop} (hs:Ql n out λa v=>P a v\/P v a) (hn:n<=500) {d y:Nat} (hd:d<n) (hy:y<n) (hne:d≠y) (t:Bool) (hi:i<1000000) (p q r s:Bool) :
  ∃ out',SA ((d:Int),t) out (y:Int) (i:Int) p q r s=some (.inl (out',((i+1:Nat):Int)))/\Ql n out' λa v=>(P a v\/((a:Int)=d/\v=y))\/(P v a\/(v=d/\(a:Int)=y)):=by
 have e1:out[d]? =some (out[d]'(by have:=hs.1;omega)):=aAA _
 have e2:out[y]? =some (out[y]'(by have:=hs.1;omega)):=aAA _
 generalize out[d]'(by grind)=sd at e1
 generalize out[y]'(by grind)=sy at e2
 have q1:=hs.2 d _ e1;have q2:=hs.2 y _ e2;have a1:=q1.1.add (m:=(y:Int)) (by omega) (by omega)
 have a2:=q2.1.add (m:=(d:Int)) (by omega) (by omega)
 have m1:=(Ot.AeS (m:=(y:Int)) q1.1 (by omega) (by omega)).2.2
 have m2:=(Ot.AeS (m:=(d:Int)) q2.1 (by omega) (by omega)).2.2
 have e3:(out.set d (QT y sd))[y]? =some sy:=by simp_all
 have hl:=hs.1;have h1:0<=(d:Int)/\(d:Int)<out.length:=by omega
 have h2:0<=(y:Int)/\(y:Int)<out.length:=by omega
 have h3:0<=(y:Int)/\(y:Int)<(out.set d (QT y sd)).length:=by simp_all
 have w:=NO (show i<9223372036854775807 by omega)
 refine⟨(out.set d (QT y sd)).set y (QT d sy),by grind [SA,aAC,OA,Awb],by simp[hl],λa s hs'=>?_⟩
 by_cases ea:a=y
 ·grind
 ·rw[aAW (λh=>ea h.symm)]at hs'
  by_cases ed:a=d
  ·grind
  ·rw[aAW (λh=>ed h.symm)]at hs'
   refine⟨(hs.2 a s hs').1,λv=>?_⟩
   rw[(hs.2 a s hs').2 v]
   grind
def Api (mv:NH->Int->Bool) (f:Lo) (l:List (List Int)) (s:List (List Int)×Int):Prop :=
 ∃ k:Nat,s.2=(k:Int)/\k<=f.Code.length/\Ql f.Slots.length s.1 λa v=>Abu mv f l k a v\/Abu mv f l k v a
def Asa (mv:NH->Int->Bool) (f:Lo) (l:List (List Int)) (k:Nat) (s:List (List Int)×Int):Prop :=
 ∃ i:Nat,s.2=(i:Int)/\i<=(Oc l k).length/\Ql f.Slots.length s.1 λa v=>AdU mv f l k i a v\/AdU mv f l k i v a
theorem AjR (hf:On f) (hd:Rl f) {l:Oa} (hl:TP l.Out) (b:Bool):Hs (Aav f l b) (YM (bif b then AcK else Yp) f l.Out):=by
 have hlen:=hf.len';have hsl:=hf.slots;refine(AtT hf hl).bind λe he=>.bne (λh=>.pure (.inr ⟨he.1.resolve_left h,λha=>h (he.2.2 ha),rfl⟩)) λh=>?_
 have hacc:Acc f l.Out:=he.2.1 h;refine .chk (by omega) ?_
 generalize hmv:(bif b then AcK else Yp)=mv
 refine Hs.loop (Api mv f l.Out) (λs=>f.Code.length-s.2.toNat) ⟨0,rfl,aAE _,?_⟩ ?_
 ·exact Ql.nil _ λa v h=>by rcases h with⟨j,hj,_⟩|⟨j,hj,_⟩<;>omega
 rintro⟨out,_⟩ ⟨k,rfl,hk,hs⟩;refine .dec (λhlt=>?_) λhge=>.lft (.pure (.inl ⟨rfl,hacc,?_⟩))
 ·have hlt:k<f.Code.length:=by omega
  have hx:=hf.at (j:=(k:Int)) (by omega) (by omega)
  rw[aAC]at hx;have hrow:=hacc.1.at (j:=(k:Int)) (by omega) (by omega)
  rw[aAC]at hrow;simp only[Oo,hx.1,aA,Aka];have next:∀ out',(Ql f.Slots.length out' λa v=>Abu mv f l.Out (k+1) a v\/Abu mv f l.Out (k+1) v a)->∀ a b c d e,Hs (TI (k:Int) a b c d e out') (Rnd (Api mv f l.Out) (λs=>f.Code.length-s.2.toNat) (out,(k:Int)) (YM mv f l.Out)):=by
   intro out' h' a b c d e;unfold TI;rw[NO (by omega)]
   exact .cnt ⟨⟨k+1,rfl,hlt,h'⟩,by grind⟩
  have inner:¬ ((NJ f k).Op=17/\(NJ f k).A=(NJ f k).B)->Hs (Xt l (k:Int) (Agw (NJ f k)) b (NJ f k) out) (Rnd (Api mv f l.Out) (λs=>f.Code.length-s.2.toNat) (out,(k:Int)) (YM mv f l.Out)):=by
   intro hnm
   by_cases hdef:(NJ f k).Op=16\/(NJ f k).Op=17
   ·have hdn:Agw (NJ f k)=((NJ f k).A,true):=if_pos hdef;have hA:=hd _ hx.2 hdef;rw[hdn];have hlo:=hrow.2.1.length_le;refine Hs.loop (Asa mv f l.Out k) (λs=>(Oc l.Out k).length-s.2.toNat) ⟨0,rfl,aAE _,hs.congr λa v _=>by grind [Atq]⟩ ?_
    rintro⟨out2,_⟩ ⟨i,rfl,hi,hs2⟩;unfold ZD;simp only[Oo,hrow.1,aA];refine .dec (λhlt2=>?_) λhge2=>.lft (next _ (hs2.congr λa v _=>?_) _ _ _ _ _)
    ·have hlt2:i<(Oc l.Out k).length:=by omega
     have hgx:(Oc l.Out k)[i]? =some (Oc l.Out k)[i]:=aAA _;have hxm:=aAF hlt2;generalize(Oc l.Out k)[i]=x at hgx hxm;have hx0:=hrow.2.1.2 x hxm;have hxn:=hrow.2.2 x hxm;unfold ZE;simp only[Oo,hrow.1,hgx,aA];have skip:x=(NJ f k).A\/mv (NJ f k) x=true->Hs (cnt (out2,IntKind.i64.wrap ((i:Int)+1))) (Rnd (Asa mv f l.Out k) (λs=>(Oc l.Out k).length-s.2.toNat) (out2,(i:Int)) (Rnd (Api mv f l.Out) (λs=>f.Code.length-s.2.toNat) (out,(k:Int)) (YM mv f l.Out))):=by
      intro hh;rw[NO (by omega)]
      exact .cnt ⟨⟨i+1,rfl,hlt2,hs2.congr λa v _=>by grind [Atp]⟩,by grind⟩
     have add:x≠(NJ f k).A->mv (NJ f k) x=false->∀ p q r s,Hs (SA ((NJ f k).A,true) out2 x (i:Int) p q r s) (Rnd (Asa mv f l.Out k) (λs=>(Oc l.Out k).length-s.2.toNat) (out2,(i:Int)) (Rnd (Api mv f l.Out) (λs=>f.Code.length-s.2.toNat) (out,(k:Int)) (YM mv f l.Out))):=by
      intro hne hmf p q r s;obtain⟨d,hde⟩:∃ d:Nat,(NJ f k).A=(d:Int):=⟨_,(aAS hA.1).symm⟩;obtain⟨y,rfl⟩:∃ y:Nat,x=(y:Int):=⟨_,(aAS hx0.1).symm⟩;obtain⟨out',h1,h2⟩:=Axn (P:=AdU mv f l.Out k i) hs2 (by omega) (d:=d) (y:=y) (by omega) (by omega) (by omega) true (i:=i) (by omega) p q r s
      rw[hde,h1];refine .pure ⟨⟨i+1,rfl,hlt2,h2.congr λa v _=>?_⟩,by grind⟩
      grind [AnM]
     refine .beq (λh=>skip (.inl h)) λhne=>?_
     subst hmv;cases b
     ·simp only[Bool.not_false,cond_true,cond_false] 
      grind [Yp]
     ·simp only[aAY,cond_true,cond_false] ;exact add hne rfl _ _ _ _
    grind [AuR]
   ·have hdn:Agw (NJ f k)=(0,false):=if_neg hdef;rw[hdn];have hs':=hs.congr (Q:=λa v=>Abu mv f l.Out (k+1) a v\/Abu mv f l.Out (k+1) v a) λa v _=>by grind [AnN]
    refine Hs.loop (λs=>s=(out,0)) (λ_=>0) rfl ?_
    rintro _ rfl;unfold ZD;simp only[Oo,hrow.1,aA,cond_false];exact .dec (λ_=>.lft (next _ hs' _ _ _ _ _)) λ_=>.lft (next _ hs' _ _ _ _ _)
  refine .beq (λh17=>.beq (λhab=>next _ ?_ _ _ _ _ _) λhab=>inner λhh=>hab hh.2) λh17=>inner λhh=>h17 hh.1
  simp_all[AnN]
 ·have hk:k=f.Code.length:=by omega
  subst hk;exact hs
def Abv (f:Lo):Prop:=∀ x∈f.Code,x.Op=17->0<=x.A/\x.A<f.Slots.length/\0<=x.B/\x.B<f.Slots.length/\Pj f x.A=Pj f x.B
theorem UA.AlW {i most:Int} (h:UA ps i most f):Abv f:=by
 intro x hx hop;obtain⟨k,hk⟩:=aAH hx;have hkl:=(aAB.1 hk).1
 by_cases hk1:k+1<f.Code.length
 ·have hins:=h.body k x hk hk1;cases hins with
  | move a b h0 h1 h2 =>
   obtain⟨q0,q1,x,y,e1,e2,e3⟩:=h0
   grind [Pj]
  | bin op a b c h1 h2 h3 h4 h5 h6=>simp_all
  | un op a h1 h2=>simp_all
  | _=>simp at hop
 ·have he:=h.last x (by grind)
  rcases he with rfl|⟨w,_,rfl⟩<;>simp at hop
def AlB (f:Lo) (out:List PC):Prop:=∀ p∈out,∃ x∈f.Code,x.Op=17/\p=⟨x.A,x.B⟩
theorem Aws (hlen:f.Code.length<=10000):Hs (Aau f) λout=>out.length<=10000/\AlB f out:=by
 unfold Aau;refine Hs.loop (λs=>∃ k:Nat,s.2=(k:Int)/\k<=f.Code.length/\s.1.length<=k/\AlB f s.1) (λs=>f.Code.length-s.2.toNat) ⟨0,rfl,aAE _,aAO _,λp hp=>by cases hp⟩ ?_
 rintro⟨out,_⟩ ⟨k,rfl,hk,hol,hmv⟩;replace hol:out.length<=k:=hol;replace hmv:AlB f out:=hmv;unfold Ada;refine .dec (λhlt=>?_) λhge=>.lft (.pure ⟨show out.length<=10000 by omega,hmv⟩)
 have hlt:k<f.Code.length:=by omega
 have hx:f.Code[k]? =some f.Code[k]:=aAA _;have hxm:=aAF hlt;generalize f.Code[k]=x at hx hxm;simp only[Oo,hx,aA];have j3:∀ old:Bool,(old=false->x.Op=17)->Hs (Xs out x (k:Int) old) (Rnd (λs:List PC×Int=>∃ k:Nat,s.2=(k:Int)/\k<=f.Code.length/\s.1.length<=k/\AlB f s.1) (λs=>f.Code.length-s.2.toNat) (out,(k:Int)) λout=>out.length<=10000/\AlB f out):=by
  intro old hold;refine Hs.loop (λs=>∃ i:Nat,s.2=(i:Int)/\i<=out.length/\(s.1=false->x.Op=17)) (λs=>out.length-s.2.toNat) ⟨0,rfl,aAE _,hold⟩ ?_
  rintro⟨old,_⟩ ⟨i,rfl,hi,hold⟩;refine .dec (λhlt2=>?_) λ_=>.lft ?_
  ·have hlt2:i<out.length:=by omega
   have hg:out[i]? =some out[i]:=aAA _;simp only[aAC];rw[NO (by omega)]
   refine .cond (λh=>.cnt ⟨⟨i+1,rfl,hlt2,λh'=>(by cases h')⟩,by grind⟩) λh=>.chk (by omega) ?_
   rw[hg,aA];exact .cnt ⟨⟨i+1,rfl,hlt2,λ_=>hold h⟩,by grind⟩
  ·unfold Xr;rw[NO (by omega)]
   refine .cond (λh=>.chk (by simp;omega) (.cnt ⟨⟨k+1,rfl,hlt,by simp;omega,λp hp=>?_⟩,by grind⟩)) λ_=>.cnt ⟨⟨k+1,rfl,hlt,by grind,hmv⟩,by grind⟩
   rcases aAb.1 hp with hp|hp
   ·exact hmv p hp
   grind
 grind
theorem AjY (hl:to.length<=500) (s:Int):Hs (VV to s) λl=>l.length<=to.length/\∀ t,t∈l↔∃ j:Nat,j<to.length/\t=(j:Int)/\NZ to j=s:=by
 refine Hs.loop (λz=>∃ k:Nat,z.2=(k:Int)/\k<=to.length/\z.1.length<=k/\∀ t,t∈z.1↔∃ j:Nat,j<k/\t=(j:Int)/\NZ to j=s) (λz=>to.length-z.2.toNat) ⟨0,rfl,aAE _,aAO _,λt=>⟨λh=>(by cases h),λ⟨j,h,_⟩=>absurd h (aAI _)⟩⟩ ?_
 rintro⟨l,_⟩ ⟨k,rfl,hk,hll,hm⟩;replace hll:l.length<=k:=hll;refine .dec (λhlt=>?_) λhge=>.lft (.pure ?_)
 ·have hlt:k<to.length:=by omega
  have hg:=QJ (to:=to) (s:=(k:Int)) (by omega) (by omega)
  rw[aAC]at hg;simp only[Oo,hg,aA];rw[NO (by omega)]
  refine .beq (λh=>.chk (by simp;omega) (.cnt ⟨⟨k+1,rfl,hlt,by simp;omega,λt=>?_⟩,by grind⟩)) λh=>.cnt ⟨⟨k+1,rfl,hlt,by grind,λt=>?_⟩,by grind⟩
  all_goals grind
 ·have hk:k=to.length:=by omega
  subst hk;exact⟨hll,hm⟩
def Abr (g:List (List Int)) (to:List Int) (a b:Int):Prop:=∀ (x y:Nat) row,x<to.length->y<to.length->NZ to x=a->NZ to y=b->g[x]? =some row->(y:Int)∉row
theorem AuA {n:Nat} (hg:Ql n g Q) (htn:to.length=n) (hl:n<=500) (a b:Int):Hs (Adt g to a b) λr=>r=true->Abr g to a b:=by
 refine(AjY (by omega) a).bind λxs hx=>(AjY (by omega) b).bind λys hy=>?_
 have fin:(∀ x∈xs,∀ y∈ys,∀ row,g[x.toNat]? =some row->y∉row)->Abr g to a b:=by
  intro h x y row h1 h2 h3 h4 h5;exact h x ((hx.2 x).2 ⟨x,h1,rfl,h3⟩) y ((hy.2 y).2 ⟨y,h2,rfl,h4⟩) row (by simp_all)
 refine Hs.loop (λi=>∃ k:Nat,i=(k:Int)/\k<=xs.length/\∀ x∈xs.take k,∀ y∈ys,∀ row,g[x.toNat]? =some row->y∉row) (λi=>xs.length-i.toNat) ⟨0,rfl,aAE _,λx h=>by simp at h⟩ ?_
 rintro _ ⟨k,rfl,hk,hall⟩;refine .dec (λhlt=>?_) λhge=>.lft (.pure λ_=>fin λx hx=>hall x (by grind))
 have hlt:k<xs.length:=by omega
 have hgx:xs[k]? =some xs[k]:=aAA _;have hxm:=aAF hlt;have htk:xs.take (k+1)=xs.take k++[xs[k]]:=by simp_all
 generalize xs[k]=x at hgx hxm htk;obtain⟨jx,hjx,rfl,_⟩:=(hx.2 x).1 hxm;have hgl:=hg.1;have hrow:g[jx]? =some (g[jx]'(by omega)):=aAA _
 generalize g[jx]'(by omega)=row at hrow
 have hset:=(hg.2 jx row hrow).1;have hrl:=hset.1.length_le;refine Hs.loop (λi=>∃ m:Nat,i=(m:Int)/\m<=ys.length/\∀ y∈ys.take m,y∉row) (λi=>ys.length-i.toNat) ⟨0,rfl,aAE _,λx h=>by simp at h⟩ ?_
 rintro _ ⟨m,rfl,hm,hno⟩;refine .dec (λhlt2=>?_) λhge2=>.lft ?_
 ·have hlt2:m<ys.length:=by omega
  have hgy:ys[m]? =some ys[m]:=aAA _;have htm:ys.take (m+1)=ys.take m++[ys[m]]:=by simp_all
  generalize ys[m]=y at hgy htm;refine .chk (by omega) ?_
  simp only[aAC,hgx,aA,Oo,hrow];refine .chk (by omega) ?_
  rw[hgy,aA,AbJ _ _ (by omega),aA,NO (by omega)]
  refine .dec (λ_=>.lft (.lft (.pure λh=>(by cases h)))) λh=>.cnt ⟨⟨m+1,rfl,hlt2,λz hz=>?_⟩,by grind⟩
  grind
 ·unfold ZF;rw[NO (by omega)]
  refine .cnt ⟨⟨k+1,rfl,hlt,λz hz y hy row' hr=>?_⟩,by grind⟩
  grind [aAC]
structure Abt (f:Lo) (g:List (List Int)) (to:List Int):Prop where
 ok:AeR f to
 apart:∀ (x y:Nat) row,x<to.length->y<to.length->NZ to x=NZ to y->g[x]? =some row->(y:Int)∉row
def Sc (a b c:Int):Int:=if c=a\/c=b then VL a b else c
theorem ArJ (a b:Int):VL a b=a\/VL a b=b:=by grind [VL]
theorem Abt.join (hg:Ql f.Slots.length g Q) (hsym:∀ (x y:Nat) r s,g[x]? =some r->g[y]? =some s->(y:Int)∈r->(x:Int)∈s) {to':List Int} (h:Abt f g to) {b:Int} (ha:0<=a/\a<f.Slots.length) (hb:0<=b/\b<f.Slots.length) (haa:NZ to a=a) (hbb:NZ to b=b) (hs:Pj f a=Pj f b) (hap:Abr g to a b) (hl:to'.length=to.length) (hto:∀ j:Nat,j<to.length->NZ to' j=Sc a b (NZ to j)):Abt f g to':=by
 have htl:=h.ok.1;have hto2:∀ j:Int,0<=j->j<to.length->NZ to' j=Sc a b (NZ to j):=by
  intro j h0 h1;obtain⟨i,rfl⟩:∃ i:Nat,j=(i:Int):=⟨j.toNat,by omega⟩
  simp_all
 have hm:NZ to (VL a b)=VL a b/\0<=VL a b/\VL a b<f.Slots.length/\Pj f (VL a b)=Pj f a:=by
  grind [ArJ]
 have hj:Sc a b (VL a b)=VL a b:=by
  simp_all[Sc]
 refine⟨⟨by omega,λs hs'=>?_⟩,λx y row hx hy he hr hyr=>?_⟩
 ·obtain⟨q1,q2,q3,q4⟩:=h.ok.2 s (by omega)
  rw[hto s (by omega)]
  by_cases e:NZ to s=a\/NZ to s=b
  ·have ej:Sc a b (NZ to s)=VL a b:=by simp_all[Sc]
   grind
  simp_all[Sc]
 ·rw[hto x (by omega),hto y (by omega)]at he
  have hgl:=hg.1;have hrow:g[y]? =some (g[y]'(by omega)):=aAA _
  by_cases ex:NZ to x=a\/NZ to x=b<;>by_cases ey:NZ to y=a\/NZ to y=b
  ·rcases ex with ex|ex<;>rcases ey with ey|ey
   ·exact h.apart x y row (by omega) (by omega) (by rw[ex,ey]) hr hyr
   ·exact hap x y row (by omega) (by omega) ex ey hr hyr
   ·exact hap y x _ (by omega) (by omega) ey ex hrow (hsym x y _ _ hr hrow hyr)
   ·exact h.apart x y row (by omega) (by omega) (by rw[ex,ey]) hr hyr
  ·have e1:Sc a b (NZ to x)=VL a b:=by simp_all[Sc]
   have e2:Sc a b (NZ to y)=NZ to y:=by simp_all[Sc]
   grind [ArJ]
  ·simp_all[Sc,NZ,VL]
  ·have e1:Sc a b (NZ to y)=NZ to y:=by simp_all[Sc]
   have e2:Sc a b (NZ to x)=NZ to x:=by simp_all[Sc]
   rw[e1,e2]at he;exact h.apart x y row (by omega) (by omega) he hr hyr
theorem Auf (f:Lo) (to:List Int) (hsl:f.Slots.length<=500):Hs (Ads f to) λb=>b=true↔AeR f to:=by
 refine .bne (λh=>.pure ⟨λh'=>(by cases h'),λh'=>(h (by rw[h'.1])).elim⟩) λh=>?_
 have hl:to.length=f.Slots.length:=by omega
 refine Hs.loop (λi=>∃ k:Nat,i=(k:Int)/\k<=to.length/\∀ s:Nat,s<k->0<=NZ to s/\NZ to s<to.length) (λi=>to.length-i.toNat) ⟨0,rfl,aAE _,λs hs=>absurd hs (aAI _)⟩ ?_
 rintro _ ⟨k,rfl,hk,hall⟩;refine .dec (λhlt=>?_) λhge=>.lft ?_
 ·have hlt:k<to.length:=by omega
  have hg:to[k]? =some (NZ to k):=by have:=QJ (to:=to) (s:=k) (by omega) (by omega);simp_all
  simp only[Oo,hg,aA];refine .dec (λh0=>.lft (.pure ⟨λh=>(by cases h),λh=>?_⟩)) λh0=>.dec (λh1=>.lft (.pure ⟨λh=>(by cases h),λh=>?_⟩)) λh1=>?_
  ·have:=(h.2 k hlt).1;omega
  ·have:=(h.2 k hlt).2.1;omega
  rw[NO (by omega)]
  refine .cnt ⟨⟨k+1,rfl,hlt,λs hs=>?_⟩,by grind⟩
  grind
 have hkk:k=to.length:=by omega
 subst hkk;refine Hs.loop (λi=>∃ k:Nat,i=(k:Int)/\k<=to.length/\∀ s:Nat,s<k->Pj f (NZ to s)=Pj f s/\NZ to (NZ to s)=NZ to s) (λi=>to.length-i.toNat) ⟨0,rfl,aAE _,λs hs=>absurd hs (aAI _)⟩ ?_
 rintro _ ⟨k,rfl,hk,hall2⟩;refine .dec (λhlt=>?_) λhge=>.lft (.pure ?_)
 ·have hlt:k<to.length:=by omega
  obtain⟨q0,q1⟩:=hall k hlt;have hg:to[k]? =some (NZ to k):=by have:=QJ (to:=to) (s:=k) (by omega) (by omega);simp_all
  simp only[Oo,hg,aA];refine Hs.bind (Hs.ix (i:=NZ to k) (P:=λx=>x.Size=Pj f (NZ to k)) (by omega) (by omega) λx hx=>ZL hx) λa ha=>?_
  refine Hs.bind (Hs.get (i:=(k:Int)) (P:=λx=>x.Size=Pj f k) (by omega) (by omega) λx hx=>ZL hx) λb hb=>?_
  rw[ha,hb];refine .bne (λh2=>.lft (.pure ⟨λh=>(by cases h),λh=>(h2 (h.2 k hlt).2.2.1).elim⟩)) λh2=>?_
  rw[Pu _ (by omega),QJ (by omega) (by omega),aA]
  refine .bne (λh3=>.lft (.pure ⟨λh=>(by cases h),λh=>(h3 (h.2 k hlt).2.2.2).elim⟩)) λh3=>?_
  rw[NO (by omega)]
  refine .cnt ⟨⟨k+1,rfl,hlt,λs hs=>?_⟩,by grind⟩
  grind
 ·exact⟨λ_=>⟨hl,λs hs=>⟨(hall s hs).1,(hall s hs).2,(hall2 s (by omega)).1,(hall2 s (by omega)).2⟩⟩,λ_=>rfl⟩
theorem Aub (x:NH):RU x=some (decide (x.Op=16\/x.Op=17)):=by
 unfold RU
 grind
theorem AkD (hf:On f) (r:NU):Hs (Aaw f r) λe=>(e=0\/e=12)/\(e=0↔So f r):=by
 have hlen:=hf.len';unfold Aaw;refine(Auf f r.To hf.slots).bind λb hb=>.cond (λh=>.pure ⟨.inr rfl,λh=>by omega,λh'=>?_⟩) λh=>?_
 ·rw[hb.2 h'.1]at h;cases h
 have hv:AeR f r.To:=hb.1 (by simp_all)
 refine .bne (λh=>.pure ⟨.inr rfl,λh=>by omega,λh'=>(h (by rw[h'.2.1])).elim⟩) λh=>?_
 have hkl:r.Keep.length=f.Code.length:=by omega
 unfold ZH;refine Hs.loop (λi=>∃ k:Nat,i=(k:Int)/\k<=f.Code.length/\∀ j:Nat,j<k->Oh r.Keep j=false->(NJ f j).Op=16\/(NJ f j).Op=17) (λi=>f.Code.length-i.toNat) ⟨0,rfl,aAE _,λs hs=>absurd hs (aAI _)⟩ ?_
 rintro _ ⟨k,rfl,hk,hall⟩;unfold Adf;refine .dec (λhlt=>?_) λhge=>.lft (.pure ⟨.inl rfl,λ_=>⟨hv,hkl,λj hj=>hall j (by omega)⟩,λ_=>rfl⟩)
 have hlt:k<f.Code.length:=by omega
 have hx:=hf.at (j:=(k:Int)) (by omega) (by omega)
 rw[aAC]at hx;have hg:r.Keep[k]? =some (Oh r.Keep k):=by grind [Oh]
 have stp:(Oh r.Keep k=false->(NJ f k).Op=16\/(NJ f k).Op=17)->∀ j:Nat,j<k+1->Oh r.Keep j=false->(NJ f j).Op=16\/(NJ f j).Op=17:=by
  grind
 simp only[Oo,hx.1,hg,aA,Aub];rw[NO (by omega)]
 refine .cond (λh=>?_) λh=>.cnt ⟨⟨k+1,rfl,hlt,stp λh'=>by simp_all⟩,by grind⟩
 have hkf:Oh r.Keep k=false:=by simp_all
 refine .cond (λh=>.lft (.pure ⟨.inr rfl,λh=>by omega,λh'=>?_⟩)) λh=>.cnt ⟨⟨k+1,rfl,hlt,stp λ_=>aAc λhn=>by simp_all⟩,by grind⟩
 have:=h'.2.2 k hlt hkf;simp_all
theorem AjV:∀ {l:List Int} {a n:Int},l.Pairwise (· <·)->(∀ x∈l,a<=x/\x<n)->(l.length:Int)<=max 0 (n-a)
 | [],a,n,_,_=>by simp;omega
 | x::l,a,n,hp,hr=>by
  have h:=aAP.1 hp;have hx:=hr x (by simp)
  have:=AjV (l:=l) (a:=x+1) (n:=n) h.2 λy hy=>⟨by grind,(hr y (by simp[hy])).2⟩
  grind
theorem AuB (_hsl:f.Slots.length<=500) (_htl:r.To.length=f.Slots.length) {_u:Int} {x:NS} {out:List NS} (hi:i<=1000) {l:List Int} (hll:l.length<=1000) (ho:out.length=i) (hl:∀ t∈l,0<=t/\t<f.Slots.length) {Q:Lo×Int->Prop} (hI:∀ y:NS,y.Size=x.Size->(∃ t∈x::f.Slots,y.Align=t.Align)->Rnd I μ s0 Q (.inl (out++[y],((i+1:Nat):Int)))):Hs (NW (λs=>ZG l f out x (i:Int) s.1 s.2) (x.Align,0)) (Rnd I μ s0 Q):=by
 refine Hs.loop (λs=>∃ k:Nat,s.2=(k:Int)/\k<=l.length/\∃ t∈x::f.Slots,s.1=t.Align) (λs=>l.length-s.2.toNat) ⟨0,rfl,aAE _,x,by simp,rfl⟩ ?_
 rintro⟨a,_⟩ ⟨k,rfl,hk,t0,ht0,hat⟩;refine .dec (λhlt=>?_) λ_=>.lft (.chk (by simp;omega) (.chk (by simp;omega) ?_))
 ·have hlt:k<l.length:=by omega
  refine .chk (by omega) ((Hs.get (by omega) (by omega) λt ht=>aAD ht).bind λt ht=>?_)
  have:=hl t ht;refine(Hs.ix (P:=λy=>y∈f.Slots) this.1 this.2 λy hy=>aAD hy).bind λy hy=>?_
  rw[NO (by omega),Anb]
  refine .cnt ⟨⟨k+1,rfl,hlt,?_⟩,by grind⟩
  grind
 ·unfold Xu;rw[NO (by omega)]
  exact .cnt (hI _ rfl ⟨t0,ht0,hat⟩)
def Acw (f:Lo) (used:List Int) (out:List NS):Prop :=
 ∀ (j:Nat) y,out[j]? =some y->∃ u x,used[j]? =some u/\f.Slots[u.toNat]? =some x/\y.Size=x.Size/\∃ t∈f.Slots,y.Align=t.Align
theorem Acw.snoc {out:List NS} (h:Acw f used out) (ho:out.length=i) (hu:used[i]? =some u) {x y:NS} (hx:f.Slots[u.toNat]? =some x) (h1:y.Size=x.Size) (h2:∃ t∈x::f.Slots,y.Align=t.Align):Acw f used (out++[y]):=by
 intro j z hz
 by_cases e:j<out.length
 ·rw[aAN e]at hz;exact h j z hz
 grind
theorem AnG (hf:On f) (hd:Rl f) (hr:So f r):Hs (RA f r) λq=>q.2=0/\∃ used to pl:List Int,Ot f.Slots.length used/\(∀ k:Nat,k<f.Code.length->Oh r.Keep k=true->∀ v∈OB (rnI r.To (NJ f k)),v∈used)/\to.length=r.To.length/\(∀ (s:Nat) x,to[s]? =some x->0<=x/\(NZ r.To s∈used->used[x.toNat]? =some (NZ r.To s))) /\
  pl.length=r.Keep.length/\(∀ j:Nat,j<r.Keep.length->pl[j]? =some (kept r.Keep j:Int))/\q.1.Slots.length=used.length/\q.1.Params=f.Params/\q.1.Code=Ta f r.Keep to pl f.Code.length/\Acw f used q.1.Slots:=by
 have hlen:=hf.len';have hsl:=hf.slots;have hkl:=hr.2.1;have htl:=hr.1.1;refine(AkD hf r).bind λe he=>.bne (λh=>(h (he.2.2 hr)).elim) λ_=>?_
 refine(AwD hf hd hr).bind λused ⟨hu1,hu2⟩=>?_
 have hul:=hu1.1.length_le;refine Hs.loop (λs=>∃ i:Nat,s.2=(i:Int)/\i<=used.length/\s.1.length=i/\Acw f used s.1) (λs=>used.length-s.2.toNat) ⟨0,rfl,aAE _,rfl,λj y hj=>by simp at hj⟩ ?_
 rintro⟨out,_⟩ ⟨i,rfl,hi,ho,hsa⟩;refine .dec (λhlt=>?_) λhge=>.lft ?_
 ·have hlt:i<used.length:=by omega
  have hgx:used[i]? =some used[i]:=aAA _;have hxm:=aAF hlt;generalize used[i]=u at hgx hxm;have h0:=(hu1.1.2 u hxm).1;have h1:=hu1.2 u hxm;refine .chk (by omega) ?_
  simp only[aAC,hgx,aA];refine(Hs.ix (P:=λx=>f.Slots[u.toNat]? =some x) h0 h1 λx hx=>hx).bind λx hfx=>.chk (by omega) ?_
  refine(AjY (by omega) u).bind λl hm=>?_
  refine AuB (_u:=u) hsl htl (by omega) (l:=l) (by omega) ho (λt ht=>?_) λy hy1 hy2=>⟨⟨i+1,rfl,hlt,by simp[ho],hsa.snoc ho hgx hfx hy1 hy2⟩,by grind⟩
  grind
 have hii:i=used.length:=by omega
 subst hii;refine(AlX (by omega) hul).bind λto ⟨n1,n2⟩=>(AnX r (by omega)).bind λpl ⟨p1,p2⟩=>?_
 refine(Apm hf hkl to pl p1 out).mono λq hq=>?_
 subst hq;exact⟨rfl,used,to,pl,hu1,hu2,n1,n2,p1,p2,ho,rfl,rfl,hsa⟩
theorem Apo (hf:On f) (hd:Rl f) (hr:So f r):Hs (RA f r) λq=>q.2=0/\∃ used to pl:List Int,Ot f.Slots.length used/\(∀ k:Nat,k<f.Code.length->Oh r.Keep k=true->∀ v∈OB (rnI r.To (NJ f k)),v∈used)/\to.length=r.To.length/\(∀ (s:Nat) x,to[s]? =some x->0<=x/\(NZ r.To s∈used->used[x.toNat]? =some (NZ r.To s))) /\
  pl.length=r.Keep.length/\(∀ j:Nat,j<r.Keep.length->pl[j]? =some (kept r.Keep j:Int))/\q.1.Slots.length=used.length/\q.1.Params=f.Params/\q.1.Code=Ta f r.Keep to pl f.Code.length :=
 (AnG hf hd hr).mono λ_q ⟨h0,used,to,pl,u1,u2,n1,n2,p1,p2,sl,pr,cd,_⟩=>⟨h0,used,to,pl,u1,u2,n1,n2,p1,p2,sl,pr,cd⟩
theorem AdK {keep:List Bool} {j:Nat}:∀ {k:Nat},j<=k->k<=keep.length->kept keep j<=kept keep k
 | 0,h,_=>by
  simp_all
 | k+1,h,hk=>by
  by_cases e:j=k+1
  ·simp_all
  ·have h1:=AdK (keep:=keep) (j:=j) (k:=k) (by omega) (by omega)
   have hg:keep[k]? =some (keep[k]'(by omega)):=aAA _
   grind [Xz]
def Xb (f:Lo):Prop:=(NJ f (f.Code.length-1:Nat)).Op=20\/(NJ f (f.Code.length-1:Nat)).Op=23\/(NJ f (f.Code.length-1:Nat)).Op=24
theorem Ahh (hf:On f) (hlast:Xb f) (hr:So f r) {t:Nat} (ht:t<f.Code.length):kept r.Keep t<kept r.Keep f.Code.length:=by
 have hkl:=hr.2.1;have hl:=hf.len;have hk:Oh r.Keep (f.Code.length-1)=true:=by
  cases h:Oh r.Keep (f.Code.length-1)
  ·have:=hr.2.2 _ (by omega) h
   grind [Xb]
  ·rfl
 have hg:r.Keep[f.Code.length-1]? =some true:=by
  grind [Oh]
 have h1:=Xz hg;have h2:=AdK (keep:=r.Keep) (j:=t) (k:=f.Code.length-1) (by omega) (by omega)
 grind
theorem Ase (hf:On f) (hlast:Xb f) (hr:So f r) {pl:List Int} (hpl:∀ j:Nat,j<r.Keep.length->pl[j]? =some (kept r.Keep j:Int)) {p:Nat} (hx:(Ta f r.Keep to pl f.Code.length)[p]? =some x):∀ t∈QW x p,0<=t/\t<(kept r.Keep f.Code.length:Int):=by
 have hkl:=hr.2.1;obtain⟨j,hj,hk,rfl,rfl⟩:=(WM (f:=f) (keep:=r.Keep) (to:=to) (pl:=pl) f.Code.length (by omega)).2 p x hx
 have hcode:=(hf.at (j:=(j:Int)) (by omega) (by omega)).1
 have hn:=hf.next j _ hcode;obtain⟨t1,t2⟩:=Aio hf hj;have hg:r.Keep[j]? =some true:=by
  grind [Oh]
 have hs:=Xz hg;simp at hs;have at_:∀ t:Int,0<=t->t<f.Code.length->(pl[t.toNat]?).getD 0=(kept r.Keep t.toNat:Int)/\kept r.Keep t.toNat<kept r.Keep f.Code.length:=λt h0 h1=>by
  simp_all[Ahh]
 have nx:(j:Int)+1<f.Code.length->(kept r.Keep j:Int)+1<kept r.Keep f.Code.length:=λh=>by
  have:=Ahh hf hlast hr (t:=j+1) (by omega)
  omega
 intro t ht
 by_cases h20:(NJ f j).Op=20
 ·simp_all[AdS,mvI,QW]
 ·by_cases h21:(NJ f j).Op=21
  ·rw[AdS (.inr h21)]at ht;have a:=at_ _ (t2 h21).1 (t2 h21).2
   have b:=nx (by
    have:=hn ((j:Int)+1) (by
     unfold QW
     grind)
    omega)
   have hmem:t=(pl[(NJ f j).B.toNat]?).getD 0\/t=(kept r.Keep j:Int)+1:=by
    simp only[mvI,if_neg h20,if_pos h21,QW]at ht
    grind
   omega
  ·have hop:(mvI pl (rnI to (NJ f j))).Op=(NJ f j).Op:=by
    have h:=Ack to (NJ f j);simp_all[mvI]
   unfold QW at ht;rw[hop,if_neg h20]at ht
   by_cases h23:(NJ f j).Op=23\/(NJ f j).Op=24
   ·simp_all
   ·rw[if_neg h23,if_neg h21]at ht
    have b:=nx (by
     simp_all[QW])
    grind
theorem AcL (to:List Int) (x:NH) (v:Int):v∈OB (rnI to x)↔∃ s∈OB x,v=rnS to s:=by
 grind [OB,Pk,rnI]
theorem Avf (pl:List Int) (x:NH):OB (mvI pl x)=OB x:=by
 grind [mvI,OB,Pk]
theorem Agg (hf:On f) (hd:Rl f) (hx:x∈f.Code) {s:Int} (hs:s∈OB x):0<=s/\s<f.Slots.length:=by
 rcases aAb.1 hs with h|h
 ·exact hf.uses x hx s h
 ·by_cases hop:x.Op=16\/x.Op=17
  ·rw[if_pos hop]at h;rw[aAi.1 h];exact hd x hx hop
  simp_all
theorem AqT (hf:On f) (hd:Rl f) (hr:So f r) {pl:List Int} (hu:∀ k:Nat,k<f.Code.length->Oh r.Keep k=true->∀ v∈OB (rnI r.To (NJ f k)),v∈used) (htl:to.length=r.To.length) (hto:∀ (s:Nat) x,to[s]? =some x->0<=x/\(NZ r.To s∈used->used[x.toNat]? =some (NZ r.To s))) {p:Nat} (hx:(Ta f r.Keep to pl f.Code.length)[p]? =some x):∀ v∈OB x,0<=v/\v<used.length:=by
 have hkl:=hr.2.1;have hrl:=hr.1.1;obtain⟨j,hj,hk,rfl,rfl⟩:=(WM (f:=f) (keep:=r.Keep) (to:=to) (pl:=pl) f.Code.length (by omega)).2 p x hx
 have hxm:=(hf.at (j:=(j:Int)) (by omega) (by omega)).2
 intro v hv;rw[Avf,AcL]at hv;obtain⟨s,hs,rfl⟩:=hv;obtain⟨h0,h1⟩:=Agg hf hd hxm hs;have hm:=hu j hj hk (rnS r.To s) ((AcL _ _ _).2 ⟨s,hs,rfl⟩);rw[(hr.1.rng h0 h1).2.2]at hm;have hg:=QJ (to:=to) (s:=s) h0 (by omega)
 have e:rnS to s=NZ to s:=by simp_all[rnS]
 grind [aAS]
theorem UA.Axi {i most:Int} (h:UA ps i most f):Xb f:=by
 have hl:=h.len;have hg:f.Code[f.Code.length-1]? =some (NJ f (f.Code.length-1:Nat)):=by grind [NJ]
 have he:=h.last _ hg;unfold Xb;rcases he with e|⟨w,_,e⟩<;>rw[e]<;>simp
theorem Asd (hf:On f) (hd:Rl f) (hlast:Xb f) (hr:So f r):Hs (RA f r) λq=>q.2=0/\On q.1/\Rl q.1:=by
 have hkl:=hr.2.1;have hsl:=hf.slots;have hlen:=hf.len';have hl1:=hf.len;refine(Apo hf hd hr).mono λq ⟨h0,used,to,pl,u1,u2,n1,n2,p1,p2,sl,_,cd⟩=>⟨h0,?_⟩
 have hcl:q.1.Code.length=kept r.Keep f.Code.length:=by grind [WM]
 have hk0:=Ahh hf hlast hr (t:=0) (by omega)
 have hkl2:=AeK r.Keep f.Code.length;have hul:=AjV (l:=used) (a:=0) (n:=f.Slots.length) u1.1.1 λx hx=>⟨(u1.1.2 x hx).1,u1.2 x hx⟩
 have nm:∀ x∈q.1.Code,∀ v∈OB x,0<=v/\v<q.1.Slots.length:=by
  intro x hx v hv;obtain⟨p,hp⟩:=aAH hx;rw[cd]at hp;have:=AqT hf hd hr u2 n1 n2 hp v hv;omega
 refine⟨⟨by omega,by omega,by omega,λk x hx j hj=>?_,λx hx v hv=>nm x hx v (List.mem_append_left _ hv)⟩,λx hx hop=>nm x hx x.A (by simp_all[OB])⟩
 rw[cd]at hx;have:=Ase hf hlast hr p2 hx j hj;omega
def alS (f:Lo) (t:Int):Int:=((f.Slots[t.toNat]?).map NS.Align).getD 0
def AaF (f:Lo) (l:List Int) (a0 a:Int):Prop:=a0<=a/\(∀ t∈l,alS f t<=a)/\(a=a0\/∃ t∈l,a=alS f t)
theorem AaF.unique {l l':List Int} {a0 b:Int} (h:AaF f l a0 a) (k:AaF f l' a0 b) (e:∀ t,t∈l↔t∈l'):a=b:=by
 obtain⟨h1,h2,h3⟩:=h;obtain⟨k1,k2,k3⟩:=k
 grind
theorem AaF.nil (f:Lo) (a:Int):AaF f [] a a:=⟨aAU _,λt h=>(by cases h),.inl rfl⟩
theorem AaF.snoc {l:List Int} {a0:Int} (h:AaF f l a0 a) (t:Int):AaF f (l++[t]) a0 (max a (alS f t)):=by
 obtain⟨h1,h2,h3⟩:=h;refine⟨by omega,λu hu=>?_,?_⟩
 all_goals grind
def Aux (to:List Int) (s:Int) (l:List Int):Prop:=∀ t,t∈l↔∃ j:Nat,j<to.length/\t=(j:Int)/\NZ to j=s
def Apj (f:Lo) (r:NU) (used:List Int):Prop:=TR used λv=>∃ k:Nat,k<f.Code.length/\Oh r.Keep k=true/\v∈OB (rnI r.To (NJ f k))
structure Vj (f:Lo) (r:NU) (used:List Int) (out:List NS):Prop where
 len:out.length=used.length
 at_:∀ (i:Nat) (u:Int) (y:NS),used[i]? =some u->out[i]? =some y->∃ x l,f.Slots[u.toNat]? =some x/\y.Size=x.Size/\Aux r.To u l/\AaF f l x.Align y.Align
theorem Vj.unique {a b:List NS} (h:Vj f r used a) (k:Vj f r used b):a=b:=by
 refine aAd λi=>?_
 by_cases hi:i<used.length
 ·have e1:a[i]? =some (a[i]'(by have:=h.len;omega)):=aAA _
  have e2:b[i]? =some (b[i]'(by have:=k.len;omega)):=aAA _
  have hu:used[i]? =some used[i]:=aAA _;obtain⟨x,l,x1,x2,x3,x4⟩:=h.at_ i _ _ hu e1;obtain⟨x',l',y1,y2,y3,y4⟩:=k.at_ i _ _ hu e2;rw[x1]at y1;cases y1;rw[e1,e2];have ea:=x4.unique y4 λt=>(x3 t).trans (y3 t).symm
  congr 1;generalize a[i]'_=p at *;generalize b[i]'_=q at *;cases p;cases q;simp_all
 ·rw[aAM (by have:=h.len;omega),aAM (by have:=k.len;omega)]
def Apc (r:NU) (used to:List Int):Prop:=to.length=r.To.length/\∀ (s:Nat) x,to[s]? =some x->NZ r.To s∈used->0<=x/\used[x.toNat]? =some (NZ r.To s)
def AgR (r:NU) (pl:List Int):Prop:=pl.length=r.Keep.length/\∀ j:Nat,j<r.Keep.length->pl[j]? =some (kept r.Keep j:Int)
theorem AgR.unique {a b:List Int} (h:AgR r a) (k:AgR r b):a=b:=by
 refine aAd λj=>?_
 by_cases hj:j<r.Keep.length
 ·rw[h.2 j hj,k.2 j hj]
 ·rw[aAM (by have:=h.1;omega),aAM (by have:=k.1;omega)]
theorem AtZ {to':List Int} (h:∀ s∈OB x,rnS to s=rnS to' s):rnI to x=rnI to' x:=by
 simp_all[rnI,OB,Pk]
theorem OK.inj {l:List Int} (h:OK l) {j:Nat} (hi:l[i]? =some v) (hj:l[j]? =some v):i=j:=by
 obtain⟨a1,a2⟩:=aAB.1 hi;obtain⟨b1,b2⟩:=aAB.1 hj;have hp:=aAl.1 h.1
 grind
theorem Ahf {α β:Type} {f g:α->Option β}:∀ {l:List α},(∀ x∈l,f x=g x)->l.filterMap f=l.filterMap g
 | [],_=>rfl
 | a::l,h=>by
  have h0:=h a (aAJ ..);have h1:=Ahf (l:=l) λx hx=>h x (aAK _ hx)
  grind
theorem AsH (hf:On f) (hd:Rl f) (hr:So f r) {to' pl:List Int} (hs:OK used) (hu:∀ k:Nat,k<f.Code.length->Oh r.Keep k=true->∀ v∈OB (rnI r.To (NJ f k)),v∈used) (h:Apc r used to) (h':Apc r used to') :
  Ta f r.Keep to pl f.Code.length=Ta f r.Keep to' pl f.Code.length:=by
 have hrl:=hr.1.1;unfold Ta;refine Ahf λj hj=>?_
 have hj:=List.mem_range.1 hj
 by_cases hk:Oh r.Keep j=true
 ·have hxm:=(hf.at (j:=(j:Int)) (by omega) (by omega)).2
  rw[AtZ λs hs'=>?_]
  obtain⟨h0,h1⟩:=Agg hf hd hxm hs';have hm:=hu j hj hk (rnS r.To s) ((AcL _ _ _).2 ⟨s,hs',rfl⟩);rw[(hr.1.rng h0 h1).2.2]at hm;have one:∀ {t:List Int},Apc r used t->rnS t s=NZ t s/\0<=NZ t s/\used[(NZ t s).toNat]? =some (NZ r.To s):=fun{t} ht=>by
   have htl:=ht.1;have hg:=QJ (to:=t) (s:=s) h0 (by omega)
   have:=ht.2 s.toNat _ hg;rw[aAS h0]at this;simp_all[rnS]
  obtain⟨a1,a2,a3⟩:=one h;obtain⟨b1,b2,b3⟩:=one h';have:=hs.inj a3 b3;omega
 simp_all
def XW (f:Lo) (r:NU) (q:Lo×Int):Prop:=q.2=0/\q.1.Params=f.Params/\∃ used to pl:List Int,Apj f r used/\Vj f r used q.1.Slots/\Apc r used to/\AgR r pl/\q.1.Code=Ta f r.Keep to pl f.Code.length
theorem XW.unique (hf:On f) (hd:Rl f) (hr:So f r) {q q':Lo×Int} (h:XW f r q) (k:XW f r q'):q=q':=by
 obtain⟨h1,h2,used,to,pl,h3,h4,h5,h6,h7⟩:=h;obtain⟨k1,k2,used',to',pl',k3,k4,k5,k6,k7⟩:=k;have e1:used=used':=TR.eq h3 k3 λv _ _=>Iff.rfl
 subst e1;have e2:=h6.unique k6;subst e2;have hm:∀ k:Nat,k<f.Code.length->Oh r.Keep k=true->∀ v∈OB (rnI r.To (NJ f k)),v∈used:=λj hj hk v hv=>by
  have hsl:=hf.slots;have hxm:=(hf.at (j:=(j:Int)) (by omega) (by omega)).2
  have:=Abl hf hd hr.1 hxm v hv;exact(h3.2 v).2 ⟨⟨this.1,by omega⟩,j,hj,hk,hv⟩
 rw[AsH hf hd hr h3.1 hm h5 k5]at h7;obtain⟨⟨p,s,c⟩,e⟩:=q;obtain⟨⟨p',s',c'⟩,e'⟩:=q';simp only at *;rw[h1,k1,h2,k2,h7,k7,h4.unique k4]
section
variable {f:Lo}
theorem AsX (_hsl:f.Slots.length<=500) {x:NS} {out:List NS} (hi:i<=1000) {l:List Int} (hll:l.length<=1000) (ho:out.length=i) (hl:∀ t∈l,0<=t/\t<f.Slots.length) {Q:Lo×Int->Prop} (hI:∀ y:NS,y.Size=x.Size->AaF f l x.Align y.Align->Rnd I μ s0 Q (.inl (out++[y],((i+1:Nat):Int)))):Hs (NW (λs=>ZG l f out x (i:Int) s.1 s.2) (x.Align,0)) (Rnd I μ s0 Q):=by
 refine Hs.loop (λs=>∃ k:Nat,s.2=(k:Int)/\k<=l.length/\AaF f (l.take k) x.Align s.1) (λs=>l.length-s.2.toNat) ⟨0,rfl,aAE _,by grind [AaF.nil]⟩ ?_
 rintro⟨a,_⟩ ⟨k,rfl,hk,hm⟩;refine .dec (λhlt=>?_) λhge=>.lft (.chk (by simp;omega) (.chk (by simp;omega) ?_))
 ·have hlt:k<l.length:=by omega
  have hg:l[k]? =some l[k]:=aAA _;have htk:l.take (k+1)=l.take k++[l[k]]:=by simp_all
  have ht:=hl _ (aAF hlt);generalize l[k]=t at hg htk ht;refine .chk (by omega) ?_
  rw[aAC,hg,aA];refine(Hs.ix (P:=λy=>alS f t=y.Align) ht.1 ht.2 λy hy=>by grind [alS]).bind λy hy=>?_
  rw[NO (by omega),Anb,<- hy]
  refine .cnt ⟨⟨k+1,rfl,hlt,?_⟩,by grind⟩
  rw[htk];exact hm.snoc t
 ·have hkk:k=l.length:=by omega
  subst hkk;rw[aAf]at hm;unfold Xu;rw[NO (by omega)]
  exact .cnt (hI _ rfl hm)
theorem Vj.snoc {out:List NS} (ho:out.length=i) (hi:i<=used.length) (h:Vj f r (used.take i) out) (hu:used[i]? =some u) {x y:NS} {l:List Int} (hx:f.Slots[u.toNat]? =some x) (h1:y.Size=x.Size) (hl:Aux r.To u l) (h2:AaF f l x.Align y.Align):Vj f r (used.take (i+1)) (out++[y]):=by
 have hlt:=(aAB.1 hu).1;refine⟨by grind,λj v z hv hz=>?_⟩
 by_cases e:j<i
 ·rw[aAN (by omega)]at hz
  refine h.at_ j v z ?_ hz
  grind
 grind
theorem Axq (hf:On f) (hd:Rl f) (hr:So f r):Hs (ZI f r) λl=>Apj f r l/\Ot f.Slots.length l:=by
 have hlen:=hf.len';have hsl:=hf.slots;have hkl:=hr.2.1;refine Hs.loop (λs=>∃ k:Nat,s.2=(k:Int)/\k<=f.Code.length/\Ot f.Slots.length s.1/\∀ v,v∈s.1↔∃ j:Nat,j<k/\Oh r.Keep j=true/\v∈OB (rnI r.To (NJ f j))) (λs=>f.Code.length-s.2.toNat) ⟨0,rfl,aAE _,Ot.nil _,λv=>⟨λh=>(by cases h),λ⟨j,hj,_⟩=>absurd hj (aAI _)⟩⟩ ?_
 rintro⟨l,_⟩ ⟨k,rfl,hk,hs,hj⟩;replace hs:Ot f.Slots.length l:=hs;have split:∀ v,(∃ j:Nat,j<k+1/\Oh r.Keep j=true/\v∈OB (rnI r.To (NJ f j)))↔v∈l\/(Oh r.Keep k=true/\v∈OB (rnI r.To (NJ f k))):=λv=>by
  grind
 refine .dec (λhlt=>.dec (λ_=>?_) λh=>?_) λhge=>.lft (.pure ⟨⟨hs.1,λv=>?_⟩,hs⟩)
 ·have hlt:k<f.Code.length:=by omega
  have hx:=hf.at (j:=(k:Int)) (by omega) (by omega)
  rw[aAC]at hx;have hg:r.Keep[k]? =some (Oh r.Keep k):=by grind [Oh]
  have hnr:=Abl hf hd hr.1 hx.2;unfold Yh;simp only[Oo,hg,hx.1,aA,Aqu,Apr,Aka,NO (show k<9223372036854775807 by omega)]
  refine .cond (λh=>.cnt ⟨⟨k+1,rfl,hlt,hs,λv=>?_⟩,by grind⟩) λh=>?_
  ·simp_all
  ·have hkt:Oh r.Keep k=true:=by simp_all
   obtain⟨y,hy⟩:∃ y,y=rnI r.To (NJ f k):=⟨_,rfl⟩;rw[<- hy]at hnr ⊢;have hul:(Pk y).length<=1:=by grind [Pk]
   have hll:=hs.1.length_le;rw[union_eq _ _ (by omega),aA]
   obtain⟨u1,u2⟩:=UY (n:=f.Slots.length) (by omega) (b:=Pk y) (a:=l) hs (λx hx=>hnr x (by grind [OB]))
   by_cases hdy:y.Op=16\/y.Op=17
   ·simp only[Agw,if_pos hdy,cond_true];have hA:=hnr y.A (by simp_all[OB])
    obtain⟨a1,a2⟩:=Ot.add (n:=f.Slots.length) u1 hA (by omega)
    have a3:=(Ot.AeS u1 hA (by omega)).2.2
    rw[a2,aA];refine .cnt ⟨⟨k+1,rfl,hlt,a1,λv=>?_⟩,by grind⟩
    show v∈QT y.A (QK l (Pk y))↔_;rw[split v,a3,u2,<- hy];unfold OB
    grind
   ·simp only[Agw,if_neg hdy,cond_false];refine .cnt ⟨⟨k+1,rfl,hlt,u1,λv=>?_⟩,by grind⟩
    simp_all[OB]
 ·omega
 ·have hkk:k=f.Code.length:=by omega
  subst hkk;constructor
  ·intro h;have:=hs.2 v h;exact⟨⟨(hs.1.2 v h).1,by omega⟩,(hj v).1 h⟩
  simp_all
theorem Avq (hf:On f) (hd:Rl f) (hr:So f r):Hs (RA f r) (XW f r):=by
 have hlen:=hf.len';have hsl:=hf.slots;have hkl:=hr.2.1;have htl:=hr.1.1;refine(AkD hf r).bind λe he=>.bne (λh=>(h (he.2.2 hr)).elim) λ_=>?_
 refine(Axq hf hd hr).bind λused ⟨hu0,hu1⟩=>?_
 have hul:=hu1.1.length_le;refine Hs.loop (λs=>∃ i:Nat,s.2=(i:Int)/\i<=used.length/\s.1.length=i/\Vj f r (used.take i) s.1) (λs=>used.length-s.2.toNat) ⟨0,rfl,aAE _,rfl,rfl,λj u y hj=>by simp at hj⟩ ?_
 rintro⟨out,_⟩ ⟨i,rfl,hi,ho,hsa⟩;refine .dec (λhlt=>?_) λhge=>.lft ?_
 ·have hlt:i<used.length:=by omega
  have hgx:used[i]? =some used[i]:=aAA _;have hxm:=aAF hlt;generalize used[i]=u at hgx hxm;have h0:=(hu1.1.2 u hxm).1;have h1:=hu1.2 u hxm;refine .chk (by omega) ?_
  simp only[aAC,hgx,aA];refine(Hs.ix (P:=λx=>f.Slots[u.toNat]? =some x) h0 h1 λx hx=>hx).bind λx hfx=>.chk (by omega) ?_
  refine(AjY (by omega) u).bind λl hm=>?_
  refine AsX hsl (by omega) (l:=l) (by omega) ho (λt ht=>?_) λy hy1 hy2=>⟨⟨i+1,rfl,hlt,by simp[ho],hsa.snoc ho (by omega) hgx hfx hy1 hm.2 hy2⟩,by grind⟩
  grind
 have hii:i=used.length:=by omega
 subst hii;rw[aAf]at hsa;refine(AlX (by omega) hul).bind λto ⟨n1,n2⟩=>(AnX r (by omega)).bind λpl ⟨p1,p2⟩=>?_
 refine(Apm hf hkl to pl p1 out).mono λq hq=>?_
 subst hq;exact⟨rfl,rfl,used,to,pl,hu0,hsa,⟨n1,λs x hs hm=>⟨(n2 s x hs).1,(n2 s x hs).2 hm⟩⟩,⟨p1,p2⟩,rfl⟩
end
open Go Go.Dw Go.Proofs
def QX (a:NT):Prop:=0<=a.Off/\a.Off<=2147483647/\0<=a.Size/\a.Size<=2147483647/\a.Off+a.Size<=2147483647
def TQ (a b:NT):Prop:=QX a/\QX b/\0<a.Size/\0<b.Size/\a.Off<b.Off+b.Size/\b.Off<a.Off+a.Size
def InI (a:NT) (n:Int):Prop:=QX a/\a.Off+a.Size<=n
instance (a:NT):Decidable (QX a):=by unfold QX;infer_instance
instance (a b:NT):Decidable (TQ a b):=by unfold TQ;infer_instance
instance (a:NT) (n:Int):Decidable (InI a n):=by unfold InI;infer_instance
theorem Abd (a:NT):Se a=some (decide (QX a)):=by
 unfold Se;simp only[AcA,aA]
 by_cases h1:0<=a.Off/\a.Off<=2147483647
 ·rw[decide_eq_true h1,cond_true]
  by_cases h2:0<=a.Size/\a.Size<=2147483647
  ·rw[decide_eq_true h2,cond_true,wrap64 (by omega) (by omega)]
   simp_all[QX]
  ·rw[decide_eq_false h2,cond_false,decide_eq_false (λh=>h2 ⟨h.2.2.1,h.2.2.2.1⟩)]
 ·rw[decide_eq_false h1,cond_false,decide_eq_false (λh=>h1 ⟨h.1,h.2.1⟩)]
theorem Ain {m:Nat} (hm:m<=24):QM ((2 ^ m:Nat):Int)=some true:=by
 have:Hs (QM ((2 ^ m:Nat):Int)) λb=>b=true:=by
  unfold QM;have hp:2 ^ m<=2 ^ 24:=aAX (by omega) hm
  refine Hs.loop (λk=>∃ j:Nat,k=((2 ^ j:Nat):Int)/\j<=m) (λk=>2 ^ m-k.toNat) ⟨0,rfl,aAE _⟩ ?_
  rintro _ ⟨j,rfl,hj⟩;have hjp:2 ^ j<=2 ^ m:=aAX (by omega) hj
  have hj0:0<2 ^ j:=Nat.two_pow_pos j;unfold RI;refine .dec (λ_=>.beq (λ_=>.lft (.pure rfl)) λhne=>?_) λh=>(h (by omega)).elim
  have hlt:j<m:=by
   grind
  have h2:2 ^ (j+1)<=2 ^ m:=aAX (by omega) hlt
  have h3:2 ^ (j+1)=2 ^ j*2:=Nat.pow_succ 2 j;refine .cnt ⟨⟨j+1,?_,hlt⟩,?_⟩
  all_goals grind [wrap64]
 obtain⟨r,h,rfl⟩:=this;exact h
def upN (n a:Int):Int:=n+(-n) % a
theorem Vc {n:Int} (ha:0<a):n<=upN n a/\upN n a<n+a/\upN n a % a=0:=by
 have h1:=aAq (-n) (show a≠0 by omega)
 have h2:=aAj (-n) ha;refine⟨by grind [upN],by grind [upN],?_⟩
 unfold upN;rw[Int.emod_def (-n) a]
 grind [Int.mul_neg,Int.mul_emod_right]
def Qy (a:Int):Prop:=∃ m:Nat,m<=24/\a=((2 ^ m:Nat):Int)
theorem Qy.rng (h:Qy a):1<=a/\a<=16777216:=by
 obtain⟨m,hm,rfl⟩:=h;have hp:2 ^ m<=2 ^ 24:=aAX (by omega) hm
 grind
theorem Aue {n:Int} (h0:0<=n) (h1:n<=1000000000) (ha:Qy a):AcS n a=some (upN n a,0):=by
 obtain⟨a1,a2⟩:=ha.rng;obtain⟨m,hm,rfl⟩:=ha;unfold AcS;rw[AcA,aA,decide_eq_true (show 0<=n/\n<=2147483647 by omega)]
 simp only[aAY,cond_false,Ain hm,aA];generalize((2 ^ m:Nat):Int)=a at *;unfold Adp Aao;have ht:n.tmod a=n % a:=aAk h0;have e1:=aAq n (show a≠0 by omega)
 have e2:=aAj n (show 0<a by omega)
 have e3:=aAq (-n) (show a≠0 by omega)
 have e4:=aAj (-n) (show 0<a by omega)
 rw[OA (by omega),ht]
 have key:(n % a=0->upN n a=n)/\(n % a≠0->upN n a=n-n % a+a):=by
  unfold upN;constructor
  ·simp_all[Int.emod_eq_zero_of_dvd,aAo]
  ·intro h;have hs:(n % a+(-n) % a) % a=0:=by
    rw[Int.emod_def n a,Int.emod_def (-n) a];have:n-a*(n / a)+(-n-a*(-n / a))=a*(-(n / a)+ -(-n / a)):=by grind
    simp_all
   have hq:n % a+(-n) % a=a:=by
    obtain⟨q,hq⟩:=aAo hs;have q1:0<q:=by
     rcases Int.lt_or_le 0 q with h|h
     ·exact h
     ·have:=aAh h (show 0<=a by omega)
      omega
    have q2:q<2:=by
     rcases Int.lt_or_le q 2 with h|h
     ·exact h
     ·have:=aAh h (show 0<=a by omega)
      omega
    grind
   omega
 by_cases h:n % a=0
 ·grind
 ·have:=key.2 h;rw[show(n % a != 0)=true by simp_all,cond_true,OA (by omega),wrap64 (n:=n-n % a) (by omega) (by omega),wrap64 (by omega) (by omega),<- this,decide_eq_false (by omega),cond_false]
theorem QX.wrap {a:NT} (h:QX a):IntKind.i64.wrap (a.Off+a.Size)=a.Off+a.Size:=by
 grind [QX,wrap64]
theorem Atz (a:NT) (n:Int):Afg a n=some (decide (InI a n)):=by
 unfold Afg;rw[Abd,aA]
 by_cases h:QX a
 ·rw[decide_eq_true h,cond_true,h.wrap];simp[InI,h]
 simp_all[InI]
theorem WA (m:Nat) (hm:m<=24):Qy ((2 ^ m:Nat):Int):=⟨m,hm,rfl⟩
theorem AdB.al {s:NS} (h:AdB s):Qy s.Align/\s.Align<=64/\1<=s.Size/\s.Size<=16:=by
 obtain⟨h1,h2⟩:=h;have ha:Qy s.Align/\s.Align<=64:=by
  simp only[aAe,aAn,or_false]at h2;rcases h2 with h|h|h|h|h|h|h|h<;>rw[h]
  ·exact⟨WA 3 (by omega),by omega⟩
  ·exact⟨WA 2 (by omega),by omega⟩
  ·exact⟨WA 0 (by omega),by omega⟩
  ·exact⟨WA 3 (by omega),by omega⟩
  ·exact⟨WA 4 (by omega),by omega⟩
  ·exact⟨WA 1 (by omega),by omega⟩
  ·exact⟨WA 5 (by omega),by omega⟩
  ·exact⟨WA 6 (by omega),by omega⟩
 grind
def Abw (s:NS):Prop:=s.Size∈([1,2,4,8,16]:List Int)/\Qy s.Align
theorem Abw.al {s:NS} (h:Abw s):Qy s.Align/\s.Align<=16777216/\1<=s.Size/\s.Size<=16:=by
 refine⟨h.2,h.2.rng.2,?_⟩;have:=h.1
 grind
theorem AdB.wide {s:NS} (h:AdB s):Abw s:=by
 refine⟨?_,h.al.1⟩;have:=h.1;simp only[aAe,aAn,or_false]at this ⊢;omega
theorem Aud {s:List NS} (h:∀ x∈s,AdB x) (hl:s.length<=512):Hs (TU s) λe=>e=0:=by
 unfold TU;rw[decide_eq_false (by omega),cond_false]
 refine Hs.loop (λi=>∃ k:Nat,i=(k:Int)/\k<=s.length) (λi=>s.length-i.toNat) ⟨0,rfl,aAE _⟩ ?_
 rintro _ ⟨k,rfl,hk⟩;refine .dec (λhlt=>?_) λ_=>.lft (.pure rfl)
 have hlt:k<s.length:=by omega
 have hx:=h _ (aAF hlt);rw[Oo,aAA hlt];generalize s[k]=x at hx;have e1:Tb x.Size=some true:=by
  have:=hx.1;simp only[aAe,aAn,or_false]at this
  grind [Tb]
 have e2:QM x.Align=some true:=by
  obtain⟨m,hm,e⟩:=hx.al.1
  grind [Ain]
 simp only[aA,e1,e2,aAY,cond_false];rw[NO (by omega)]
 exact .cnt ⟨⟨k+1,rfl,by omega⟩,by grind⟩
def RG (p:NM) (n:Int) (x:NH):Int:=if x.Op=18 then OD n (x.A+1)else if x.Op=22 then OD n (((p.Funcs[x.A.toNat]?).map Lo.Params).getD 0)else n
def OT (p:NM) (f:Lo) (k:Nat):Int:=(f.Code.take k).foldl (RG p) 0
def Abs (p:NM) (f:Lo):Prop:=∀ x∈f.Code,(x.Op=18->0<=x.A/\x.A<8)/\(x.Op=22->0<=x.A/\∃ g,p.Funcs[x.A.toNat]? =some g/\0<=g.Params/\g.Params<=8)
theorem UZ (hk:k<f.Code.length):OT p f (k+1)=RG p (OT p f k) f.Code[k]:=by
 grind [OT,aAR]
theorem ApU {b c:Int} (h0:0<=a/\a<=c) (h1:b<=c):0<=OD a b/\OD a b<=c:=by grind [OD]
theorem XC {p:NM} {f:Lo} (h:Abs p f):∀ {k:Nat},k<=f.Code.length->0<=OT p f k/\OT p f k<=8
 | 0,_=>by simp[OT]
 | k+1,hk=>by
  rw[UZ hk];have ih:=XC h (k:=k) (by omega)
  obtain⟨h1,h2⟩:=h _ (aAF hk);unfold RG;split
  ·exact ApU ih (by omega)
  ·split
   ·obtain⟨_,g,hg,hp⟩:=h2 ‹_›;rw[hg];exact ApU ih (by simp_all)
   ·exact ih
theorem Aqc {i:Int} (hi:ixO p.Funcs i=some f) (hl:f.Code.length<=10000) (h:Abs p f):XT p i=some (16*OT p f f.Code.length):=by
 have:Hs (XT p i) λr=>r=16*OT p f f.Code.length:=by
  unfold XT;rw[hi,aA];refine Hs.loop (λq=>∃ k:Nat,q=(OT p f k,(k:Int))/\k<=f.Code.length) (λq=>f.Code.length-q.2.toNat) ⟨0,rfl,aAE _⟩ ?_
  rintro _ ⟨k,rfl,hk⟩;have hr:=XC h hk;refine .dec (λhlt=>?_) λhge=>.lft (.pure ?_)
  ·have hlt:k<f.Code.length:=by omega
   have e:ixO f.Code (k:Int)=some f.Code[k]:=by simp_all
   obtain⟨h1,h2⟩:=h _ (aAF hlt);simp only[e,aA];rw[NO (by omega)]
   refine .beq (λh18=>?_) λh18=>.beq (λh22=>?_) λh22=>?_
   ·rw[wrap64 (by omega) (by omega)]
    exact .cnt ⟨⟨k+1,by grind [UZ,RG],hlt⟩,by grind⟩
   ·obtain⟨a0,g,hg,hp⟩:=h2 h22;rw[Pu _ a0,hg,aA];exact .cnt ⟨⟨k+1,by grind [UZ,RG],hlt⟩,by grind⟩
   ·exact .cnt ⟨⟨k+1,by grind [UZ,RG],hlt⟩,by grind⟩
  ·have:k=f.Code.length:=by omega
   subst this;rw[wrap64 (by omega) (by omega)]
   show OT p f f.Code.length*16=_;omega
 obtain⟨r,h,rfl⟩:=this;exact h
def AmC (s:List NS):Prop:=s.length<=7/\∀ x∈s,Qy x.Align/\x.Align<=64/\1<=x.Size/\x.Size<=16
def Abx (s:List NS):Prop:=s.length<=40/\∀ x∈s,Qy x.Align/\x.Align<=16777216/\1<=x.Size/\x.Size<=16
theorem AmC.w {s:List NS} (h:AmC s):Abx s:=⟨by have:=h.1;omega,λx hx=>⟨(h.2 x hx).1,by have:=(h.2 x hx).2.1;omega,(h.2 x hx).2.2⟩⟩
def Aho (q:List Int×Int) (s:NS):List Int×Int:=(q.1++[upN q.2 s.Align],upN q.2 s.Align+s.Size)
def plK (s:List NS) (a:Int) (k:Nat):List Int×Int:=(s.take k).foldl Aho ([],a)
theorem AcP {s:List NS} (hk:k<s.length):plK s a (k+1)=Aho (plK s a k) s[k]:=by
 grind [plK,aAR]
theorem Ahn {s:List NS} (h:Abx s) {a:Int} (ha:0<=a/\a<=1000):∀ {k:Nat},k<=s.length->(plK s a k).1.length=k/\a<=(plK s a k).2/\(plK s a k).2<=a+16777240*k
 | 0,_=>by simp[plK]
 | k+1,hk=>by
  have ih:=Ahn h ha (k:=k) (by omega)
  obtain⟨h1,h2,h3,h4⟩:=h.2 _ (aAF hk);obtain⟨u1,u2,_⟩:=Vc (n:=(plK s a k).2) (a:=s[k].Align) (by have:=h1.rng;omega)
  grind [AcP,Aho]
def PY (p:NM) (f:Lo) (al:Int):NV:=⟨16*OT p f f.Code.length,upN (plK f.Slots (16*OT p f f.Code.length) f.Slots.length).2 al,(plK f.Slots (16*OT p f f.Code.length) f.Slots.length).1⟩
structure AvK (p:NM) (i:Int) (f:Lo) (al:Int):Prop where
 hi:ixO p.Funcs i=some f
 arg:Abs p f
 slots:Abx f.Slots
 alok:Qy al
 al16:16<=al
 al64:al<=16777216
 len':f.Code.length<=10000
def AeQ (f:Lo) (y:NV) (k:Nat):Prop:=∃ o s,y.Off[k]? =some o/\f.Slots[k]? =some s/\y.Args<=o/\o.tmod s.Align=0/\InI ⟨o,s.Size⟩ y.Size
def RD (p:NM) (f:Lo) (al:Int) (y:NV):Prop :=
 y.Args=16*OT p f f.Code.length/\y.Off.length=f.Slots.length/\(∀ k:Nat,k<f.Slots.length->AeQ f y k)/\y.Size.tmod al=0/\y.Args<=y.Size/\y.Size<=(PY p f al).Size
theorem Anf {s:List NS} {a:Int}:∀ {k:Nat},k<=s.length->(plK s a k).1.length=k
 | 0,_=>by simp[plK]
 | k+1,hk=>by
  have ih:=Anf (s:=s) (a:=a) (k:=k) (by omega)
  grind [AcP,Aho]
theorem ArO {s:List NS} {a:Int} {j:Nat} (hj:j<s.length):∀ {k:Nat},j<k->k<=s.length->(plK s a k).1[j]? =some (upN (plK s a j).2 s[j].Align)
 | 0,h,_=>absurd h (aAI _)
 | k+1,h,hk=>by
  rw[AcP hk];have hl:=Anf (a:=a) (show k<=s.length by omega)
  unfold Aho
  by_cases e:j=k
  ·simp_all
  ·rw[aAN (by omega)]
   exact ArO hj (by omega) (by omega)
theorem ArN {s:List NS} {j:Nat} (hj:j<s.length):(plK s a (j+1)).2=upN (plK s a j).2 s[j].Align+s[j].Size:=by rw[AcP hj];rfl
theorem Ali {s:List NS} (h:Abx s) {a:Int} {j:Nat}:∀ {k:Nat},j<=k->k<=s.length->(plK s a j).2<=(plK s a k).2
 | 0,h,_=>by simp_all
 | k+1,hjk,hk=>by
  by_cases e:j=k+1
  ·simp_all
  have ih:=Ali h (a:=a) (j:=j) (k:=k) (by omega) (by omega)
  obtain⟨h1,h2,h3,h4⟩:=h.2 _ (aAF hk);obtain⟨u1,u2,_⟩:=Vc (n:=(plK s a k).2) (a:=s[k].Align) (by have:=h1.rng;omega)
  grind [ArN]
section
variable {p:NM} {i:Int} {f:Lo} {al:Int} (h:AvK p i f al)
 include h
theorem AfU:(plK f.Slots (16*OT p f f.Code.length) f.Slots.length).2<=(PY p f al).Size/\(PY p f al).Size<(plK f.Slots (16*OT p f f.Code.length) f.Slots.length).2+al/\(PY p f al).Size.tmod al=0/\0<=16*OT p f f.Code.length/\16*OT p f f.Code.length<=(plK f.Slots (16*OT p f f.Code.length) f.Slots.length).2/\(PY p f al).Size<=1000000000:=by
 have hr:=XC h.arg (k:=f.Code.length) (aAO _);have hsl:=h.slots.1;have h16:=h.al16;have h64:=h.al64;have hp:=Ahn h.slots (a:=16*OT p f f.Code.length) (by omega) (aAO _)
 obtain⟨u1,u2,u3⟩:=Vc (n:=(plK f.Slots (16*OT p f f.Code.length) f.Slots.length).2) (a:=al) (by omega)
 refine⟨u1,u2,?_,by omega,hp.2.1,?_⟩
 ·show(upN _ al).tmod al=0
  grind
 ·show upN _ al<=1000000000;omega
theorem AuC (hk:k<f.Slots.length):∃ o,(PY p f al).Off[k]? =some o/\(plK f.Slots (16*OT p f f.Code.length) k).2<=o/\o+f.Slots[k].Size=(plK f.Slots (16*OT p f f.Code.length) (k+1)).2/\o.tmod f.Slots[k].Align=0:=by
 have hr:=XC h.arg (k:=f.Code.length) (aAO _);have hp:=Ahn h.slots (a:=16*OT p f f.Code.length) (by omega) (show k<=f.Slots.length by omega)
 obtain⟨h1,h2,h3,h4⟩:=h.slots.2 _ (aAF hk);obtain⟨u1,u2,u3⟩:=Vc (n:=(plK f.Slots (16*OT p f f.Code.length) k).2) (a:=f.Slots[k].Align) (by have:=h1.rng;omega)
 refine⟨_,ArO hk hk (aAO _),u1,(ArN hk).symm,?_⟩
 grind
theorem Ash:RD p f al (PY p f al):=by
 obtain⟨b1,b2,b3,b4,b5,b6⟩:=AfU h;refine⟨rfl,Anf (aAO _),λk hk=>?_,b3,?_,aAU _⟩
 ·obtain⟨o,e1,e2,e3,e4⟩:=AuC h hk;have m1:=Ali h.slots (a:=16*OT p f f.Code.length) (j:=0) (k:=k) (by omega) (by omega)
  have m2:=Ali h.slots (a:=16*OT p f f.Code.length) (j:=k+1) (k:=f.Slots.length) hk (aAO _);have m0:(plK f.Slots (16*OT p f f.Code.length) 0).2=16*OT p f f.Code.length:=rfl;have hs:=(h.slots.2 _ (aAF hk)).2.2;refine⟨o,f.Slots[k],e1,aAA _,?_,e4,⟨?_,?_⟩⟩
  ·show 16*OT p f f.Code.length<=o;omega
  ·refine⟨?_,?_,?_,?_,?_⟩<;>simp only<;>omega
  grind
 ·show 16*OT p f f.Code.length<=_;omega
end
open Go Go.Dw Go.Proofs
theorem Qy.max {b:Int} (ha:Qy a) (hb:Qy b):Qy (OD a b):=by grind [OD]
theorem Avu {B:Int} (hB:16<=B) {s:List NS} (hl:s.length<=512) (h:∀ x∈s,Qy x.Align/\x.Align<=B):Hs (Va s) λa=>Qy a/\16<=a/\a<=B:=by
 have a16:Qy 16:=WA 4 (by omega)
 unfold Va;refine(Auc s).bind λe he=>.bne (λ_=>.pure ⟨a16,by omega,by omega⟩) λ_=>?_
 refine Hs.loop (λq=>∃ k:Nat,q.2=(k:Int)/\k<=s.length/\Qy q.1/\16<=q.1/\q.1<=B) (λq=>s.length-q.2.toNat) ⟨0,rfl,aAE _,a16,by omega,by omega⟩ ?_
 rintro⟨a,_⟩ ⟨k,rfl,hk,h1,h2,h3⟩;replace h2:16<=a:=h2;replace h3:a<=B:=h3;unfold Zy;dsimp only;refine .dec (λhlt=>?_) λ_=>.lft (.pure ⟨h1,h2,h3⟩)
 have hlt:k<s.length:=by omega
 rw[NO (by omega)]
 refine(Hs.ix (by omega) (by omega) λx hx=>h x (aAD hx)).bind λx hx=>.cnt ⟨⟨k+1,rfl,hlt,h1.max hx.1,?_,?_⟩,by grind⟩
 all_goals grind [OD]
theorem Avj {B:Int} (hB:16<=B) (hp:p.Funcs.length<=1000) (h:∀ f∈p.Funcs,f.Slots.length<=512/\∀ x∈f.Slots,Qy x.Align/\x.Align<=B):Hs (Sg p) λa=>Qy a/\16<=a/\a<=B:=by
 have a16:Qy 16:=WA 4 (by omega)
 unfold Sg;refine Hs.loop (λq=>∃ k:Nat,q.2=(k:Int)/\k<=p.Funcs.length/\Qy q.1/\16<=q.1/\q.1<=B) (λq=>p.Funcs.length-q.2.toNat) ⟨0,rfl,aAE _,a16,by omega,by omega⟩ ?_
 rintro⟨a,_⟩ ⟨k,rfl,hk,h1,h2,h3⟩;replace h2:16<=a:=h2;replace h3:a<=B:=h3;unfold AcV;dsimp only;refine .dec (λhlt=>?_) λ_=>.lft (.pure ⟨h1,h2,h3⟩)
 have hlt:k<p.Funcs.length:=by omega
 rw[NO (by omega)]
 refine(Hs.ix (by omega) (by omega) λx hx=>h x (aAD hx)).bind λx hx=>(Avu hB hx.1 hx.2).bind λb hb=>.cnt ⟨⟨k+1,rfl,hlt,h1.max hb.1,?_,?_⟩,by grind⟩
 all_goals grind [OD]
theorem UA.args {i most:Int} (h:UA ps i most f) (hi:0<=i) (hl:p.Funcs.length=ps.length) (hps:Asb ps) (hall:∀ (j:Nat) g,p.Funcs[j]? =some g->UA ps j most g):Abs p f:=by
 intro x hx;obtain⟨k,hk⟩:=aAH hx;have hkl:=(aAB.1 hk).1
 by_cases hk1:k+1<f.Code.length
 ·have hins:=h.body k x hk hk1;cases hins with
  | call j h0 h1 =>
   refine⟨λe=>by simp at e,λ_=>⟨by grind,?_⟩⟩
   have hg:p.Funcs[j.toNat]? =some (p.Funcs[j.toNat]'(by omega)):=aAA _
   have:=(hall _ _ hg).par;have:=hps.1 _ (aAD this)
   grind
  | arg a b h0 h1 h2=>grind
  | bin op a b c h1 h2 h3 h4 h5 h6=>grind
  | un op a h1 h2=>grind
  | _=>exact⟨λe=>by simp at e,λe=>by simp at e⟩
 ·have he:=h.last x (by grind)
  rcases he with rfl|⟨w,_,rfl⟩<;>exact⟨λe=>by simp at e,λe=>by simp at e⟩
structure AfR (p:NM) (i:Int) (f:Lo) (al:Int):Prop where
 hi:ixO p.Funcs i=some f
 arg:Abs p f
 slots:Abx f.Slots
 alok:Qy al
 al16:16<=al
 al64:al<=16777216
 SS:On f
 defs:Rl f
 ml:Abv f
theorem AfR.bas {i:Int} {al:Int} (h:AfR p i f al):AvK p i f al:=⟨h.hi,h.arg,h.slots,h.alok,h.al16,h.al64,h.SS.len'⟩
def Adx (n:Nat) (f:Lo):Prop:=∀ x∈f.Code,x.Op=22->0<=x.A/\x.A<n
theorem Arz {n:Nat} (h:Adx n f) {keep:List Bool} {pl:List Int} (hk:f.Code.length<=keep.length):∀ x∈Ta f keep to pl f.Code.length,x.Op=22->0<=x.A/\x.A<n:=by
 intro x hx hop;obtain⟨p,hp⟩:=aAH hx;obtain⟨j,h1,_,_,rfl⟩:=(WM (f:=f) (keep:=keep) (to:=to) (pl:=pl) _ hk).2 p x hp;have hm:NJ f (j:Nat)∈f.Code:=by
  grind [NJ]
 have ho:(mvI pl (rnI to (NJ f (j:Nat)))).Op=(NJ f (j:Nat)).Op:=by
  refine Eq.trans ?_ (Ack to _)
  grind [mvI]
 rw[ho]at hop;have e:mvI pl (rnI to (NJ f (j:Nat)))=NJ f (j:Nat):=by grind [mvI,rnI]
 rw[e];exact h _ hm hop
theorem AqR (hf:On f) (hd:Rl f) (hlast:Xb f) {n:Nat} (hc:Adx n f) (hr:So f r):Hs (RA f r) λq=>q.2=0/\On q.1/\Rl q.1/\Adx n q.1:=by
 obtain⟨q,e,h1,h2,h3⟩:=Asd hf hd hlast hr;obtain⟨q',e',_,used,to,pl,_,_,_,_,_,_,_,_,cd⟩:=Apo hf hd hr;rw[e]at e';cases e';refine⟨q,e,h1,h2,h3,?_⟩;unfold Adx;rw[cd];exact Arz hc (by rw[hr.2.1];omega)
section
variable {p:NM} {i:Int} {f:Lo}
theorem Vj.AxI (hs:∀ x∈f.Slots,Abw x) (htl:r.To.length=f.Slots.length) {out:List NS} (h:Vj f r used out):∀ y∈out,Abw y:=by
 intro y hy;obtain⟨j,hj⟩:=aAH hy;have hjl:=(aAB.1 hj).1;have hu:used[j]? =some (used[j]'(by rw[<- h.len];exact hjl)):=aAA _
 obtain⟨x,l,h1,h2,h3,h4⟩:=h.at_ j _ y hu hj;have hx:=hs x (aAD h1);unfold Abw;rw[h2];refine⟨hx.1,?_⟩;rcases h4.2.2 with e|⟨t,ht,e⟩
 ·rw[e];exact hx.2
 ·obtain⟨k,hk,rfl,_⟩:=(h3 t).1 ht;have hs':f.Slots[k]? =some (f.Slots[k]'(by omega)):=aAA _
  have:alS f (k:Int)=(f.Slots[k]'(by omega)).Align:=by grind [alS]
  rw[e,this];exact(hs _ (aAF _)).2
theorem Akh (pl:List Int) (x:NH):(mvI pl x).Op=x.Op:=by
 grind [mvI]
theorem Alz {pl:List Int} (h:x.Op=18\/x.Op=22):mvI pl (rnI to x)=x:=by
 have e:rnI to x=x:=by
  unfold rnI
  grind
 rw[e];unfold mvI
 grind
theorem AkJ {q:Lo} (hi:ixO p.Funcs i=some f) (hq:q.Params=f.Params) (a:Nat):((p.Funcs.set i.toNat q)[a]?).map Lo.Params=(p.Funcs[a]?).map Lo.Params:=by
 obtain⟨i0,i1,h⟩:=AaM hi
 grind
theorem Aoe {q:Lo} {r:NU} {to pl:List Int} (hi:ixO p.Funcs i=some f) (hq:q.Params=f.Params) (hr:So f r):∀ k:Nat,k<=f.Code.length->(Ta f r.Keep to pl k).foldl (RG ⟨p.Funcs.set i.toNat q⟩) 0=(f.Code.take k).foldl (RG p) 0
 | 0,_=>by simp[Ta]
 | k+1,hk=>by
  have ih:=Aoe (to:=to) (pl:=pl) hi hq hr k (by omega)
  have hx:NJ f (k:Nat)=f.Code[k]'(by omega):=by grind [NJ]
  rw[AjM,List.foldl_append,ih,aAR (by omega),List.foldl_append,<- hx]
  generalize(f.Code.take k).foldl (RG p) 0=n
  by_cases hk':Oh r.Keep k=true
  ·rw[if_pos hk']
   grind [RG,Alz,AkJ,Akh,Ack]
  ·rw[if_neg hk'];have:=hr.2.2 k (by omega) (by simp_all)
   show n=RG p n (NJ f (k:Nat));unfold RG;omega
end
theorem XW.AwI (hf:On f) (hd:Rl f) (hml:Abv f) (hr:So f r) {q:Lo} (hx:XW f r (q,0)):Abv q:=by
 obtain⟨_,_,used,to,pl,hu,hsx,hn,hpl,hcode⟩:=hx;have hsx:Vj f r used q.Slots:=hsx;have hcode:q.Code=Ta f r.Keep to pl f.Code.length:=hcode;have hrl:=hr.1.1;have hsl:=hf.slots;intro y hy hop;rw[hcode]at hy;obtain⟨pn,hp⟩:=aAH hy;obtain⟨j,hj,hk,_,rfl⟩:=(WM (f:=f) (keep:=r.Keep) (to:=to) (pl:=pl) _ (by rw[hr.2.1];omega)).2 pn y hp
 have hm:=(hf.at (j:=(j:Int)) (by omega) (by omega)).2
 rw[Akh,Ack]at hop;obtain⟨a0,a1,b0,b1,hsz⟩:=hml _ hm hop;have one:∀ s:Int,s∈OB (NJ f (j:Nat))->0<=rnS to s/\rnS to s<q.Slots.length/\Pj q (rnS to s)=Pj f s:=λs hs=>by
  obtain⟨h0,h1⟩:=Agg hf hd hm hs;have hrn:=Abl hf hd hr.1 hm (rnS r.To s) ((AcL _ _ _).2 ⟨s,hs,rfl⟩);have hmu:rnS r.To s∈used:=(hu.2 _).2 ⟨⟨hrn.1,by omega⟩,j,hj,hk,(AcL _ _ _).2 ⟨s,hs,rfl⟩⟩
  rw[(hr.1.rng h0 h1).2.2]at hmu;have hg:=QJ (to:=to) (s:=s) h0 (by have:=hn.1;omega)
  have e:rnS to s=NZ to s:=by unfold rnS;grind
  have hn2:=hn.2 s.toNat _ hg;rw[aAS h0]at hn2;obtain⟨q0,q1⟩:=hn2 hmu;rw[e];have hlt:=(aAB.1 q1).1;have hql:(NZ to s).toNat<q.Slots.length:=by rw[hsx.len];exact hlt
  have hqs:q.Slots[(NZ to s).toNat]? =some q.Slots[(NZ to s).toNat]:=aAA _;obtain⟨x,l,x1,x2,_,_⟩:=hsx.at_ _ _ _ q1 hqs;refine⟨q0,by omega,?_⟩
  have hsz2:=(hr.1.2 s.toNat (by omega)).2.2.1
  grind [Pj]
 have eA:(mvI pl (rnI to (NJ f (j:Nat)))).A=rnS to (NJ f (j:Nat)).A:=by
  simp_all[mvI,rnI]
 have eB:(mvI pl (rnI to (NJ f (j:Nat)))).B=rnS to (NJ f (j:Nat)).B:=by
  simp_all[mvI,rnI]
 simp_all[OB,Pk]
end Go.Proofs.YtcaoepecbgggcaaGreatDoor
