/-
  Plain laws about the typed programs.
-/
import Derived.Test.YtcaoepecbgggcaaGreatDoorDc
import Derived.Test.YtcaoepecbgggcaaGreatDoorDxP
open BitVec renaming ofInt->aAY
open Bool renaming cond_eq_ite->aAG,not_true->aAT
open Classical renaming byContradiction->aAX
open Int renaming toNat_natCast->aAE,dvd_of_emod_eq_zero->aAR,mul_le_mul_of_nonneg_left->aAS,toNat_of_nonneg->aAd,emod_lt_of_pos->aAf,tmod_eq_emod_of_nonneg->aAh,emod_nonneg->aAk,le_refl->aAl
open Go.IntKind renaming signed->aAn,bits->aAq
open List renaming getElem?_eq_getElem->aAA,mem_of_getElem?->aAB,getElem?_eq_some_iff->aAC,getElem_mem->aAF,getElem?_of_mem->aAH,mem_append->aAK,mem_cons_self->aAL,mem_singleton->aAM,mem_cons_of_mem->aAN,pairwise_cons->aAO,mem_or_eq_of_mem_set->aAP,length_eq_zero_iff->aAQ,drop_eq_getElem_cons->aAU,mem_filter->aAV,getElem?_append_left->aAW,take_succ_eq_append_getElem->aAZ,range_succ->aAa,getElem?_set_ne->aAb,mem_cons->aAg,take_add_one->aAi,getElem?_set_self->aAm,set_getElem_self->aAo,getElem?_eq_none->aAp
open Nat renaming zero_le->aAD,not_lt_zero->aAI,pow_le_pow_right->aAJ,two_pow_pos->aAc,le_refl->aAe
open Option renaming bind_some->aA,bind_eq_some_iff->aAj
namespace Go.Dw
section
variable {ι R α:Type} {body:ι->Option (ι⊕R)} {v:R}
theorem SI {α β:Type} (s:List α) (mk:β->Int->ι) (I:β->Nat->Prop) (F:β->List α->Option R)
  (hnil:∀ acc,I acc s.length->∃ v,body (mk acc s.length)=some (.inr v)/\F acc []=some v)
  (hcons:∀ acc (i:Nat) x r,I acc i->s.drop i=x::r->i<s.length->s[i]? =some x ->
   (∃ acc',I acc' (i+1)/\body (mk acc i)=some (.inl (mk acc' ((i+1:Nat):Int)))/\F acc (x::r)=F acc' r)\/(∃ v,body (mk acc i)=some (.inr v)/\F acc (x::r)=some v))
  (acc:β) (h0:I acc 0):NU body (mk acc 0)=F acc s:=by
 have:∀ k i acc,i+k=s.length->I acc i->NU body (mk acc (i:Nat))=F acc (s.drop i):=by
  intro k
  induction k with
  | zero =>
   intro i acc hi hI;simp only[Nat.add_zero]at hi
   grind [ZS]
  | succ k ih =>
   grind [aAU,ZS]
 have:=this s.length 0 acc (by omega) h0
 simp_all
@[simp] theorem OE (l:List α) (i:Nat):ixO l (i:Int)=l[i]?:=by
 unfold ixO;rw[if_neg (by omega)]
 simp
theorem Qn (l:List α) {i:Int} (h:0<=i):ixO l i=l[i.toNat]?:=by
 simp_all[ixO,if_neg]
@[simp] theorem ABw (l:List α) (i:Nat):ixO l ((i:Int)+1)=l[i+1]?:=by
 have:=OE l (i+1);simpa using this
@[simp] theorem AyD (l:List α):ixO l 0=l[0]?:=Qn l (aAl 0)
theorem wrap64 {n:Int} (h0: -9223372036854775808<=n) (h1:n<=9223372036854775807):IntKind.i64.wrap n=n:=AAm h0 h1
@[simp] theorem ACb:IntKind.i64.wrap 0=0:=by decide
@[simp] theorem ACc:IntKind.i64.wrap 1=1:=by decide
@[simp] theorem ACd:IntKind.i64.wrap 2=2:=by decide
@[simp] theorem ACe:IntKind.i64.wrap 3=3:=by decide
theorem NP {i:Nat} (h:i<9223372036854775807):IntKind.i64.wrap ((i:Int)+1)=((i+1:Nat):Int):=by
 grind [wrap64]
@[simp] theorem ABJ (r:R):(lft (some r):Option (ι⊕R))=some (.inr r):=rfl
@[simp] theorem ABI:(lft none:Option (ι⊕R))=none:=rfl
@[simp] theorem Azz (s:ι):(cnt s:Option (ι⊕R))=some (.inl s):=rfl
theorem AsA (a b:Int):OX a b=max a b:=by grind [OX]
theorem AzO (a b:Int):TH a b=min a b:=by grind [TH]
end
open Go
variable {i:Int}
def Hs {α:Type} (m:Option α) (P:α->Prop):Prop:=∃ r,m=some r/\P r
section
variable {α β ι R:Type}
theorem Hs.pure {a:α} {P:α->Prop} (h:P a):Hs (some a) P:=⟨a,rfl,h⟩
theorem Hs.bind {m:Option α} {f:α->Option β} {P:α->Prop} {Q:β->Prop} (h:Hs m P) (hf:∀ r,P r->Hs (f r) Q):Hs (m.bind f) Q:=by
 obtain⟨r,rfl,hr⟩:=h;simp_all
theorem Hs.mono {m:Option α} {P Q:α->Prop} (h:Hs m P) (hf:∀ r,P r->Q r):Hs m Q:=by
 obtain⟨r,h1,hr⟩:=h;exact⟨r,h1,hf r hr⟩
theorem Hs.chk {p:Prop} [Decidable p] {m:Option α} {P:α->Prop} (hp:p) (h:Hs m P):Hs (chk p m) P:=by
 grind [OO]
theorem Hs.cond {b:Bool} {x y:Option α} {P:α->Prop} (h1:b=true->Hs x P) (h2:b=false->Hs y P):Hs (bif b then x else y) P:=by
 grind
theorem Hs.dec {p:Prop} [Decidable p] {x y:Option α} {P:α->Prop} (h1:p->Hs x P) (h2:¬ p->Hs y P):Hs (bif decide p then x else y) P :=
 Hs.cond (λh=>h1 (of_decide_eq_true h)) (λh=>h2 (of_decide_eq_false h))
theorem Hs.beq {a b:Int} {x y:Option α} {P:α->Prop} (h1:a=b->Hs x P) (h2:a≠b->Hs y P):Hs (bif a==b then x else y) P :=
 Hs.cond (λh=>h1 (by simp_all)) (λh=>h2 (by simp_all))
theorem Hs.bne {a b:Int} {x y:Option α} {P:α->Prop} (h1:a≠b->Hs x P) (h2:a=b->Hs y P):Hs (bif a != b then x else y) P :=
 Hs.cond (λh=>h1 (by simp_all)) (λh=>h2 (by simp_all))
theorem Hs.cnt {s:ι} {P:ι⊕R->Prop} (h:P (.inl s)):Hs (Go.Dw.cnt s) P:=⟨_,rfl,h⟩
theorem Hs.lft {m:Option R} {P:ι⊕R->Prop} (h:Hs m λr=>P (.inr r)):Hs (Go.Dw.lft m) P:=by
 obtain⟨r,rfl,h⟩:=h;exact⟨_,rfl,h⟩
def Rnd (I:ι->Prop) (μ:ι->Nat) (s:ι) (Q:R->Prop):ι⊕R->Prop
 | .inl s'=>I s'/\μ s'<μ s
 | .inr r=>Q r
theorem Hs.loop {body:ι->Option (ι⊕R)} {s:ι} {Q:R->Prop} (I:ι->Prop) (μ:ι->Nat) (h0:I s) (hb:∀ s,I s->Hs (body s) (Rnd I μ s Q)):Hs (NU body s) Q:=by
 refine AwY I Q μ h0 λs hs=>?_
 obtain⟨z,hz,hq⟩:=hb s hs;cases z with
 | inl s'=>exact .inl ⟨s',hz,hq⟩
 | inr r=>exact .inr ⟨r,hz,hq⟩
theorem Hs.get {l:List α} {P:α->Prop} (h0:0<=i) (h1:i<l.length) (h:∀ x,l[i.toNat]? =some x->P x):Hs (l[i.toNat]?) P:=by
 have:l[i.toNat]? =some (l[i.toNat]'(by omega)):=aAA _
 exact⟨_,this,h _ this⟩
theorem Hs.ix {l:List α} {P:α->Prop} (h0:0<=i) (h1:i<l.length) (h:∀ x,l[i.toNat]? =some x->P x):Hs (ixO l i) P:=by
 grind [Qn,Hs.get]
end
theorem Aqh (n:Int):0<=IntKind.u64.wrap n/\IntKind.u64.wrap n<18446744073709551616:=by
 grind [IntKind.wrap,aAn,aAq]
end Go.Dw
namespace Go.Proofs.YtcaoepecbgggcaaGreatDoor
open Go Go.Dw Go.Proofs
attribute [local simp] OO aAG
variable {s l ps:List Int} {i k:Nat} {x:Lo} {c:BR} {f:Mk} {sl:List NQ} {code:List Lo} {most:Int} {g:List (List Int)}
theorem Ass (n:Int):Yg n=some (decide (0<=n/\n<512)):=by
 grind [Yg]
theorem Apr {n:Int} (h:0<=n/\n<512):Yg n=some true:=by grind [Ass]
theorem AwB {n:Int} (h:¬ (0<=n/\n<512)):Yg n=some false:=by grind [Ass]
theorem AiV (s:List Int) (n:Int) (hs:s.length<=9223372036854775807):VV s n=some (decide (n∈s)):=by
 refine SI s (λ(_:Unit) i=>i) (λ_ _=>True) (λ_ l=>some (decide (n∈l))) (λ_ _=>⟨_,by simp[Zu],rfl⟩) (λ_ i x r _ hd hi hx=>?_) () trivial
 have w:=NP (show i<9223372036854775807 by omega)
 by_cases h:x=n
 ·simp_all[Zu]
 ·refine .inl ⟨(),trivial,?_,?_⟩
  ·simp_all[Zu]
  grind
def Wx (n:Int):List Int->List Int
 | []=>[n]
 | x::r=>if x<n then x::Wx n r else if x=n then x::r else n::x::r
theorem AqO (n:Int):∀ s,(Wx n s).length<=s.length+1
 | []=>by simp[Wx]
 | x::r=>by
  have:=AqO n r
  grind [Wx]
def RO (n:Int) (s:List Int):List Int:=if 0<=n/\n<512 then Wx n s else s
theorem add_eq (s:List Int) (n:Int) (hs:s.length<=1000000):UE s n=some (RO n s):=by
 unfold UE RO;rw[Ass];simp only[aA];have key:∀ d:Bool,NU (λs_1:List Int×Bool×Int=>RE s n s_1.1 s_1.2.1 s_1.2.2) ([],d,0)=some (if d then s else Wx n s):=by
  intro d;have:=SI (body:=λs_1:List Int×Bool×Int=>RE s n s_1.1 s_1.2.1 s_1.2.2) s (λ(p:List Int×Bool) i=>(p.1,p.2,i)) (λp i=>p.1.length<=i+(if p.2 then 1 else 0)) (λp l=>some (p.1++(if p.2 then l else Wx n l)))
   (λp hp=>by
    obtain⟨out,done⟩:=p;cases done<;>simp only[if_true,Bool.false_eq_true,if_false]at hp
    ·exact⟨out++[n],by simp[RE,show out.length<=16777215 by omega],by simp[Wx]⟩
    simp_all[RE])
   (λp i x r hp hd hi hx=>by
    obtain⟨out,done⟩:=p;have w:=NP (show i<9223372036854775807 by omega)
    obtain⟨_,rfl⟩:=aAC.1 hx;left;cases done<;>simp only[if_true,Bool.false_eq_true,if_false]at hp
    ·by_cases h1:n<=s[i]
     ·by_cases h2:n<s[i]
      ·refine⟨(out++[n]++[s[i]],true),by simp;omega,?_,?_⟩
       ·simp[RE,UF,Tn,hi,h1,h2,w,show out.length<=16777215 by omega,show out.length<=16777214 by omega]
       grind [Wx]
      ·refine⟨(out++[s[i]],true),by simp;omega,?_,?_⟩
       ·simp[RE,UF,Tn,hi,h1,h2,w,show out.length<=16777215 by omega]
       grind [Wx]
     ·refine⟨(out++[s[i]],false),by simp;omega,?_,?_⟩
      ·simp[RE,UF,Tn,hi,h1,w,show out.length<=16777215 by omega]
      grind [Wx]
    ·refine⟨(out++[s[i]],true),by simp;omega,?_,?_⟩
     ·simp[RE,UF,Tn,hi,w,show out.length<=16777215 by omega]
     ·simp)
   ([],d) (by simp)
  simp_all
 grind
def Wl:Option Int->List Int->Bool
 | _,[]=>true
 | p,x::r=>decide (0<=x/\x<512)&&(match p with|none=>true|some y=>decide (y<x))&&Wl (some x) r
theorem Aug (s:List Int) (hs:s.length<=9223372036854775807):Aes s=some (Wl none s):=by
 refine SI s (λ(_:Option Int) i=>i) (λp i=>match i with|0=>p=none|k+1=>s[k]? =p/\p≠none) (λp l=>some (Wl p l)) (λ_ _=>⟨true,by simp[SK],by simp[Wl]⟩) (λp i x r hp hd hi hx=>?_) none rfl
 obtain⟨_,rfl⟩:=aAC.1 hx
 by_cases hg:0<=s[i]/\s[i]<512
 ·cases i with
  | zero =>
   subst hp;exact .inl ⟨some s[0],⟨hx,by simp⟩,by simp[SK,hi,Apr hg],by grind [Wl]⟩
  | succ k =>
   obtain⟨hp,hpn⟩:=hp;have hk:k<s.length:=by omega
   rw[aAA hk]at hp;subst hp;have w:IntKind.i64.wrap ((k:Int)+1+1)=(k:Int)+1+1:=wrap64 (by omega) (by omega)
   have wp:IntKind.i64.wrap (k:Int)=k:=wrap64 (by omega) (by omega)
   have e0:(k:Int)+1-1=k:=by omega
   by_cases hlt:s[k]<s[k+1]
   ·exact .inl ⟨some s[k+1],⟨hx,by simp⟩,by simp[SK,hi,Apr hg,w,wp,e0,hk,show ¬ s[k+1]<=s[k]by omega,show(0:Int)<k+1 by omega,show(k:Int)+1<s.length by omega],by grind [Wl]⟩
   ·exact .inr ⟨false,by simp[SK,hi,Apr hg,w,wp,e0,hk,show s[k+1]<=s[k]by omega,show(0:Int)<k+1 by omega,show(k:Int)+1<s.length by omega],by grind [Wl]⟩
 ·exact .inr ⟨false,by simp_all[SK,AwB],by grind [Wl]⟩
def OH (s:List Int):Prop:=s.Pairwise (· <·)/\∀ x∈s,0<=x/\x<512
theorem Aua:∀ (p:Option Int) (s:List Int),Wl p s=true↔OH s/\∀ y,p=some y->∀ x∈s,y<x
 | p,[]=>by simp[Wl,OH]
 | p,x::r=>by
  simp only[Wl,Bool.and_eq_true,Aua (some x) r,decide_eq_true_eq,OH,aAO,aAg,forall_eq_or_imp,Option.some.injEq]
  grind
theorem Akg (s:List Int):Wl none s=true↔OH s:=by
 grind [Aua]
theorem OH.length_le (h:OH s):s.length<=512:=by
 have:∀ (s:List Int) (a:Int),s.Pairwise (· <·)->(∀ x∈s,a<=x/\x<512)->a<=512->(s.length:Int)<=512-a:=by
  intro s
  induction s with
  | nil=>simp_all
  | cons x r ih =>
   intro a hp hb ha;rw[aAO]at hp;have hx:=hb x (by simp)
   have:=ih (x+1) hp.2 (λy hy=>⟨by grind,(hb y (by simp[hy])).2⟩) (by omega)
   grind
 have:=this s 0 h.1 h.2 (by omega)
 omega
theorem AhG (n m:Int):∀ s,m∈Wx n s↔m=n\/m∈s
 | []=>by simp[Wx]
 | x::r=>by
  simp only[Wx];split
  ·simp only[aAg,AhG n m r]
   grind
  grind
theorem OH.Wx {n:Int} (h:OH s) (hn:0<=n/\n<512):OH (Proofs.YtcaoepecbgggcaaGreatDoor.Wx n s):=by
 refine⟨?_,λx hx=>?_⟩
 ·replace h:=h.1;clear hn
  induction s<;>grind [Proofs.YtcaoepecbgggcaaGreatDoor.Wx,aAO,AhG]
 ·rw[AhG]at hx;rcases hx with rfl|hx
  ·exact hn
  ·exact h.2 x hx
theorem OH.nil:OH []:=⟨List.Pairwise.nil,λx hx=>by cases hx⟩
theorem ApW (n:Int):PI n=some (decide (0<=n/\n<512)):=by
 grind [PI]
theorem Amu {n:Int} (h:0<=n/\n<512):PI n=some true:=by grind [ApW]
theorem Avi {n:Int} (h:¬ (0<=n/\n<512)):PI n=some false:=by grind [ApW]
theorem AsU (s:List Int) (hs:s.length<=9223372036854775807):Zf s=some (Wl none s):=by
 refine SI s (λ(_:Option Int) i=>i) (λp i=>match i with|0=>p=none|k+1=>s[k]? =p/\p≠none) (λp l=>some (Wl p l)) (λ_ _=>⟨true,by simp[Ro],by simp[Wl]⟩) (λp i x r hp hd hi hx=>?_) none rfl
 obtain⟨_,rfl⟩:=aAC.1 hx
 by_cases hg:0<=s[i]/\s[i]<512
 ·cases i with
  | zero =>
   subst hp;exact .inl ⟨some s[0],⟨hx,by simp⟩,by simp[Ro,hi,Amu hg],by grind [Wl]⟩
  | succ k =>
   obtain⟨hp,hpn⟩:=hp;have hk:k<s.length:=by omega
   rw[aAA hk]at hp;subst hp;have w:IntKind.i64.wrap ((k:Int)+1+1)=(k:Int)+1+1:=wrap64 (by omega) (by omega)
   have wp:IntKind.i64.wrap (k:Int)=k:=wrap64 (by omega) (by omega)
   have e0:(k:Int)+1-1=k:=by omega
   by_cases hlt:s[k]<s[k+1]
   ·exact .inl ⟨some s[k+1],⟨hx,by simp⟩,by simp[Ro,hi,Amu hg,w,wp,e0,hk,show ¬ s[k+1]<=s[k]by omega,show(0:Int)<k+1 by omega,show(k:Int)+1<s.length by omega],by grind [Wl]⟩
   ·exact .inr ⟨false,by simp[Ro,hi,Amu hg,w,wp,e0,hk,show s[k+1]<=s[k]by omega,show(0:Int)<k+1 by omega,show(k:Int)+1<s.length by omega],by grind [Wl]⟩
 ·exact .inr ⟨false,by simp_all[Ro,Avi],by grind [Wl]⟩
theorem AzX (a b:List Int) (h:a.length<=9223372036854775807):AgB a b=some (decide (a=b)):=by
 unfold AgB
 by_cases hl:a.length=b.length
 ·have:=SI (body:=λi:Int=>Vg a b i) a (λ(_:List Int) i=>i) (λacc i=>b.drop i=acc) (λacc l=>some (decide (l=acc)))
   (λacc hacc=>⟨true,by simp[Vg],by simp_all⟩) (λacc i x r hacc hd hi hx=>by
    have w:=NP (show i<9223372036854775807 by omega)
    obtain⟨_,rfl⟩:=aAC.1 hx;have hib:i<b.length:=by omega
    have hdb:=aAU hib
    by_cases e:a[i]=b[i]
    ·exact .inl ⟨b.drop (i+1),rfl,by simp[Vg,hi,hib,e,w],by rw[<- hacc,hdb];simp only[List.cons.injEq,e,true_and]⟩
    ·exact .inr ⟨false,by simp[Vg,hi,hib,e],by rw[<- hacc,hdb];simp only[List.cons.injEq,e,false_and,decide_false]⟩)
   b (by simp)
  simp_all
 ·have:¬ a=b:=λe=>hl (by rw[e])
  grind
theorem AwP (a b:List (List Int)) (h:a.length<=9223372036854775807) (hr:∀ s∈a,s.length<=9223372036854775807):AaI a b=some (decide (a=b)):=by
 unfold AaI
 by_cases hl:a.length=b.length
 ·have:=SI (body:=λi:Int=>SB a b i) a (λ(_:List (List Int)) i=>i) (λacc i=>b.drop i=acc) (λacc l=>some (decide (l=acc)))
   (λacc hacc=>⟨true,by simp[SB],by simp_all⟩) (λacc i x r hacc hd hi hx=>by
    have w:=NP (show i<9223372036854775807 by omega)
    obtain⟨_,rfl⟩:=aAC.1 hx;have hib:i<b.length:=by omega
    have hdb:=aAU hib;have hs:=AzX a[i] b[i] (hr _ (aAF _))
    by_cases e:a[i]=b[i]
    ·refine .inl ⟨b.drop (i+1),rfl,?_,by rw[<- hacc,hdb];simp only[List.cons.injEq,e,true_and]⟩
     rw[decide_eq_true e]at hs;simp[SB,hi,hib,hs,w]
    ·refine .inr ⟨false,?_,by rw[<- hacc,hdb];simp only[List.cons.injEq,e,false_and,decide_false]⟩
     rw[decide_eq_false e]at hs
     simp[SB,hi,hib,hs])
   b (by simp)
  simp_all
 ·have:¬ a=b:=λe=>hl (by rw[e])
  grind
theorem Atk (s:List Int) (n:Int) (hs:s.length<=16777215):Zw s n=some (s.filter (· != n)):=by
 unfold Zw;have:=SI (body:=λp:List Int×Int=>Tp s n p.1 p.2) s (λ(out:List Int) i=>(out,i)) (λout i=>out.length<=i) (λout l=>some (out++l.filter (· != n)))
  (λout _=>⟨out,by simp[Tp],by simp⟩) (λout i x r ho hd hi hx=>by
   have w:=NP (show i<9223372036854775807 by omega)
   obtain⟨_,rfl⟩:=aAC.1 hx;left
   by_cases h:s[i]=n
   ·exact⟨out,by omega,by simp_all[Tp],by simp[h]⟩
   ·exact⟨out++[s[i]],by simp;omega,by simp[Tp,hi,h,w,show out.length<=16777215 by omega],by simp[h]⟩)
  [] (by simp)
 simp_all
def QD (a b:List Int):List Int:=b.foldl (λo x=>RO x o) a
theorem Avl (n:Int) (s:List Int):(RO n s).length<=s.length+1:=by
 grind [RO,AqO]
theorem union_eq (a b:List Int) (h:a.length+b.length<=1000000):Uv a b=some (QD a b):=by
 unfold Uv QD;rw[OO (by simp;omega)]
 have:=SI (body:=λp:List Int×Int=>Wf b p.1 p.2) b (λ(out:List Int) i=>(out,i)) (λout i=>out.length<=a.length+i) (λout l=>some (l.foldl (λo x=>RO x o) out))
  (λout _=>⟨out,by simp[Wf],by simp⟩) (λout i x r ho hd hi hx=>by
   have w:=NP (show i<9223372036854775807 by omega)
   obtain⟨_,rfl⟩:=aAC.1 hx;have hl:=Avl b[i] out;left
   exact⟨RO b[i] out,by omega,by simp[Wf,hi,add_eq out b[i] (by omega),w],by simp⟩)
  a (by simp)
 simp_all
theorem Asp:∀ {a b:List Int},a.Pairwise (· <·)->b.Pairwise (· <·)->(∀ v∈a,v∈b)->a.Sublist b
 | [],_,_,_,_=>List.nil_sublist _
 | x::a,[],_,_,h=>by grind [aAL]
 | x::a,y::b,ha,hb,h=>by
  rw[aAO]at ha hb
  by_cases e:x=y
  ·subst e;refine(Asp ha.2 hb.2 λv hv=>?_).cons_cons x
   grind
  ·have hx:x∈b:=by
    simp_all
   have hyx:=hb.1 x hx;refine(Asp (aAO.2 ha) hb.2 λv hv=>?_).cons y
   grind
theorem OH.sub {a b:List Int} (ha:OH a) (hb:OH b) (h:∀ v∈a,v∈b):a.Sublist b:=Asp ha.1 hb.1 h
theorem OH.ext {a b:List Int} (ha:OH a) (hb:OH b) (h:∀ v,v∈a↔v∈b):a=b :=
 (ha.sub hb λv hv=>(h v).1 hv).eq_of_length_le (hb.sub ha λv hv=>(h v).2 hv).length_le
theorem OH.filter {a:List Int} (ha:OH a) (p:Int->Bool):OH (a.filter p) :=
 ⟨ha.1.sublist List.filter_sublist,λx hx=>ha.2 x ((aAV.1 hx).1)⟩
theorem Ov.AlZ {n m:Int} (h:OH s/\∀ x∈s,x<n) (hm:0<=m/\m<n) (hn:n<=512):OH (RO m s)/\(∀ x∈RO m s,x<n)/\∀ v,v∈RO m s↔v=m\/v∈s:=by
 unfold RO;rw[if_pos (by omega)]
 refine⟨h.1.Wx (by omega),λx hx=>?_,λv=>AhG _ _ _⟩
 grind [AhG]
theorem VQ {n:Int} (hn:n<=512):∀ {b a:List Int},(OH a/\∀ x∈a,x<n)->(∀ x∈b,0<=x/\x<n)->(OH (QD a b)/\∀ x∈QD a b,x<n)/\∀ v,v∈QD a b↔v∈a\/v∈b
 | [],a,ha,_=>⟨ha,λv=>by simp[QD]⟩
 | x::b,a,ha,hb=>by
  obtain⟨h1,h2,h3⟩:=Ov.AlZ ha (hb x (aAL ..)) hn;obtain⟨h4,h5⟩:=VQ hn ⟨h1,h2⟩ λy hy=>hb y (aAN _ hy)
  grind [QD]
def Ul (l:List Int) (p:Int->Prop):Prop:=OH l/\∀ v,v∈l↔(0<=v/\v<512)/\p v
theorem Ul.eq {m:List Int} {p q:Int->Prop} (h:Ul l p) (k:Ul m q) (e:∀ v,0<=v->v<512->(p v↔q v)):l=m :=
 h.1.ext k.1 λv=>by
  rw[h.2,k.2];simp_all
theorem Ul.ArU (h:OH l):Ul l (· ∈l):=⟨h,λv=>⟨λk=>⟨h.2 v k,k⟩,λk=>k.2⟩⟩
theorem Ul.mono {p q:Int->Prop} (h:Ul l p) (e:∀ v,0<=v->v<512->(p v↔q v)):Ul l q :=
 ⟨h.1,λv=>by rw[h.2];simp_all⟩
abbrev BS:=NB
def Ss (t:BS):Prop:=∀ w∈t.toList,WW w
theorem BS.len (t:BS):t.toList.length=8:=rfl
variable {t:BS}
def Zd (t:BS) (i:Nat):Int:=(t.toList[i]?).getD 0
def hasB (t:BS) (v:Int):Bool:=Aji (Zd t (v.toNat / 64)) (v.toNat % 64)
theorem AfN (h:i<8):t.toList[i]? =some (Zd t i):=by
 have:t.toList[i]? =some (t.toList[i]'(show i<8 from h)):=aAA _
 grind [Zd]
theorem Ss.word (h:Ss t) (hi:i<8):WW (Zd t i):=h _ (aAB (AfN hi))
theorem Atp {j:Nat} {w:Int} (hi:i<8):Zd (t.set i w) j=if i=j then w else Zd t j:=by
 unfold Zd;rw[RN,List.getElem?_set]
 by_cases h:i=j
 all_goals simp_all[NB.toList]
theorem Ss.set (h:Ss t) {w:Int} (hw:WW w):Ss (t.set i w):=by
 intro x hx;rw[RN]at hx;rcases aAP hx with h1|rfl
 ·exact h x h1
 ·exact hw
theorem Ss.zero:Ss ⟨0,0,0,0,0,0,0,0⟩:=by
 intro w hw;simp[NB.toList]at hw;exact⟨by omega,by omega⟩
theorem AxA (v:Int):hasB ⟨0,0,0,0,0,0,0,0⟩ v=false:=by
 have:Zd ⟨0,0,0,0,0,0,0,0⟩ (v.toNat / 64)=0:=by
  have hl:∀ i:Nat,(([0,0,0,0,0,0,0,0]:List Int)[i]?).getD 0=0:=by
   grind
  exact hl _
 simp_all[hasB,Aji]
theorem Azq (n:Int):0<=(IntKind.u64.wrap n).tmod 64/\(0<=n->n<512->((IntKind.u64.wrap n).tmod 64).toNat=n.toNat % 64):=by
 obtain⟨h0,h1⟩:=Aqh n;rw[aAh h0];refine⟨by omega,λha hb=>?_⟩
 rw[Ayb ⟨ha,by omega⟩]
 omega
theorem Azp {n:Int} (h0:0<=n) (h1:n<512):IntKind.i64.wrap (n.tdiv 64)=((n.toNat / 64:Nat):Int):=by
 grind [wrap64]
theorem AAt {n:Int} (h0:0<=n) (h1:n<512):IntKind.u64.wrap (1*2 ^ (Nat.min ((IntKind.u64.wrap n).tmod 64).toNat IntKind.u64.bits))=((2 ^ (n.toNat % 64):Nat):Int):=by
 rw[(Azq n).2 h0 h1];have e:Nat.min (n.toNat % 64) IntKind.u64.bits=n.toNat % 64:=Nat.min_eq_left (by show n.toNat % 64<=64;omega)
 rw[e,Int.one_mul];have hp:2 ^ (n.toNat % 64)<18446744073709551616:=by
  have:=Nat.pow_lt_pow_right (a:=2) (by decide) (show n.toNat % 64<64 by omega)
  omega
 grind [Ake]
theorem AuI (j:Nat) (h:j<64):2 ^ j<18446744073709551616:=by
 have:=Nat.pow_lt_pow_right (a:=2) (by decide) h
 omega
theorem AAL {n v:Int} (h0:0<=n) (h0':0<=v) (hne:v≠n) (h:n.toNat / 64=v.toNat / 64):v.toNat % 64≠n.toNat % 64:=by omega
theorem AuK (ht:Ss t) (n:Int) (b:Bool):Hs (RB t n b) λr=>Ss r/\∀ v,0<=v->v<512->hasB r v=if v=n then b else hasB t v:=by
 refine .chk (Azq n).1 ?_;rw[ApW,aA]
 by_cases h:0<=n/\n<512
 ·rw[decide_eq_true h];obtain⟨h0,h1⟩:=h;have hi:n.toNat / 64<8:=by omega
  have hb:=AAt h0 h1;have hw:=ht.word hi;have hp:WW ((2 ^ (n.toNat % 64):Nat):Int):=WW.nat (AuI _ (by omega))
  have fin:∀ (x:Nat),x<18446744073709551616->(∀ j,j<64->x.testBit j=if j=n.toNat % 64 then b else(Zd t (n.toNat / 64)).toNat.testBit j) ->
    Ss (t.set (n.toNat / 64) (x:Int))/\∀ v,0<=v->v<512->hasB (t.set (n.toNat / 64) (x:Int)) v=if v=n then b else hasB t v:=by
   intro x hx hbit;refine⟨ht.set (WW.nat hx),λv hv0 hv1=>?_⟩
   unfold hasB;rw[Atp hi]
   by_cases he:v=n
   ·subst he;rw[if_pos rfl,if_pos rfl];show(x:Int).toNat.testBit _=b;rw[aAE,hbit _ (by omega),if_pos rfl]
   ·rw[if_neg he]
    by_cases hq:n.toNat / 64=v.toNat / 64
    ·rw[if_pos hq];show(x:Int).toNat.testBit _=_;rw[aAE,hbit _ (by omega),if_neg (AAL h0 hv0 he hq),hq]
     rfl
    simp_all
  cases b with
  | true =>
   simp only[aAT,cond_false,cond_true];rw[Azp h0 h1];refine .chk (by omega) ?_
   rw[aAE,AfN hi,aA];refine .chk (by omega) ?_
   rw[aA];refine .pure ?_;rw[hb,AAU hw hp,aAE];refine fin _ (AxE hw.toNat_lt (AuI _ (by omega))) λj hj=>?_
   rw[Nat.testBit_or,Nat.testBit_two_pow]
   grind
  | false =>
   simp only[aAT,cond_false];rw[Azp h0 h1];refine .chk (by omega) ?_
   rw[aAE,AfN hi,aA];refine .chk (by omega) ?_
   rw[aA];refine .pure ?_;rw[hb,AtZ hw hp,aAE];refine fin _ (Aso hw.toNat_lt) λj hj=>?_
   rw[Aup hw.toNat_lt (AuI _ (by omega)),Nat.testBit_two_pow]
   grind
 ·rw[decide_eq_false h];exact .pure ⟨ht,λv h0 h1=>by grind⟩
theorem AnQ (l:List Int) (hl:l.length<=9000000000000000000):Hs (Qm l) λr=>Ss r/\∀ v,0<=v->v<512->hasB r v=decide (v∈l):=by
 refine Hs.loop (λs=>Ss s.1/\∃ k:Nat,s.2=(k:Int)/\k<=l.length/\∀ v,0<=v->v<512->hasB s.1 v=decide (v∈l.take k)) (λs=>l.length-s.2.toNat) ⟨Ss.zero,0,rfl,aAD _,λv _ _=>by simp[AxA]⟩ ?_
 rintro⟨t,k'⟩ ⟨ht,k,hk',hk,hall⟩;subst hk';refine .dec (λhlt=>?_) λhge=>?_
 ·have hlt:k<l.length:=by omega
  refine Hs.bind (P:=λx=>l[k]? =some x) ⟨l[k],by simp[hlt],by simp[hlt]⟩ λx hx=>(AuK ht x true).bind λr hr=>.cnt ?_
  rw[NP (by omega)]
  refine⟨⟨hr.1,k+1,rfl,hlt,λv h0 h1=>?_⟩,by grind⟩
  grind [aAi]
 ·have:k=l.length:=by omega
  subst this;exact .lft (.pure ⟨ht,λv h0 h1=>by simp_all⟩)
theorem OH.snoc (h:OH l) {z:Int} (h0:0<=z/\z<512) (hz:∀ x∈l,x<z):OH (l++[z]):=by
 refine⟨List.pairwise_append.2 ⟨h.1,List.pairwise_singleton _ _,λa ha b hb=>?_⟩,λx hx=>?_⟩
 ·simp_all
 ·simp only[aAK,aAM]at hx;rcases hx with h1|rfl
  ·exact h.2 x h1
  ·exact h0
theorem Age (ht:Ss t):Hs (PX t) λr=>r.2=t/\Ul r.1 (λv=>hasB t v=true):=by
 refine Hs.loop (λs=>∃ i:Nat,s.2=(i:Int)/\i<=8/\Ul s.1 (λv=>v<64*i/\hasB t v=true)) (λs=>8-s.2.toNat) ⟨0,rfl,by omega,⟨OH.nil,λv=>by simp;omega⟩⟩ ?_
 rintro⟨l,i'⟩ ⟨i,hi',hi,hs⟩;subst hi';refine .dec (λhlt=>?_) λhge=>?_
 ·have hlt:i<8:=by omega
  refine .chk (by omega) ?_
  rw[aAE,AfN hlt,aA];have hw:=ht.word hlt;refine Hs.loop (λs=>WW s.2/\∃ c:Nat,c<=64/\Ul s.1 (λv=>v<64*i+c/\hasB t v=true)/\∀ j,j<64->Aji s.2 j=(decide (c<=j)&&Aji (Zd t i) j)) (λs=>s.2.toNat) ⟨hw,0,by omega,by simp_all,λj _=>by simp⟩ ?_
  rintro⟨m,x⟩ ⟨hx,c,hc,hm,hb⟩;simp only at hx hm hb;refine .bne (λhne=>?_) λhe=>?_
  ·have hx0:0<x.toNat:=by have:=hx.1;omega
   obtain⟨k1,k2,k3,k4⟩:=AyJ hx0 hx.toNat_lt;generalize hk:Lib.ctz 64 x.toNat=k at k1 k2 k3 k4;have ek:Ams x=some (k:Int):=by
    unfold Ams;rw[OO (show 0<=x/\x<18446744073709551616 from hx),hk]
   rw[ek,aA];have hck:c<=k:=by
    grind [Aji]
   have hwk:Aji (Zd t i) k=true:=by
    grind [Aji]
   have e1:IntKind.i64.wrap (IntKind.i64.wrap (64*(i:Int))+(k:Int))=((64*i+k:Nat):Int):=by
    grind [wrap64]
   have e2:IntKind.u64.wrap (x-1)=x-1:=Ayb ⟨by omega,by have:=hx.2;omega⟩
   have e3:(x-1).toNat=x.toNat-1:=by omega
   have hz:∀ v∈m,v<((64*i+k:Nat):Int):=λv hv=>by
    have:=((hm.2 v).1 hv).2.1;omega
   have hlen:=hm.1.length_le;refine .chk (by simp;omega) (.cnt ?_)
   rw[e1,e2,ABg hx ⟨by omega,by have:=hx.2;omega⟩,e3]
   refine⟨⟨WW.nat (Aso hx.toNat_lt),k+1,by omega,⟨hm.1.snoc (by omega) hz,λv=>?_⟩,λj hj=>?_⟩,?_⟩
   ·simp only[aAK,aAM,hm.2];constructor
    ·grind [hasB]
    ·rintro⟨a,b,d⟩
     by_cases e:v=((64*i+k:Nat):Int)
     ·exact .inr e
     ·refine .inl ⟨a,?_,d⟩
      grind [Aji,hasB]
   ·simp only;unfold Aji;rw[aAE,k4]
    grind [Aji]
   grind [Nat.and_le_right]
  ·have he:x=0:=he;subst he;refine .lft (.cnt ?_);rw[NP (by omega)]
   refine⟨⟨i+1,rfl,hlt,hm.mono λv h0 h1=>⟨λ⟨a,b⟩=>⟨by omega,b⟩,λ⟨a,b⟩=>⟨?_,b⟩⟩⟩,by grind⟩
   grind [hasB,Aji]
 ·have:i=8:=by omega
  exact .lft (.pure ⟨rfl,hs.mono λv h0 h1=>⟨λh=>h.2,λh=>⟨by omega,h⟩⟩⟩)
theorem Aye {x y:Int} (hx:WW x) (hy:WW y):VZ x y=some ((x.toNat ||| y.toNat:Nat):Int):=by
 grind [VZ,AAU]
theorem AxC {x y:Int} (hx:WW x) (hy:WW y):VY x y=some ((Auo x.toNat y.toNat:Nat):Int):=by
 grind [VY,AtZ]
theorem AvZ {s:BS} (hs:Ss s) (ht:Ss t) (g:Nat->Nat->Nat) (hg:∀ x y,x<18446744073709551616->y<18446744073709551616->g x y<18446744073709551616) (p:Bool->Bool->Bool) (hp:∀ x y j,x<18446744073709551616->y<18446744073709551616->j<64->(g x y).testBit j=p (x.testBit j) (y.testBit j)) {body:BS×Int->Option ((BS×Int)⊕(BS×BS×BS))} (hend:∀ x,body (x,8)=some (.inr (x,s,t))) (hstep:∀ x (i:Nat),i<8->body (x,(i:Int))=some (.inl (x.set i ((g (Zd s i).toNat (Zd t i).toNat:Nat):Int),((i+1:Nat):Int)))) :
  Hs (NU body (⟨0,0,0,0,0,0,0,0⟩,0)) λr=>Ss r.1/\∀ v,0<=v->v<512->hasB r.1 v=p (hasB s v) (hasB t v):=by
 refine Hs.loop (λq=>Ss q.1/\∃ i:Nat,q.2=(i:Int)/\i<=8/\∀ j,j<i->Zd q.1 j=((g (Zd s j).toNat (Zd t j).toNat:Nat):Int)) (λq=>8-q.2.toNat) ⟨Ss.zero,0,rfl,by omega,λj hj=>by omega⟩ ?_
 rintro⟨x,i'⟩ ⟨hx,i,hi',hi,hall⟩;subst hi'
 by_cases hlt:i<8
 ·refine⟨_,hstep x i hlt,⟨hx.set (WW.nat (hg _ _ (hs.word hlt).toNat_lt (ht.word hlt).toNat_lt)),i+1,rfl,hlt,λj hj=>?_⟩,by grind⟩
  simp only;rw[Atp hlt]
  grind
 ·obtain rfl:i=8:=by omega
  refine⟨_,hend x,hx,λv h0 h1=>?_⟩
  have hv:v.toNat / 64<8:=by omega
  unfold hasB;rw[hall _ hv];unfold Aji;rw[aAE,hp _ _ _ (hs.word hv).toNat_lt (ht.word hv).toNat_lt (by omega)]
theorem AtN {s:BS} (hs:Ss s) (ht:Ss t):Hs (QF s t) λr=>Ss r.1/\∀ v,0<=v->v<512->hasB r.1 v=(hasB s v||hasB t v):=by
 refine AvZ hs ht (· ||| ·) (λx y=>AxE) (· ||·) (λx y j _ _ _=>Nat.testBit_or ..) (λx=>by simp[Py]) λx i hi=>?_
 have w:=NP (show i<9223372036854775807 by omega)
 simp[Py,AfN hi,Aye (hs.word hi) (ht.word hi),w,show(i:Int)<8 by omega]
theorem AtM {s:BS} (hs:Ss s) (ht:Ss t):Hs (QE s t) λr=>Ss r.1/\∀ v,0<=v->v<512->hasB r.1 v=(hasB s v&& !hasB t v):=by
 refine AvZ hs ht Auo (λx y hx _=>Aso hx) (λa b=>a&& !b) (λx y j hx hy _=>Aup hx hy) (λx=>by simp[Px]) λx i hi=>?_
 have w:=NP (show i<9223372036854775807 by omega)
 simp[Px,AfN hi,AxC (hs.word hi) (ht.word hi),w,show(i:Int)<8 by omega]
theorem Auc (l:List Int) (hl:l.length<=9000000000000000000):Hs (ZM l) λr=>Ul r (· ∈l):=by
 exact(AnQ l hl).bind λr hr=>(Age hr.1).bind λq hq=>.pure (hq.2.mono λv h0 h1=>by simp_all)
theorem Aue (l:List Int) (n:Int) (hl:l.length<=9000000000000000000):Hs (Vd l n) λr=>Ul r (λv=>v∈l/\v≠n):=by
 unfold Vd;refine(AnQ l hl).bind λr hr=>(AuK hr.1 n false).bind λu hu=>(Age hu.1).bind λq hq=>.pure (hq.2.mono λv h0 h1=>?_)
 grind
theorem Avq (a b:List Int) (ha:a.length<=9000000000000000000) (hb:b.length<=9000000000000000000):Hs (Ta a b) λr=>Ul r (λv=>v∈a\/v∈b):=by
 unfold Ta;refine(AnQ a ha).bind λr hr=>(AnQ b hb).bind λu hu=>(AtN hr.1 hu.1).bind λx hx=>(Age hx.1).bind λq hq=>.pure (hq.2.mono λv h0 h1=>?_)
 simp_all
theorem Avp (a b:List Int) (ha:a.length<=9000000000000000000) (hb:b.length<=9000000000000000000):Hs (Wm a b) λr=>Ul r (λv=>v∈a/\v∉b):=by
 unfold Wm;refine(AnQ a ha).bind λr hr=>(AnQ b hb).bind λu hu=>(AtM hr.1 hu.1).bind λx hx=>(Age hx.1).bind λq hq=>.pure (hq.2.mono λv h0 h1=>?_)
 simp_all
theorem Aud (hs:OH s) (n:Int):Vd s n=some (s.filter (· != n)):=by
 obtain⟨r,h1,h2⟩:=Aue s n (by have:=hs.length_le;omega)
 rw[h1,h2.eq (Ul.ArU (hs.filter (· != n))) λv _ _=>by simp_all]
theorem Amd {a b:List Int} (ha:OH a) (hb:∀ x∈b,0<=x/\x<512) (hl:b.length<=1000):Ta a b=some (QD a b):=by
 obtain⟨r,h1,h2⟩:=Avq a b (by have:=ha.length_le;omega) (by omega)
 obtain⟨h3,h4⟩:=VQ (n:=512) (by omega) (b:=b) ⟨ha,λx hx=>(ha.2 x hx).2⟩ hb
 rw[h1,h2.eq (Ul.ArU h3.1) λv _ _=>by rw[h4]]
theorem Ayq {b:List Int} (hb:∀ x∈b,0<=x/\x<512) (hl:b.length<=1000):ZM b=some (QD [] b):=by
 obtain⟨r,h1,h2⟩:=Auc b (by omega)
 obtain⟨h3,h4⟩:=VQ (n:=512) (by omega) (b:=b) ⟨OH.nil,λx hx=>by cases hx⟩ hb
 rw[h1,h2.eq (Ul.ArU h3.1) λv _ _=>by simp_all]
def okC (c:BR):Prop:=0<=c.at_/\c.at_<=c.list.length/\c.list.length<=1000/\∀ v∈c.list,0<=v/\v<=255
theorem AAS (l:List Int) (n:Int) (hl:qL (OZ .u8) l) (h0:0<=n) (h1:n<=1000):∃ c,Aku l n=some c/\okC c:=by
 unfold Aku;have e:TH (l.length:Int) n=min (l.length:Int) n:=AzO _ _;refine⟨_,by rw[OO (by omega)],by simp,?_,?_,?_⟩
 ·simp
 ·grind
 ·intro v hv;have:=hl.2 v (List.mem_of_mem_take hv)
  grind [OZ,IntKind.min,IntKind.max,aAn,aAq]
theorem AzQ (c:BR) (h:okC c) (n:Int) (h1:n<=1099511627776):∃ r c',NL c n=some (r,c')/\okC c'/\0<=r/\(r<n\/r=0):=by
 obtain⟨ha,hb,hc,hd⟩:=h;unfold NL Abl
 by_cases hl:c.at_<c.list.length
 ·by_cases hn:n<1
  ·exact⟨0,c,by simp_all,⟨ha,hb,hc,hd⟩,by omega,.inr rfl⟩
  ·have hx:c.list[c.at_.toNat]? =some (c.list[c.at_.toNat]'(by omega)):=aAA _
   have hv:=hd _ (aAF (show c.at_.toNat<c.list.length by omega))
   generalize hq:c.list[c.at_.toNat]'(by omega)=v at hx hv
   have e1:IntKind.i64.wrap v=v:=wrap64 (by omega) (by omega)
   have hm0:0<=v*n:=Int.mul_nonneg hv.1 (by omega)
   have hm1:v*n<=255*n:=Int.mul_le_mul_of_nonneg_right hv.2 (by omega)
   have e2:IntKind.i64.wrap (v*n)=v*n:=wrap64 (by omega) (by omega)
   have e3:(v*n).tdiv 256=v*n / 256:=Int.tdiv_eq_ediv_of_nonneg hm0;have e4:IntKind.i64.wrap (v*n / 256)=v*n / 256:=wrap64 (by omega) (by omega)
   have e5:IntKind.i64.wrap (c.at_+1)=c.at_+1:=wrap64 (by omega) (by omega)
   refine⟨v*n / 256,⟨c.list,c.at_+1⟩,?_,⟨by grind,by grind,hc,hd⟩,by omega,.inl (by omega)⟩
   grind [XG,Qn]
 ·exact⟨0,c,by simp[hl],⟨ha,hb,hc,hd⟩,by omega,.inr rfl⟩
theorem AzP (h:okC c) {n:Int} (h1:n<=1099511627776):Hs (NL c n) λp=>okC p.2/\0<=p.1/\(p.1<n\/p.1=0):=by
 obtain⟨r,c',e,h2,h3,h4⟩:=AzQ c h n h1;exact⟨(r,c'),e,h2,h3,h4⟩
theorem Od (h:okC c) {n:Int} (h0:1<=n) (h1:n<=1099511627776):Hs (NL c n) λp=>okC p.2/\0<=p.1/\p.1<n :=
 (AzP h h1).mono λr hr=>⟨hr.1,hr.2.1,by omega⟩
def AdU (s:NQ):Prop:=s.Size∈([8,4,8,1,2,16,8]:List Int)/\s.Align∈([8,4,1,8,16,2,32,64]:List Int)
def W64 (w:Int):Prop:=0<=w/\w<18446744073709551616
def Reg (a:Int):Prop:=0<=a/\a<4
theorem AzZ (h:okC c):Hs (Abm c) λp=>okC p.2/\AdU p.1:=by
 refine(Od h (by omega) (by omega)).bind λr hr=>.chk (by simp;omega) ?_
 refine(Hs.get hr.2.1 (by simp;omega) λx hx=>aAB hx).bind λx hx=>?_
 refine(Od hr.1 (by omega) (by omega)).bind λr' hr'=>.chk (by simp;omega) ?_
 refine(Hs.get hr'.2.1 (by simp;omega) λx hx=>aAB hx).bind λy hy=>?_
 exact .pure ⟨hr'.1,hx,hy⟩
theorem Aza (h:okC c) {m:Int} (hm:0<=m) (hm':m<=1000):Hs (Wp c m) λp=>okC p.2/\(p.1.length:Int)<=m/\∀ s∈p.1,AdU s:=by
 unfold Wp;have w:IntKind.i64.wrap (m+1)=m+1:=wrap64 (by omega) (by omega)
 refine(Od h (by omega) (by omega)).bind λr hr=>?_
 refine Hs.loop (λs=>okC ⟨s.1,s.2.1⟩/\(s.2.2.1.length:Int)+s.2.2.2<=m/\(∀ x∈s.2.2.1,AdU x)/\0<=s.2.2.2) (λs=>s.2.2.2.toNat) ⟨hr.1,by simp;omega,by simp,hr.2.1⟩ ?_
 rintro⟨l,a,sl,n⟩ ⟨hc,hl,hs,hn⟩;simp only at hc hl hs hn;refine .dec (λhlt=>?_) λhlt=>?_
 ·have hlt:0<n:=hlt;have w:IntKind.i64.wrap (n-1)=n-1:=wrap64 (by omega) (by omega)
  refine(AzZ hc).bind λx hx=>.chk (by simp;omega) (.cnt ⟨⟨hx.1,?_,?_,?_⟩,?_⟩)
  all_goals grind
 ·exact .lft (.pure ⟨hc,by grind,hs⟩)
theorem Awa (h:okC c):Hs (XI c) λp=>okC p.2/\W64 p.1:=by
 refine(Od h (by omega) (by omega)).bind λr hr=>.beq (λ_=>?_) λ_=>.beq (λ_=>?_) λ_=>.beq (λ_=>?_) λ_=>?_
 ·exact(Od hr.1 (by omega) (by omega)).bind λr' hr'=>.pure ⟨hr'.1,Aqh _⟩
 ·exact(Od hr.1 (by omega) (by omega)).bind λr' hr'=>.chk hr'.2.1 (.pure ⟨hr'.1,Aqh _⟩)
 ·exact .pure ⟨hr.1,by grind [W64]⟩
 ·exact(Od hr.1 (by omega) (by omega)).bind λr' hr'=>.pure ⟨hr'.1,Aqh _⟩
def AtW (sl:List NQ) (a b:Int):Prop:=0<=a/\a<sl.length/\∃ x y,sl[a.toNat]? =some x/\sl[b.toNat]? =some y/\x.Size=y.Size
theorem AvO (h:okC c) {s:Int} (h0:0<=s) (h1:s<f.Slots.length) (hl:f.Slots.length<=1000):Hs (XL c f s) λp=>okC p.2/\AtW f.Slots p.1 s:=by
 refine Hs.loop (λst=>0<=st.2/\st.2<=f.Slots.length/\(st.1.length:Int)<=st.2/\(∀ v∈st.1,AtW f.Slots v s)/\(s<st.2->0<st.1.length)) (λst=>f.Slots.length-st.2.toNat) ⟨by simp,by simp,by simp,by simp,λh=>by omega⟩ ?_
 rintro⟨l,k⟩ ⟨hk0,hk1,hll,hv,hne⟩;simp only at hk0 hk1 hll hv hne;refine .dec (λhlt=>?_) λhlt=>.lft ?_
 ·have w:IntKind.i64.wrap (k+1)=k+1:=wrap64 (by omega) (by omega)
  refine(Hs.ix hk0 hlt λx hx=>hx).bind λx hx=>(Hs.ix h0 h1 λx hx=>hx).bind λy hy=>.beq (λhe=>?_) λhe=>?_
  ·refine .chk (by simp;omega) (.cnt ⟨⟨by grind,by grind,by simp_all,?_,by simp⟩,by grind⟩)
   intro v hv';rcases aAK.1 hv' with h2|h2
   ·simp_all
   ·rw[aAM]at h2;subst h2;exact⟨hk0,hlt,x,y,hx,hy,he⟩
  ·refine .cnt ⟨⟨by grind,by grind,by grind,hv,λh3=>?_⟩,by grind⟩
   grind
 ·refine(Od h (n:=(l.length:Int)) (by omega) (by omega)).bind λr hr=>.chk ⟨hr.2.1,hr.2.2⟩ ?_
  exact(Hs.get hr.2.1 hr.2.2 λx hx=>hv x (aAB hx)).bind λx hx=>.pure ⟨hr.1,hx⟩
inductive PM (sl:List NQ) (np i:Int) (ps:List Int) (T:Int->Prop):Lo->Prop
 | store (a b:Int):0<=a->a<sl.length->Reg b->PM sl np i ps T ⟨16,a,b,0,0⟩
 | load (a b:Int):Reg a->0<=b->b<sl.length->PM sl np i ps T ⟨15,a,b,0,0⟩
 | move (a b:Int):AtW sl a b->0<=b->b<sl.length->PM sl np i ps T ⟨17,a,b,0,0⟩
 | const (a w:Int):Reg a->W64 w->PM sl np i ps T ⟨0,a,0,0,w⟩
 | bin (op a b c:Int):2<=op->op<12->Reg a->Reg b->0<=c->c<8->PM sl np i ps T ⟨op,a,b,c,0⟩
 | out (a:Int):Reg a->PM sl np i ps T ⟨14,a,0,0,0⟩
 | un (op a:Int):(op=13\/op=12\/op=1)->Reg a->PM sl np i ps T ⟨op,a,0,0,0⟩
 | param (a b:Int):Reg a->0<=b->b<np->PM sl np i ps T ⟨19,a,b,0,0⟩
 | arg (a b:Int):0<=a->a<4->Reg b->PM sl np i ps T ⟨18,a,b,0,0⟩
 | call (j:Int):i<j->j<ps.length->PM sl np i ps T ⟨22,j,0,0,0⟩
 | jump (t:Int):T t->PM sl np i ps T ⟨20,t,0,0,0⟩
 | branch (a t:Int):Reg a->T t->PM sl np i ps T ⟨21,a,t,0,0⟩
def ApY (ps:List Int):Prop:=(∀ v∈ps,0<=v/\v<4)/\ps.length<=1000
theorem Azw (h:okC c) {i:Int} (T:Int->Prop) (hf:f.Slots.length<=1000) (hp:f.Params<4) (hi:0<=i) (hi':i<ps.length) (hps:ApY ps) :
  Hs (XJ c f i ps) λp=>okC p.2/\p.1.length<=4/\∀ x∈p.1,PM f.Slots f.Params i ps T x:=by
 unfold XJ;refine(Od h (by omega) (by omega)).bind λr hr=>(Od hr.1 (by omega) (by omega)).bind λk hk=>?_
 have hreg:Reg r.1:=hr.2;have one:∀ {x:Lo} {c':BR},okC c'->PM f.Slots f.Params i ps T x->Hs (some (([x]:List Lo),c')) λp=>okC p.2/\p.1.length<=4/\∀ x∈p.1,PM f.Slots f.Params i ps T x:=λhc hx=>.pure ⟨hc,by simp,by simp_all⟩
 have j6:∀ b,(b=true->i+1<ps.length)->Hs (UC k ps i r b) λp=>okC p.2/\p.1.length<=4/\∀ x∈p.1,PM f.Slots f.Params i ps T x:=by
  intro b hb;refine .cond (λhb'=>?_) λ_=>one hk.1 (.out _ hreg)
  have hil:=hb hb';have hlen:=hps.2;have w1:IntKind.i64.wrap ((ps.length:Int)-i)=(ps.length:Int)-i:=wrap64 (by omega) (by omega)
  have w2:IntKind.i64.wrap ((ps.length:Int)-i-1)=(ps.length:Int)-i-1:=wrap64 (by omega) (by omega)
  have w3:IntKind.i64.wrap (i+1)=i+1:=wrap64 (by omega) (by omega)
  rw[w1,w2];refine(Od hk.1 (by omega) (by omega)).bind λq hq=>?_
  have w4:IntKind.i64.wrap (i+1+q.1)=i+1+q.1:=wrap64 (by omega) (by omega)
  refine Hs.loop (λs=>okC ⟨s.1,s.2.1⟩/\(s.2.2.1.length:Int)<=s.2.2.2/\0<=s.2.2.2/\s.2.2.2<=3/\∀ x∈s.2.2.1,PM f.Slots f.Params i ps T x) (λs=>(3-s.2.2.2).toNat) ⟨hq.1,by simp,by simp,by simp,by simp⟩ ?_
  rintro⟨l,a,out,n⟩ ⟨hc,ho,hn0,hn3,hall⟩;simp only at hc ho hn0 hn3 hall;unfold XK;simp only[w3,w4];refine(Hs.ix (by omega) (by omega) λx hx=>hps.1 x (aAB hx)).bind λx hx=>.dec (λhlt=>?_) λhlt=>.lft ?_
  ·have w5:IntKind.i64.wrap (n+1)=n+1:=wrap64 (by omega) (by omega)
   refine(Od hc (by omega) (by omega)).bind λu hu=>.dec (λ_=>?_) λ_=>?_
   ·refine(Od hu.1 (by omega) (by omega)).bind λv hv=>.chk (by simp;omega) (.cnt ⟨⟨hv.1,by simp_all,by grind,by grind,?_⟩,by grind⟩)
    intro y hy;rcases aAK.1 hy with h2|h2
    ·simp_all
    ·rw[aAM]at h2;subst h2;exact .arg _ _ hn0 (by omega) hv.2
   ·exact .cnt ⟨⟨hu.1,by grind,by grind,by grind,hall⟩,by grind⟩
  ·refine .chk (by simp;omega) (.pure ⟨hc,by grind,?_⟩)
   intro y hy;rcases aAK.1 hy with h2|h2
   ·simp_all
   ·rw[aAM]at h2;subst h2;exact .call _ (by omega) (by omega)
 have j5:∀ b,(b=true->0<f.Params)->Hs (UB k f r ps i b) λp=>okC p.2/\p.1.length<=4/\∀ x∈p.1,PM f.Slots f.Params i ps T x:=by
  intro b hb;refine .cond (λhb'=>?_) λ_=>.dec (λ_=>j6 _ λhd=>?_) λ_=>j6 _ λhd=>(by cases hd)
  ·have:=hb hb';exact(Od hk.1 (by omega) (by omega)).bind λu hu=>one hu.1 (.param _ _ hreg hu.2.1 hu.2.2)
  ·have hlen:=hps.2;have:=of_decide_eq_true hd
   grind [wrap64]
 have j4:∀ b,(b=true->0<f.Slots.length)->Hs (UA k f r ps i b) λp=>okC p.2/\p.1.length<=4/\∀ x∈p.1,PM f.Slots f.Params i ps T x:=by
  intro b hb;refine .cond (λhb'=>?_) λ_=>.dec (λ_=>?_) λ_=>.dec (λ_=>?_) λ_=>.dec (λ_=>one hk.1 (.out _ hreg)) λ_=>.beq (λ_=>?_) λ_=>.beq (λ_=>j5 _ λhd=>of_decide_eq_true hd) λ_=>j5 _ λhd=>(by cases hd)
  ·have:=hb hb';exact(Od hk.1 (by omega) (by omega)).bind λu hu=>(AvO hu.1 hu.2.1 hu.2.2 hf).bind λv hv=>one hv.1 (.move _ _ hv.2 hu.2.1 hu.2.2)
  ·exact(Awa hk.1).bind λu hu=>one hu.1 (.const _ _ hreg hu.2)
  ·refine(Od hk.1 (by omega) (by omega)).bind λu hu=>(Od hu.1 (by omega) (by omega)).bind λv hv=>(Od hv.1 (by omega) (by omega)).bind λz hz=>one hz.1 ?_
   rw[wrap64 (by omega) (by omega)]
   exact .bin _ _ _ _ (by omega) (by omega) hreg hv.2 hz.2.1 hz.2.2
  ·refine(Od hk.1 (by omega) (by omega)).bind λu hu=>.chk (by simp;omega) ?_
   refine(Hs.get hu.2.1 (by simp;omega) λx hx=>aAB hx).bind λx hx=>one hu.1 (.un _ _ (by simp_all) hreg)
 have j3:∀ b,(b=true->0<f.Slots.length)->Hs (Uz k f r ps i b) λp=>okC p.2/\p.1.length<=4/\∀ x∈p.1,PM f.Slots f.Params i ps T x:=by
  intro b hb;refine .cond (λhb'=>?_) λ_=>.dec (λ_=>j4 _ λhd=>by simp_all) λ_=>j4 _ λhd=>(by cases hd)
  have:=hb hb';exact(Od hk.1 (by omega) (by omega)).bind λu hu=>one hu.1 (.load _ _ hreg hu.2.1 hu.2.2)
 have j2:∀ b,(b=true->0<f.Slots.length)->Hs (Uy k f r ps i b) λp=>okC p.2/\p.1.length<=4/\∀ x∈p.1,PM f.Slots f.Params i ps T x:=by
  intro b hb;refine .cond (λhb'=>?_) λ_=>.dec (λ_=>j3 _ λhd=>by simp_all) λ_=>j3 _ λhd=>(by cases hd)
  have:=hb hb';exact(Od hk.1 (by omega) (by omega)).bind λu hu=>one hu.1 (.store _ _ hu.2.1 hu.2.2 hreg)
 grind
theorem PM.mono {np i:Int} {T T':Int->Prop} (h:PM sl np i ps T x) (hT:∀ t,T t->T' t):PM sl np i ps T' x:=by
 cases h with
 | store a b h1 h2 h3=>exact .store a b h1 h2 h3
 | load a b h1 h2 h3=>exact .load a b h1 h2 h3
 | move a b h1 h2 h3=>exact .move a b h1 h2 h3
 | const a w h1 h2=>exact .const a w h1 h2
 | bin op a b c h1 h2 h3 h4 h5 h6=>exact .bin op a b c h1 h2 h3 h4 h5 h6
 | out a h1=>exact .out a h1
 | un op a h1 h2=>exact .un op a h1 h2
 | param a b h1 h2 h3=>exact .param a b h1 h2 h3
 | arg a b h1 h2 h3=>exact .arg a b h1 h2 h3
 | call j h1 h2=>exact .call j h1 h2
 | jump t h1=>exact .jump t (hT t h1)
 | branch a t h1 h2=>exact .branch a t h1 (hT t h2)
def AjR (x:Lo):Prop:=x=⟨23,0,0,0,0⟩\/∃ w,W64 w/\x=⟨24,0,0,0,w⟩
def AhB (x:Lo) (t:Int):Lo :=
 if x.Op=20/\x.A<0 then⟨x.Op,t,x.B,x.C,x.Imm⟩else if x.Op=21/\x.B<0 then⟨x.Op,x.A,t,x.C,x.Imm⟩else x
theorem AjR.fix (h:AjR x) (t:Int):AhB x t=x:=by
 rcases h with rfl|⟨w,_,rfl⟩<;>simp[AhB]
theorem PM.fix {np i:Int} {T:Int->Prop} (h:PM sl np i ps (· = -1) x) {t:Int} (ht:T t):PM sl np i ps T (AhB x t):=by
 cases h with
 | store a b h1 h2 h3=>exact .store a b h1 h2 h3
 | load a b h1 h2 h3=>exact .load a b h1 h2 h3
 | move a b h1 h2 h3=>exact .move a b h1 h2 h3
 | const a w h1 h2=>exact .const a w h1 h2
 | bin op a b c h1 h2 h3 h4 h5 h6 =>
  have:AhB ⟨op,a,b,c,0⟩ t=⟨op,a,b,c,0⟩:=by grind [AhB]
  rw[this];exact .bin op a b c h1 h2 h3 h4 h5 h6
 | out a h1=>exact .out a h1
 | un op a h1 h2 =>
  have:AhB ⟨op,a,0,0,0⟩ t=⟨op,a,0,0,0⟩:=by grind [AhB]
  rw[this];exact .un op a h1 h2
 | param a b h1 h2 h3=>exact .param a b h1 h2 h3
 | arg a b h1 h2 h3=>exact .arg a b h1 h2 h3
 | call j h1 h2=>exact .call j h1 h2
 | jump q h1=>subst h1;exact .jump t ht
 | branch a q h1 h2=>subst h2;exact .branch a t h1 ht
theorem ABh (h:code[k]? =some x) (r:Int×BR) (t:Int):PO (k:Int) code r t=some (.inl (r.2.list,r.2.at_,code.set k (AhB x t),IntKind.i64.wrap ((k:Int)+1))):=by
 obtain⟨hl,hx⟩:=aAC.1 h;have hset:code.set k x=code:=by grind [aAo]
 obtain⟨op,a,b,c,w⟩:=x;unfold PO Sn
 by_cases h20:op=20
 ·subst h20
  by_cases ha:a<0
  ·simp_all[OO,AhB]
  ·simp[OO,hl,hx,AhB,ha,hset]
 ·by_cases h21:op=21
  ·subst h21
   by_cases hb:b<0
   ·simp_all[OO,AhB]
   ·simp[OO,hl,hx,AhB,hb,hset]
  ·have e20:(op==20)=false:=by simp_all
   have e21:(op==21)=false:=by simp_all
   simp[OO,hl,hx,AhB,h20,h21,hset]
structure Si (ps:List Int) (i most:Int) (f:Mk):Prop where
 par:ps[i.toNat]? =some f.Params
 slots:f.Slots.length<=6
 slot:∀ s∈f.Slots,AdU s
 len:1<=f.Code.length
 len':(f.Code.length:Int)<=7+5*most
 body:∀ (k:Nat) x,f.Code[k]? =some x->k+1<f.Code.length->PM f.Slots f.Params i ps (λt=>0<=t/\t<f.Code.length) x
 last:∀ x,f.Code[f.Code.length-1]? =some x->AjR x
theorem AAK {a:Int} (h:okC ⟨l,a⟩) {np i:Int} (hpar:ps[i.toNat]? =some np) (hsl:sl.length<=6) (hsl':∀ s∈sl,AdU s) (hlen:1<=code.length) (hlen':(code.length:Int)<=7+5*most) (hm:most<=1000) (hb:∀ (k:Nat) x,code[k]? =some x->k+1<code.length->PM sl np i ps (· = -1) x) (he:∀ x,code[code.length-1]? =some x->AjR x) :
  Hs (NU (λs:List Int×Int×List Lo×Int=>Ur np sl s.1 s.2.1 s.2.2.1 s.2.2.2) (l,a,code,0)) λp=>okC p.2/\Si ps i most p.1:=by
 refine Hs.loop (λs=>okC ⟨s.1,s.2.1⟩/\s.2.2.1.length=code.length/\∃ k:Nat,s.2.2.2=(k:Int)/\k<=code.length/\(∀ x,s.2.2.1[code.length-1]? =some x->AjR x) /\
  ∀ (j:Nat) x,s.2.2.1[j]? =some x->j+1<code.length->PM sl np i ps (λt=>if j<k then 0<=t/\t<code.length else t= -1) x) (λs=>code.length-s.2.2.2.toNat) ⟨h,rfl,0,rfl,aAD _,he,λj x hj hj'=>(hb j x hj hj').mono λt ht=>by simp_all⟩ ?_
 rintro⟨l,a,code',k⟩ ⟨hc,hl,k,rfl,hk,he',hall⟩;simp only at hc hl he' hall;refine .dec (λhlt=>?_) λhlt=>?_
 ·have hlt:k<code.length:=by simp_all
  have w:=NP (show k<9223372036854775807 by omega)
  have hx:code'[k]? =some (code'[k]'(by omega)):=aAA _
  generalize code'[k]'(by omega)=x at hx
  have step:∀ (r:Int×BR) (t:Int),okC r.2->0<=t->t<code.length->Hs (PO (k:Int) code' r t) (Rnd (λs:List Int×Int×List Lo×Int=>okC ⟨s.1,s.2.1⟩/\s.2.2.1.length=code.length/\∃ k:Nat,s.2.2.2=(k:Int)/\k<=code.length/\(∀ x,s.2.2.1[code.length-1]? =some x->AjR x) /\
    ∀ (j:Nat) x,s.2.2.1[j]? =some x->j+1<code.length->PM sl np i ps (λt=>if j<k then 0<=t/\t<code.length else t= -1) x) (λs=>code.length-s.2.2.2.toNat) (l,a,code',(k:Int)) (λp:Mk×BR=>okC p.2/\Si ps i most p.1)):=by
   intro r t hr ht0 ht1;rw[ABh hx];refine .pure ⟨⟨hr,by simp[hl],k+1,w,hlt,?_,?_⟩,by grind⟩
   ·intro y hy;simp only at hy
    by_cases e:k=code.length-1
    ·rw[<- e,aAm (by omega)]at hy
     obtain rfl:=Option.some.inj hy;have hex:=he' x (by simp_all)
     rw[hex.fix];exact hex
    simp_all
   ·intro j y hy hj;simp only at hy
    by_cases e:k=j
    ·subst e;rw[aAm (by omega)]at hy
     obtain rfl:=Option.some.inj hy;exact((hall k x hx hj).mono λt ht=>by simp_all).fix (by simp_all)
    grind
  refine(Od hc (by omega) (by omega)).bind λr hr=>?_
  have w1:IntKind.i64.wrap ((k:Int)+r.1)=(k:Int)+r.1:=wrap64 (by omega) (by omega)
  grind [wrap64]
 ·have hlt:¬ k<code'.length:=λh=>hlt (Int.ofNat_lt.2 h)
  have hkl:k=code.length:=by omega
  refine .lft (.pure ⟨hc,hpar,hsl,hsl',by simp_all,by simp_all,?_,?_⟩)
  all_goals grind
theorem Azm {a:Int} (h:okC ⟨l,a⟩) {np i:Int} (hpar:ps[i.toNat]? =some np) (hsl:sl.length<=6) (hsl':∀ s∈sl,AdU s) (hlen:(code.length:Int)<=6+5*most) (hm:most<=1000) (hb:∀ x∈code,PM sl np i ps (· = -1) x) {e1 e2:Int} (he:AjR ⟨e1,0,0,0,e2⟩) :
  Hs (QY code np sl l a e1 e2) λp=>okC p.2/\Si ps i most p.1:=by
 unfold QY;refine .chk (by simp;omega) (AAK h hpar hsl hsl' (by simp) (by simp;omega) hm ?_ ?_)
 all_goals grind
theorem Avv (h:okC c) {i:Int} (hi:0<=i) (hi':i<ps.length) (hps:ApY ps) (hm0:0<=most) (hm:most<=1000) :
  Hs (WO c i ps most) λp=>okC p.2/\Si ps i most p.1:=by
 refine(Hs.ix hi hi' λx hx=>hx).bind λnp hnp=>(Aza h (by omega) (by omega)).bind λsl hsl=>?_
 obtain⟨hc0,hsl1,hsl2⟩:=hsl;have hnp4:=hps.1 np (aAB hnp);refine Hs.loop (λs=>okC ⟨s.1,s.2.1⟩/\0<=s.2.2.2/\s.2.2.2<=sl.1.length/\(s.2.2.1.length:Int)<=s.2.2.2/\∀ x∈s.2.2.1,PM sl.1 np i ps (· = -1) x) (λs=>sl.1.length-s.2.2.2.toNat) ⟨hc0,by simp,by simp,by simp,by simp⟩ ?_
 rintro⟨l,a,code,s⟩ ⟨hc,hs0,hs1,hcl,hall⟩;simp only at hc hs0 hs1 hcl hall;refine .dec (λhlt=>?_) λhlt=>?_
 ·have hlt:s<sl.1.length:=hlt;have w:IntKind.i64.wrap (s+1)=s+1:=wrap64 (by omega) (by omega)
  refine(Od hc (by omega) (by omega)).bind λr hr=>.dec (λ_=>?_) λ_=>?_
  ·refine(Od hr.1 (by omega) (by omega)).bind λq hq=>.chk (by simp;omega) (.cnt ⟨⟨hq.1,by grind,by grind,by simp_all,?_⟩,by grind⟩)
   intro y hy;rcases aAK.1 hy with h2|h2
   ·simp_all
   ·rw[aAM]at h2;subst h2;exact .store _ _ hs0 hlt hq.2
  ·exact .cnt ⟨⟨hr.1,by grind,by grind,by grind,hall⟩,by grind⟩
 ·have w:IntKind.i64.wrap (most+1)=most+1:=wrap64 (by omega) (by omega)
  refine .lft ((Od hc (by omega) (by omega)).bind λr hr=>?_)
  refine Hs.loop (λs=>okC ⟨s.1,s.2.1⟩/\s.2.2.2.1=sl.1/\0<=s.2.2.2.2/\s.2.2.2.2<=most/\(s.2.2.1.length:Int)<=6+5*(most-s.2.2.2.2)/\∀ x∈s.2.2.1,PM sl.1 np i ps (· = -1) x) (λs=>s.2.2.2.2.toNat) ⟨hr.1,rfl,hr.2.1,by grind,by grind,hall⟩ ?_
  rintro⟨l,a,code,sl',n⟩ ⟨hc,rfl,hn0,hn1,hcl,hall⟩;simp only at hc hn0 hn1 hcl hall;refine .dec (λhlt=>?_) λhlt=>.lft ?_
  ·have hlt:0<n:=hlt;have w:IntKind.i64.wrap (n-1)=n-1:=wrap64 (by omega) (by omega)
   refine(Azw hc (· = -1) (by grind) hnp4.2 hi hi' hps).bind λb hb=>.chk (by simp;omega) ?_
   have hall2:∀ x∈code++b.1,PM sl.1 np i ps (· = -1) x:=by
    grind
   have hall3:∀ x,PM sl.1 np i ps (· = -1) x->∀ y∈(code++b.1)++[x],PM sl.1 np i ps (· = -1) y:=by
    grind
   refine(Od hb.1 (by omega) (by omega)).bind λr hr=>.beq (λ_=>?_) λ_=>.beq (λ_=>?_) λ_=>?_
   ·refine(Od hr.1 (by omega) (by omega)).bind λq hq=>.chk (by simp;omega) (.cnt ⟨⟨hq.1,rfl,by grind,by grind,by grind,hall3 _ (.branch _ _ hq.2 rfl)⟩,by grind⟩)
   ·refine(Od hr.1 (by omega) (by omega)).bind λq hq=>.beq (λ_=>?_) λ_=>?_
    ·exact .chk (by simp;omega) (.cnt ⟨⟨hq.1,rfl,by grind,by grind,by grind,hall3 _ (.jump _ rfl)⟩,by grind⟩)
    ·exact .cnt ⟨⟨hq.1,rfl,by grind,by grind,by grind,hall2⟩,by grind⟩
   ·exact .cnt ⟨⟨hr.1,rfl,by grind,by grind,by grind,hall2⟩,by grind⟩
  ·refine(Od hc (by omega) (by omega)).bind λr hr=>.beq (λ_=>?_) λ_=>?_
   ·exact(Awa hr.1).bind λq hq=>Azm hq.1 hnp (by omega) hsl2 (by omega) hm hall (.inr ⟨_,hq.2,rfl⟩)
   ·exact Azm hr.1 hnp (by omega) hsl2 (by omega) hm hall (.inl rfl)
def ArC (funcs most:Int) (p:NG):Prop :=
 ∃ ps,ApY ps/\ps[0]? =some 0/\1<=ps.length/\(ps.length:Int)<=funcs/\p.Funcs.length=ps.length/\∀ (j:Nat) f,p.Funcs[j]? =some f->Si ps j most f
theorem AwM (h:okC c) {funcs:Int} (hf:1<=funcs) (hf':funcs<=1000) (hm0:0<=most) (hm:most<=1000) :
  Hs (XH c funcs most) λp=>okC p.2/\ArC funcs most p.1:=by
 refine(Od h hf (by omega)).bind λr hr=>?_
 refine Hs.loop (λs=>okC ⟨s.1,s.2.1⟩/\(∀ v∈s.2.2.1,0<=v/\v<4)/\s.2.2.1[0]? =some 0/\0<=s.2.2.2/\(s.2.2.1.length:Int)+s.2.2.2<=funcs) (λs=>s.2.2.2.toNat) ⟨hr.1,by simp,by simp,hr.2.1,by simp;omega⟩ ?_
 rintro⟨l,a,ps,n⟩ ⟨hc,hv,hz,hn0,hn1⟩;simp only at hc hv hz hn0 hn1;have hp1:1<=ps.length:=by grind
 refine .dec (λhlt=>?_) λhlt=>.lft ?_
 ·have hlt:0<n:=hlt;have w:IntKind.i64.wrap (n-1)=n-1:=wrap64 (by omega) (by omega)
  refine(Od hc (by omega) (by omega)).bind λq hq=>.chk (by simp;omega) (.cnt ⟨⟨hq.1,?_,by grind,by grind,by grind⟩,by grind⟩)
  grind
 ·have hps:ApY ps:=⟨hv,by omega⟩
  refine Hs.loop (λs=>okC ⟨s.1,s.2.1⟩/\s.2.2.2.2=ps/\∃ i:Nat,s.2.2.2.1=(i:Int)/\i<=ps.length/\s.2.2.1.length=i/\∀ (j:Nat) f,s.2.2.1[j]? =some f->Si ps j most f) (λs=>ps.length-s.2.2.2.1.toNat) ⟨hc,rfl,0,rfl,aAD _,rfl,λj f hj=>by simp at hj⟩ ?_
  rintro⟨l,a,fs,i',ps'⟩ ⟨hc,hpe,i,hie,hi,hfl,hall⟩;simp only at hc hpe hie hi hfl hall;subst hpe hie;unfold UN;refine .dec (λhlt=>?_) λhlt=>.lft (.pure ⟨hc,ps',hps,hz,hp1,by omega,?_,hall⟩)
  ·have hlt:i<ps'.length:=Int.ofNat_lt.1 hlt;have w:=NP (show i<9223372036854775807 by omega)
   have hpl:=hps.2;refine .chk (by simp;omega) ((Avv hc (i:=(i:Int)) (ps:=ps') (by omega) (by omega) hps hm0 hm).bind λf hf=>.chk (by simp;omega) (.cnt ⟨⟨hf.1,rfl,i+1,w,hlt,by simp;omega,?_⟩,by grind⟩))
   grind
  grind
def QJ (x:Lo) (k:Int):List Int :=
 if x.Op=20 then[x.A]else if x.Op=23\/x.Op=24 then[]else
 if x.Op=21 then(if x.B<k+1 then[x.B,k+1]else if k+1<x.B then[k+1,x.B]else[k+1])else[k+1]
theorem AuT (h:f.Code[k]? =some x) (hk:k<9223372036854775807):AcU f (k:Int)=some (QJ x k):=by
 obtain⟨hl,hx⟩:=aAC.1 h;have hnl:¬ f.Code.length<=k:=by omega
 have w:IntKind.i64.wrap ((k:Int)+1)=(k:Int)+1:=wrap64 (by omega) (by omega)
 unfold AcU AeO QJ;obtain⟨op,a,b,c,i⟩:=x
 by_cases h20:op=20
 ·subst h20;simp[hx,hl,hnl,show ¬ (k:Int)<0 by omega]
 ·by_cases h23:op=23
  ·simp_all[RL]
  ·by_cases h24:op=24
   ·simp_all[RL]
   ·by_cases h21:op=21
    ·subst h21
     by_cases hb:b<(k:Int)+1
     ·simp[hx,hl,hnl,show ¬ (k:Int)<0 by omega,RL,w,hb]
     ·by_cases hb':(k:Int)+1<b
      ·simp[hx,hl,hnl,show ¬ (k:Int)<0 by omega,RL,w,hb,hb']
      ·simp[hx,hl,hnl,show ¬ (k:Int)<0 by omega,RL,w,hb,hb']
    ·simp[hx,hl,hnl,show ¬ (k:Int)<0 by omega,RL,w,h20,h23,h24,h21]
def Pc (x:Lo):List Int:=if x.Op=15\/x.Op=17 then[x.B]else[]
structure Oi (f:Mk):Prop where
 len:1<=f.Code.length
 len':f.Code.length<=10000
 slots:f.Slots.length<=500
 next:∀ (k:Nat) x,f.Code[k]? =some x->∀ j∈QJ x k,0<=j/\j<f.Code.length
 uses:∀ x∈f.Code,∀ v∈Pc x,0<=v/\v<f.Slots.length
theorem Si.SW {i:Int} (h:Si ps i most f) (hm:most<=1000):Oi f:=by
 have hl:=h.len;have hl':=h.len';have hs:=h.slots;refine⟨hl,by omega,by omega,λk x hx j hj=>?_,λx hx v hv=>?_⟩
 ·have hkl:=(aAC.1 hx).1
  by_cases hk:k+1<f.Code.length
  ·have hins:=h.body k x hx hk;cases hins<;>grind [QJ]
  ·have he:=h.last x (by grind)
   rcases he with rfl|⟨w,_,rfl⟩<;>simp[QJ]at hj
 ·obtain⟨k,hk⟩:=aAH hx;have hkl:=(aAC.1 hk).1
  by_cases hk1:k+1<f.Code.length
  ·have hins:=h.body k x hk hk1;cases hins<;>grind [Pc]
  ·have he:=h.last x (by grind)
   rcases he with rfl|⟨w,_,rfl⟩<;>simp[Pc]at hv
def Ov (n:Int) (s:List Int):Prop:=OH s/\∀ x∈s,x<n
theorem Ov.nil (n:Int):Ov n []:=⟨OH.nil,λx hx=>by cases hx⟩
theorem Ov.add {n m:Int} (h:Ov n s) (hm:0<=m/\m<n) (hn:n<=512):Ov n (RO m s)/\UE s m=some (RO m s):=by
 have hl:=h.1.length_le;refine⟨?_,add_eq s m (by omega)⟩
 unfold RO;rw[if_pos (by omega)]
 refine⟨h.1.Wx (by omega),λx hx=>?_⟩
 rw[AhG]at hx;rcases hx with rfl|hx
 ·exact hm.2
 ·exact h.2 x hx
def RowsIn (n:Int) (g:List (List Int)):Prop:=∀ s∈g,Ov n s
theorem RowsIn.set {n:Int} (h:RowsIn n g) (hs:Ov n s):RowsIn n (g.set i s):=by
 intro x hx;rcases aAP hx with h1|rfl
 ·exact h x h1
 ·exact hs
def inN (x:Lo) (s:List Int):List Int:=QD (if x.Op=16\/x.Op=17 then s.filter (· != x.A)else s) (Pc x)
theorem Azl (x:Lo) (s:List Int) (h:s.length<=900000):AhT x s=some (inN x s):=by
 obtain⟨op,a,b,c,i⟩:=x;have hu:VO ⟨op,a,b,c,i⟩=some (Pc ⟨op,a,b,c,i⟩):=by
  grind [VO,Pc]
 have hul:(Pc ⟨op,a,b,c,i⟩).length<=1:=by grind [Pc]
 have hfl:(s.filter (· != a)).length<=s.length:=List.length_filter_le ..;have hr:=Atk s a (by omega)
 grind [union_eq,AhT,QN,Sf,inN]
theorem AhD (hf:Oi f) (hx:x∈f.Code) (hs:Ov f.Slots.length s) :
  Ov f.Slots.length (inN x s)/\∀ v,v∈inN x s↔(v∈s/\¬ ((x.Op=16\/x.Op=17)/\x.A=v))\/v∈Pc x:=by
 have hsl:=hf.slots;have h0:Ov f.Slots.length (if x.Op=16\/x.Op=17 then s.filter (· != x.A)else s):=by
  split
  ·exact⟨hs.1.filter _,λv hv=>hs.2 v (aAV.1 hv).1⟩
  ·exact hs
 obtain⟨h1,h2⟩:=VQ (n:=f.Slots.length) (by omega) (b:=Pc x) h0 (hf.uses x hx)
 refine⟨h1,λv=>?_⟩
 unfold inN
 grind
def NF (f:Mk) (j:Int):Lo:=(f.Code[j.toNat]?).getD default
def NY (l:List (List Int)) (j:Int):List Int:=(l[j.toNat]?).getD []
def AaV (f:Mk) (l:List (List Int)) (k:Int):List Int:=(QJ (NF f k) k).foldl (λo j=>QD o (inN (NF f j) (NY l j))) []
def Uw (f:Mk) (l:List (List Int)):List (List Int):=(List.range f.Code.length).map λk=>AaV f l (k:Nat)
def Rj (f:Mk) (l:List (List Int)):Prop:=l.length=f.Code.length/\∀ s∈l,Ov f.Slots.length s
theorem Auy {f:Mk} (hf:Oi f) {l:List (List Int)} (hl:Rj f l):∀ {js:List Int} {o:List Int},(∀ j∈js,0<=j/\j<f.Code.length)->Ov f.Slots.length o ->
  Ov f.Slots.length (js.foldl (λo j=>QD o (inN (NF f j) (NY l j))) o)/\∀ v,v∈js.foldl (λo j=>QD o (inN (NF f j) (NY l j))) o↔v∈o\/∃ j∈js,v∈inN (NF f j) (NY l j)
 | [],o,_,ho=>⟨ho,λv=>by simp⟩
 | j::js,o,hj,ho=>by
  have hsl:=hf.slots;have h0:=hj j (aAL ..);have hc:NF f j∈f.Code:=by
   grind [NF]
  have ho':Ov f.Slots.length (NY l j):=by
   unfold NY;rw[aAA (show j.toNat<l.length by have:=hl.1;omega)]
   exact hl.2 _ (aAF _)
  obtain⟨h1,h2⟩:=AhD hf hc ho';obtain⟨h3,h4⟩:=VQ (n:=f.Slots.length) (by omega) (b:=inN (NF f j) (NY l j)) ho λx hx=>⟨(h1.1.2 x hx).1,h1.2 x hx⟩
  obtain⟨h5,h6⟩:=Auy hf hl (λq hq=>hj q (aAN _ hq)) h3
  grind
theorem AeA (hf:Oi f) {l:List (List Int)} (hl:Rj f l) (hk:k<f.Code.length) :
  Ov f.Slots.length (AaV f l k)/\∀ v,v∈AaV f l k↔∃ j∈QJ (NF f k) k,v∈inN (NF f j) (NY l j):=by
 have hx:f.Code[k]? =some (NF f k):=by grind [NF]
 obtain⟨h1,h2⟩:=Auy hf hl (js:=QJ (NF f k) k) (hf.next k _ hx) (Ov.nil _)
 grind [AaV]
theorem Avd (hf:Oi f) {l:List (List Int)} (hl:Rj f l):Rj f (Uw f l):=by
 refine⟨by simp[Uw],λs hs=>?_⟩
 obtain⟨k,hk,rfl⟩:=List.mem_map.1 hs
 grind [AeA]
theorem step_eq (hf:Oi f) {l:List (List Int)} (hl:Rj f l):AgE f ⟨l⟩=some ⟨Uw f l⟩:=by
 have hlen:=hf.len';unfold AgE;rw[OO (by omega)]
 have key:Hs (NU (λs:List (List Int)×Int=>Xk f ⟨l⟩ s.1 s.2) (List.replicate (f.Code.length:Int).toNat ([]:List Int),0)) λr=>r=⟨Uw f l⟩:=by
  refine Hs.loop (λs=>s.1.length=f.Code.length/\∃ k:Nat,s.2=(k:Int)/\k<=f.Code.length/\∀ (j:Nat) r,s.1[j]? =some r->r=if j<k then AaV f l j else[]) (λs=>f.Code.length-s.2.toNat) ⟨by simp,0,rfl,aAD _,λj r hj=>?_⟩ ?_
  ·grind
  rintro⟨x,k'⟩ ⟨hxl,k,hke,hk,hall⟩;simp only at hxl hke hall;subst hke
  by_cases hlt:k<f.Code.length
  ·have w:=NP (show k<9223372036854775807 by omega)
   have hx:f.Code[k]? =some (NF f k):=by grind [NF]
   have hxk:x[k]? =some []:=by
    grind
   have hset:x.set k []=x:=by
    grind [aAo]
   have inner:=SI (body:=λs:List (List Int)×Int=>Xl (QJ (NF f k) k) k f ⟨l⟩ s.1 s.2) (QJ (NF f k) k) (λ(o:List Int) i=>(x.set k o,i)) (λo _=>Ov f.Slots.length o)
    (λo js=>some (.inl (x.set k (js.foldl (λo j=>QD o (inN (NF f j) (NY l j))) o),((k+1:Nat):Int))))
    (λo _=>⟨_,by simp[Xl,AeP,w];rfl,by simp⟩) (λo i j r ho hd hi hj=>by
     left
     have wi:=NP (show i<9223372036854775807 by
      grind [QJ])
     have hjm:=hf.next k _ hx j (aAB hj);have hjc:f.Code[j.toNat]? =some (NF f j):=by grind [NF]
     have hjl:j.toNat<l.length:=by have:=hl.1;omega
     have hjo:l[j.toNat]? =some (NY l j):=by grind [NY]
     have hos:Ov f.Slots.length (NY l j):=hl.2 _ (aAB hjo);have hsl:=hf.slots;obtain⟨g1,g2⟩:=AhD hf (aAB hjc) hos;obtain⟨g3,g4⟩:=VQ (n:=f.Slots.length) (by omega) (b:=inN (NF f j) (NY l j)) ho λx hx=>⟨(g1.1.2 x hx).1,g1.2 x hx⟩
     have e1:=Azl (NF f j) (NY l j) (by have:=hos.1.length_le;omega)
     have e2:=union_eq o (inN (NF f j) (NY l j)) (by have:=ho.1.length_le;have:=g1.1.length_le;omega)
     obtain⟨_,hje⟩:=aAC.1 hj;refine⟨QD o (inN (NF f j) (NY l j)),g3,?_,by simp⟩
     simp_all[Xl,Qn]) [] (Ov.nil _)
   simp only[hset]at inner;refine⟨.inl (x.set k (AaV f l k),((k+1:Nat):Int)),?_,⟨by simp_all,k+1,rfl,hlt,λj r hj=>?_⟩,by grind⟩
   ·simp only[Xk,decide_eq_true (Int.ofNat_lt.2 hlt),cond_true,AuT hx (by omega),aA]
    exact inner
   grind
  ·refine⟨.inr ⟨x⟩,by simp[Xk,hlt],?_⟩
   congr 1;refine List.ext_getElem (by grind [Uw]) λj h1 h2=>?_
   have:=hall j _ (aAA h1);rw[this,if_pos (by omega)]
   simp[Uw]
 obtain⟨r,h1,rfl⟩:=key;exact h1
def LE (a b:List (List Int)):Prop:=∀ (k:Nat) s t,a[k]? =some s->b[k]? =some t->∀ v∈s,v∈t
theorem LE.trans {a b c:List (List Int)} (h1:LE a b) (h2:LE b c) (hl:a.length=b.length):LE a c:=by
 intro k s t hs ht v hv;have hk:=(aAC.1 hs).1;have hb:b[k]? =some (b[k]'(by omega)):=aAA _
 exact h2 k _ t hb ht v (h1 k s _ hs hb v hv)
theorem AxY:∀ {a b:List (List Int)},a.length=b.length->(∀ s∈a,OH s)->(∀ s∈b,OH s)->LE a b->(a.map List.length).sum<=(b.map List.length).sum/\((a.map List.length).sum=(b.map List.length).sum->a=b)
 | [],[],_,_,_,_=>⟨aAe _,λ_=>rfl⟩
 | [],y::b,h,_,_,_=>by simp at h
 | x::a,[],h,_,_,_=>by simp at h
 | x::a,y::b,h,ha,hb,hle=>by
  have hsub:=(ha x (aAL ..)).sub (hb y (aAL ..)) (hle 0 x y rfl rfl);obtain⟨h1,h2⟩:=AxY (a:=a) (b:=b) (by simp_all) (λs hs=>ha s (aAN _ hs)) (λs hs=>hb s (aAN _ hs)) λk s t hs ht=>hle (k+1) s t (by simp_all) (by simp_all)
  grind
theorem Ato:∀ {a:List (List Int)},(∀ s∈a,OH s)->(a.map List.length).sum<=512*a.length
 | [],_=>by simp
 | x::a,ha=>by
  have h1:=(ha x (aAL ..)).length_le;have h2:=Ato (a:=a) λs hs=>ha s (aAN _ hs)
  grind
theorem AyB (hf:Oi f) (hx:x∈f.Code) {t:List Int} (hs:Ov f.Slots.length s) (ht:Ov f.Slots.length t) (h:∀ v∈s,v∈t):∀ v∈inN x s,v∈inN x t:=by
 intro v hv;rw[(AhD hf hx hs).2]at hv;rw[(AhD hf hx ht).2]
 grind
theorem Atn (hf:Oi f) {a b:List (List Int)} (ha:Rj f a) (hb:Rj f b) (h:LE a b):LE (Uw f a) (Uw f b):=by
 intro k s t hs ht v hv;have hk:k<f.Code.length:=by grind [Uw]
 have e1:s=AaV f a k:=by grind [Uw]
 have e2:t=AaV f b k:=by grind [Uw]
 subst e1 e2;rw[(AeA hf ha hk).2]at hv;rw[(AeA hf hb hk).2];obtain⟨j,hj,hv⟩:=hv;have hx:f.Code[k]? =some (NF f k):=by grind [NF]
 have hjm:=hf.next k _ hx j hj;have hjc:f.Code[j.toNat]? =some (NF f j):=by grind [NF]
 have hja:a[j.toNat]? =some (NY a j):=by simp[NY,show j.toNat<a.length by have:=ha.1;omega]
 have hjb:b[j.toNat]? =some (NY b j):=by simp[NY,show j.toNat<b.length by have:=hb.1;omega]
 exact⟨j,hj,AyB hf (aAB hjc) (ha.2 _ (aAB hja)) (hb.2 _ (aAB hjb)) (h _ _ _ hja hjb) v hv⟩
structure Asl (f:Mk) (l:List (List Int)):Prop where
 ok:Rj f l
 fix:Uw f l=l
 least:∀ b,Rj f b->LE (Uw f b) b->LE l b
theorem ArA (hf:Oi f):Hs (AaS f) λl=>Asl f l.Out:=by
 have hlen:=hf.len';refine .chk (by omega) ?_
 refine Hs.loop (λl=>Rj f l/\LE l (Uw f l)/\∀ b,Rj f b->LE (Uw f b) b->LE l b) (λl=>512*f.Code.length-(l.map List.length).sum) ⟨⟨by simp,λs hs=>?_⟩,λk s t hs ht v hv=>?_,λb _ _ k s t hs ht v hv=>?_⟩ ?_
 ·grind [Ov.nil]
 ·grind
 ·grind
 ·rintro l ⟨hl,hle,hleast⟩;have hl':=Avd hf hl;have e1:=step_eq hf hl;have e2:AgD ⟨Uw f l⟩ ⟨l⟩=some (decide (Uw f l=l)):=by
   unfold AgD;rw[AwP _ _ (by have:=hl'.1;grind) (λs hs=>by have:=(hl'.2 s hs).1.length_le;omega)]
   rfl
  obtain⟨s1,s2⟩:=AxY (by rw[hl.1,hl'.1]) (λs hs=>(hl.2 s hs).1) (λs hs=>(hl'.2 s hs).1) hle
  have s3:=Ato λs hs=>(hl'.2 s hs).1
  rw[hl'.1]at s3;unfold AcV;rw[e1,aA,e2,aA]
  by_cases he:Uw f l=l
  ·simp only[he,decide_true,cond_true];exact .lft (.pure ⟨hl,he,hleast⟩)
  ·simp only[he,decide_false,cond_false];refine .cnt ⟨⟨hl',Atn hf hl hl' hle,λb hb hb'=>(Atn hf hl hb (hleast b hb hb')).trans hb' (by rw[hl'.1,(Avd hf hb).1])⟩,?_⟩
   grind
theorem Aut (x:Lo):VU x=some (Pc x):=by
 grind [VU,Pc]
theorem AmM (x:Lo):QZ x=some (if x.Op=16\/x.Op=17 then(x.A,true)else(0,false)):=by
 grind [QZ]
theorem AvY (x:Lo):(Pc x).length<=1:=by grind [Pc]
theorem Ayf (x:Lo) (hu:∀ v∈Pc x,0<=v/\v<512):QD [] (Pc x)=Pc x:=by
 unfold Pc at hu ⊢;split
 all_goals simp_all[QD,RO,Wx]
theorem AAH (hs:OH s) (hu:∀ v∈Pc x,0<=v/\v<512):AfE x s=some (inN x s):=by
 have hl:=AvY x;have h1:=Ayq hu (by omega)
 rw[Ayf x hu]at h1;have h2:=Aud hs x.A;have h3:=Amd (hs.filter (· != x.A)) hu (by omega)
 have h4:=Amd hs hu (by omega)
 unfold AfE inN;rw[AmM,aA,Aut]
 grind
theorem Avo {a b:List Int} (ha:OH a) (hb:OH b):Wm a b=some (a.filter λv=>!decide (v∈b)):=by
 obtain⟨r,h1,h2⟩:=Avp a b (by have:=ha.length_le;omega) (by have:=hb.length_le;omega)
 rw[h1,h2.eq (Ul.ArU (ha.filter λv=>!decide (v∈b))) λv _ _=>by simp_all]
theorem AxO (a b:List Int) (ha:a.length<=16777215) (hb:b.length<=9223372036854775807):Aet a b=some (a.filter λv=>!decide (v∈b)):=by
 unfold Aet;have:=SI (body:=λp:List Int×Int=>Ua a b p.1 p.2) a (λ(out:List Int) i=>(out,i)) (λout i=>out.length<=i) (λout l=>some (out++l.filter λv=>!decide (v∈b)))
  (λout _=>⟨out,by simp[Ua],by simp⟩) (λout i x r ho hd hi hx=>by
   have w:=NP (show i<9223372036854775807 by omega)
   obtain⟨_,rfl⟩:=aAC.1 hx;left
   by_cases h:a[i]∈b
   ·exact⟨out,by omega,by simp_all[Ua,AiV],by simp[h]⟩
   ·exact⟨out++[a[i]],by simp;omega,by simp[Ua,hi,AiV b _ hb,h,w,show out.length<=16777215 by omega],by simp[h]⟩)
  [] (by simp)
 simp_all
theorem Awb (hs:OH s) {n:Int} (h:0<=n/\n<512):AcB s n=some (RO n s):=by
 unfold AcB;obtain⟨r,e1,e2,e3⟩:=AnQ s (by have:=hs.length_le;omega)
 obtain⟨u,f1,f2,f3⟩:=AuK e2 n true;obtain⟨q,g1,g2,g3⟩:=Age f2;rw[e1,aA,f1,aA,g1,aA];congr 1;have hk:=Ov.AlZ (n:=512) (m:=n) (s:=s) ⟨hs,λx hx=>(hs.2 x hx).2⟩ h (aAl _)
 refine g3.1.ext hk.1 λv=>?_
 rw[g3.2,hk.2.2];constructor
 ·simp_all
 ·intro hv;have hr:0<=v/\v<512:=hv.elim (λe=>e▸h) (hs.2 v)
  simp_all
structure GrY (g:List (List Int)):Prop where
 len:g.length<=500
 row:∀ s∈g,OH s/\∀ x∈s,x<g.length
theorem GrY.at_ (h:GrY g) (hi:g[i]? =some s):OH s/\∀ x∈s,x<g.length:=h.row s (aAB hi)
section
variable {g:List (List Int)} (hg:GrY g) {done:List Int} (hd:OH done)
 include hg hd
end
structure AqY (g:List (List Int)) (order done:List Int):Prop where
 set:OH done
 mem:∀ v,v∈done↔v∈order
 nodup:order.Nodup
 rng:∀ x∈order,0<=x/\x<g.length
 top:∀ (j:Nat) x,order[j]? =some x->∀ v∈g.getD x.toNat [],v∈order.take j
theorem AqY.nil (g:List (List Int)):AqY g [] []:=⟨⟨by simp,by simp⟩,by simp,by simp,by simp,by simp⟩
theorem AqY.snoc (hg:GrY g) {order done:List Int} (h:AqY g order done) {j:Nat} (hj:j<g.length) (hn:¬ (j:Int)∈done) (hc:∀ v∈g.getD j [],v∈done):AqY g (order++[(j:Int)]) (RO (j:Int) done):=by
 have hl:=hg.len;have hk:=Ov.AlZ (n:=512) (m:=(j:Int)) (s:=done) ⟨h.set,λx hx=>(h.set.2 x hx).2⟩ (by omega) (aAl _)
 refine⟨hk.1,λv=>by rw[hk.2.2,h.mem];grind,?_,?_,?_⟩
 ·refine List.nodup_append.2 ⟨h.nodup,by simp,λa ha b hb e=>?_⟩
  simp at hb;subst hb;subst e;exact hn ((h.mem _).2 ha)
 ·intro x hx;rcases aAK.1 hx with hx|hx
  ·exact h.rng x hx
  simp_all
 ·intro i x hi v hv
  by_cases e:i<order.length
  ·rw[aAW e]at hi;rw[List.take_append_of_le_length (by omega)]
   exact h.top i x hi v hv
  ·rw[List.getElem?_append_right (by omega)]at hi
   have hi0:i-order.length=0:=by
    grind
   rw[hi0]at hi;simp at hi;subst hi;have:i=order.length:=by omega
   subst this;rw[List.take_left];exact(h.mem v).1 (hc v hv)
end Go.Proofs.YtcaoepecbgggcaaGreatDoor
namespace Go.Dw
open Go
section
variable {α β ι R:Type}
def Le (x y:Option α):Prop:=∀ z,x=some z->y=some z
theorem Le.refl (x:Option α):Le x x:=λ_ h=>h
theorem Le.none (y:Option α):Le none y:=λ_ h=>nomatch h
theorem Le.trans {x y z:Option α} (h:Le x y) (h':Le y z):Le x z:=λr hr=>h' r (h r hr)
theorem Le.bind {x y:Option α} {f g:α->Option β} (h:Le x y) (hf:∀ a,Le (f a) (g a)):Le (x.bind f) (y.bind g):=by
 intro z hz;obtain⟨a,h1,h2⟩:=aAj.1 hz;exact aAj.2 ⟨a,h a h1,hf a z h2⟩
theorem Le.chk {p:Prop} [Decidable p] {x y:Option α} (h:Le x y):Le (chk p x) (Go.Dw.chk p y):=by
 intro z hz;unfold Go.Dw.chk at hz ⊢;split at hz
 ·rename_i hp;rw[if_pos hp];exact h z hz
 ·cases hz
theorem Le.cond {b:Bool} {x y x' y':Option α} (h:Le x y) (h':Le x' y'):Le (bif b then x else x') (bif b then y else y'):=by
 grind
theorem Le.loop {body body':ι->Option (ι⊕R)} {s:ι} (h:∀ s,Le (body s) (body' s)):Le (NU body s) (NU body' s):=by
 intro r hr;obtain⟨n,hn⟩:=AiM.1 hr;clear hr
 induction n generalizing s with
 | zero=>cases hn
 | succ n ih =>
  rw[ZS];unfold Agp at hn;cases e:body s with
  | none=>simp_all
  | some z =>
   rw[e]at hn;rw[h s z e]
   grind
theorem AzJ {m:Nat->Option α} (hm:∀ n,Le (m n) (m (n+1))) {n:Nat} {r:α} (h:m n=some r):Apq m=some r:=by
 have up:∀ k n,Le (m n) (m (n+k)):=by
  intro k
  induction k with
  | zero=>intro n;exact .refl _
  | succ k ih=>intro n;exact(ih n).trans (hm (n+k))
 obtain⟨r',h1,h2⟩:=AzK (P:=λr'=>r'=r) h λn' r' h'=>by
  have a:=up n' n r h;have b:=up n n' r' h'
  grind
 rw[h1,h2]
end
end Go.Dw
namespace Go.Proofs.YtcaoepecbgggcaaGreatDoor
open Go Go.Dw Go.Proofs
attribute [local simp] OO aAG
variable {i:Int} {s ps to used:List Int} {g l:List (List Int)} {c:BR} {p:NG} {f:Mk} {k:Nat} {x:Lo} {r:NO} {mv:Lo->Int->Bool} {m:List (List Bool)} {Q:Nat->Int->Prop}
def bF (g:List (List Int)) (w:List Int):Nat->Nat->Option Int
 | 0,_=>none
 | n+1,i=>(g[i]?).bind λs=>(w[i]?).bind λx=>(s.foldlM (λa j=>(bF g w n j.toNat).map (OX a)) 0).bind λm=>if x+m<=2147483647 then some (x+m)else none
def vB (g:List (List Int)) (w:List Int) (i:Nat):Option Int:=bF g w g.length i
section
variable {g:List (List Int)} {w order done:List Int} (hg:GrY g) (ho:AqY g order done)
 include hg ho
end
def WtY (g:List (List Int)) (w:List Int):Prop:=w.length=g.length/\∀ x∈w,0<=x/\x<=2147483647
open Go Go.Dw Go.Proofs
attribute [local simp] OO aAG
theorem Ayp {rec0 rec1:Om->Int->Option (Int×Int×Om)} (h:∀ a b,Le (rec0 a b) (rec1 a b)) (s:Om) (k:Int):Le (QT rec0 s k) (QT rec1 s k):=by
 refine .chk (.bind (.refl _) λ_=>.cond (.refl _) (.bind (.refl _) λ_=>.loop λs=>?_))
 exact .cond (.bind (.refl _) λ_=>.bind (h _ _) λ_=>.refl _) (.refl _)
theorem AsV:∀ (n:Nat) (s:Om) (k:Int),Le (QH n s k) (QH (n+1) s k)
 | 0,_,_=>.none _
 | n+1,s,k=>Ayp (λa b=>AsV n a b) s k
structure BI (g:List (List Int)) (w:List Int) (kn:List Bool) (of:List Int):Prop where
 kl:kn.length=g.length
 ol:of.length=g.length
 eq:∀ i:Nat,kn[i]? =some true->of[i]? =vB g w i
section
variable {g:List (List Int)} {w order done:List Int} (hg:GrY g) (ho:AqY g order done) (hl:order.length=g.length) (hw:WtY g w)
 include hg ho hl hw
end
open Go Go.Dw Go.Proofs
attribute [local simp] OO aAG
def SzY (g:List (List Int)):Prop:=1<=g.length/\g.length<=80
instance (g:List (List Int)):Decidable (SzY g):=inferInstanceAs (Decidable (_/\_))
instance (g:List (List Int)) (w:List Int):Decidable (WtY g w):=inferInstanceAs (Decidable (_/\_))
section
variable {g:List (List Int)} (hg:GrY g)
 include hg
theorem AyW {i:Nat} (hs:g[i]? =some s) (h:0<s.length):∃ z,s[s.length-1]? =some z/\z<g.length :=
 ⟨s[s.length-1],aAA (by omega),(hg.at_ hs).2 _ (aAF _)⟩
theorem Awj:Tb g=some (decide (SzY g)):=by
 have hgl:=hg.len;have hh:Hs (Tb g) λr=>r=decide (SzY g):=by
  refine Hs.loop (λi=>∃ k:Nat,i=(k:Int)/\k<=g.length) (λi=>g.length-i.toNat) ⟨0,rfl,aAD _⟩ λi ⟨k,hi,hk⟩=>?_
  subst hi;refine .dec (λh=>?_) λh=>?_
  ·refine(Hs.ix (l:=g) (i:=(k:Int)) (by omega) h λz hz=>hz).bind λs hs=>?_
   simp only[aAE]at hs;obtain⟨h1,h2⟩:=hg.at_ hs;have hsl:=h1.length_le;rw[AsU s (by omega),(Akg s).2 h1,aA]
   refine .cond (λe=>absurd e (by simp)) λ_=>?_
   have nx:Hs (cnt (R:=Bool) (IntKind.i64.wrap ((k:Int)+1))) (Rnd (λi:Int=>∃ k:Nat,i=(k:Int)/\k<=g.length) (λi:Int=>g.length-i.toNat) (k:Int) λr:Bool=>r=decide (SzY g)):=by
    refine .cnt ⟨⟨k+1,NP (by omega),by omega⟩,?_⟩
    grind [NP]
   refine .dec (λh0=>?_) λ_=>nx
   obtain⟨z,hz,hzl⟩:=AyW hg hs (by omega)
   rw[wrap64 (by omega) (by omega),Qn _ (by omega),show((s.length:Int)-1).toNat=s.length-1 by omega,hz,aA]
   grind
  ·refine .lft ?_;refine .dec (λh=>.pure ?_) λh=>.pure ?_
   ·show _=decide (SzY g);rw[decide_eq_decide];grind [SzY]
   ·show _=decide (SzY g);rw[eq_comm,decide_eq_false_iff_not];grind [SzY]
 obtain⟨r,h1,rfl⟩:=hh;exact h1
end
def Ayj (g:List (List Int)) (w:List Int) (o:List Int×Int) (z:List Int×Int):Prop :=
 (¬ (SzY g/\WtY g w)/\z=([],4))\/((SzY g/\WtY g w)/\((o.2≠0/\z=([],o.2))\/(o.2=0/\(((∃ i,i<g.length/\vB g w i=none)/\z=([],9))\/(z.2=0/\z.1.length=g.length/\∀ i,i<g.length->∃ x,vB g w i=some x/\z.1[i]? =some x)))))
theorem Ayj.unique {w:List Int} {o z z':List Int×Int} (h:Ayj g w o z) (h':Ayj g w o z'):z=z':=by
 rcases h with⟨h1,rfl⟩|⟨h1,⟨h2,rfl⟩|⟨h2,⟨⟨i,hi,hn⟩,rfl⟩|⟨h3,h4,h5⟩⟩⟩<;>rcases h' with⟨g1,rfl⟩|⟨g1,⟨g2,rfl⟩|⟨g2,⟨⟨j,hj,gn⟩,rfl⟩|⟨g3,g4,g5⟩⟩⟩<;>first|rfl|exact absurd g1 h1|exact absurd h1 g1|exact absurd g2 h2|exact absurd h2 g2|skip
 ·simp_all
 ·simp_all
 ·refine Prod.ext (List.ext_getElem? λi=>?_) (h3.trans g3.symm)
  grind
open Go Go.Dw Go.Proofs
attribute [local simp] OO aAG
structure AAs (g:List (List Int)) (w c:List Int):Prop where
 size:SzY g
 row:∀ s∈g,OH s/\∀ x∈s,x<g.length
 wt:WtY g w
 cl:c.length=g.length
 ge:∀ i,i<g.length->∃ a b s,c[i]? =some a/\w[i]? =some b/\g[i]? =some s/\0<=a/\a<=2147483647/\b<=a/\∀ j∈s,∃ d,c[j.toNat]? =some d/\d<=a-b
theorem AuE {w c:List Int} (h:AAs g w c):Rk g w c=some true:=by
 have hg:GrY g:=⟨by have:=h.size;grind [SzY],h.row⟩
 have hgl:=hg.len;have hwl:=h.wt.1;have hcl:=h.cl;unfold Rk;rw[Awj hg,decide_eq_true h.size,aA];have e1:((w.length:Int) != (g.length:Int))=false:=by simp[hwl]
 have e2:((c.length:Int) != (g.length:Int))=false:=by simp[hcl]
 rw[e1,e2];have hh:Hs (QU w) λr=>r=true:=by
  unfold QU;refine Hs.loop (λi=>∃ k:Nat,i=(k:Int)/\k<=w.length) (λi=>w.length-i.toNat) ⟨0,rfl,aAD _⟩ λi ⟨k,hi,hk⟩=>?_
  subst hi;unfold Sk;refine .dec (λhlt=>?_) λhlt=>.lft (.pure rfl)
  refine(Hs.ix (l:=w) (i:=(k:Int)) (by omega) hlt λz hz=>hz).bind λx hx=>?_
  simp only[aAE]at hx;have hr:=h.wt.2 x (aAB hx);have hb:Rf x=some true:=by grind [Rf]
  rw[hb,aA];refine .cond (λe=>absurd e (by simp)) λe=>.cnt ⟨⟨k+1,NP (by omega),by omega⟩,?_⟩
  grind [NP]
 obtain⟨r,h1,rfl⟩:=hh;exact h1
def CallsIn (p:NG):Prop:=∀ f∈p.Funcs,∀ x∈f.Code,x.Op=22->0<=x.A/\x.A<p.Funcs.length
theorem AzY (n:Int):Hs (VN n) λ_=>True:=by
 exact .cond (λ_=>.pure trivial) λ_=>.cond (λ_=>.pure trivial) λ_=>.cond (λ_=>.pure trivial) λ_=>.cond (λ_=>.pure trivial) λ_=>.pure trivial
theorem AbN (n:Int):SZ n=some (decide (0<=n/\n<=2147483647)):=by
 unfold SZ
 grind
theorem Arp (n:Int):Hs (RJ n) λb=>b=true->1<=n/\n<=16777216:=by
 refine Hs.loop (λk=>1<=k/\k<=33554432) (λk=>33554433-k.toNat) ⟨by omega,by omega⟩ ?_
 rintro k ⟨h0,h1⟩;refine .dec (λh=>.beq (λe=>.lft (.pure λ_=>⟨by omega,by omega⟩)) λ_=>?_) λh=>.lft (.pure λh=>(by cases h))
 rw[wrap64 (by omega) (by omega)]
 exact .cnt ⟨⟨by omega,by omega⟩,by grind⟩
theorem Ala (a:NV):Hs (Rb a) λb=>b=true->0<=a.Off/\0<=a.Size/\a.Off+a.Size<=2147483647:=by
 unfold Rb;simp only[AbN,aA];refine .dec (λh=>.dec (λh1=>.pure λh2=>?_) λ_=>.pure λh=>(by cases h)) λ_=>.pure λh=>(by cases h)
 have h2:=of_decide_eq_true h2
 grind [wrap64]
theorem Azs (n a:Int):Hs (YD n a) λq=>0<=q.1/\q.1<=2147483647:=by
 unfold YD;simp only[AbN,aA];refine .cond (λ_=>.pure ⟨by omega,by omega⟩) λh=>?_
 have hn:0<=n/\n<=2147483647:=by simp_all
 refine(Arp a).bind λb hb=>.cond (λ_=>.pure ⟨by omega,by omega⟩) λh=>?_
 have ha:=hb (by simp_all)
 have j2:∀ m:Int,0<=m->Hs (AaR m) λq=>0<=q.1/\q.1<=2147483647:=by
  intro m hm;exact .dec (λ_=>.pure ⟨by omega,by omega⟩) λh=>.pure ⟨hm,by omega⟩
 unfold Aeq;have t0:=Int.tmod_nonneg a hn.1;have t1:=Int.tmod_lt_of_pos n (show 0<a by omega)
 grind [chk,wrap64]
theorem AwL (a b:NV):Hs (Vf a b) λ_=>True:=by
 refine(Ala a).bind λ_ _=>.cond (λ_=>(Ala b).bind λ_ _=>.cond (λ_=>.dec (λ_=>.dec (λ_=>.dec (λ_=>.pure trivial) λ_=>.pure trivial) λ_=>.pure trivial) λ_=>.pure trivial) λ_=>.pure trivial) λ_=>.pure trivial
theorem AzL (l:List NV) (hl:l.length<=1000000) (x:NV):Hs (AjZ l x) λ_=>True:=by
 refine Hs.loop (λi=>∃ k:Nat,i=(k:Int)/\k<=l.length) (λi=>l.length-i.toNat) ⟨0,rfl,aAD _⟩ ?_
 rintro _ ⟨k,rfl,hk⟩;refine .dec (λhlt=>?_) λ_=>.lft (.pure trivial)
 refine(Hs.ix (P:=λ_=>True) (by omega) hlt λ_ _=>trivial).bind λy _=>(AwL y x).bind λb _=>.cond (λ_=>.lft (.pure trivial)) λ_=>?_
 rw[NP (by omega)]
 exact .cnt ⟨⟨k+1,rfl,by omega⟩,by grind⟩
theorem AAJ (l:List NV) (hl:l.length<=1000000) (frm size align:Int):Hs (Ajc l frm size align) λ_=>True:=by
 unfold Ajc;simp only[AbN,aA];refine .cond (λ_=>.pure trivial) λ_=>.cond (λ_=>.pure trivial) λ_=>(Arp align).bind λb _=>.cond (λ_=>.pure trivial) λ_=>?_
 refine Hs.loop (λi=>∃ k:Nat,i=(k:Int)/\k<=l.length) (λi=>l.length-i.toNat) ⟨0,rfl,aAD _⟩ ?_
 rintro _ ⟨k,rfl,hk⟩;refine .dec (λhlt=>?_) λ_=>.lft ?_
 ·refine(Hs.ix (P:=λ_=>True) (by omega) hlt λ_ _=>trivial).bind λy _=>(Ala y).bind λb _=>.cond (λ_=>.lft (.pure trivial)) λ_=>?_
  rw[NP (by omega)]
  exact .cnt ⟨⟨k+1,rfl,by omega⟩,by grind⟩
 refine Hs.loop (λs=>-1<=s.2.2/\s.2.2<=l.length) (λs=>((l.length:Int)-s.2.2).toNat) ⟨by simp,by simp_all⟩ ?_
 rintro⟨best,found,i⟩ ⟨h0,h1⟩;replace h0: -1<=i:=h0;have j4:∀ at_:Int,i<l.length->Hs (Zs align size l found i best at_) (Rnd (λs:Int×Bool×Int=>-1<=s.2.2/\s.2.2<=l.length) (λs=>((l.length:Int)-s.2.2).toNat) (best,found,i) λ_=>True):=by
  intro at_ hi;unfold Zs;have w:IntKind.i64.wrap (i+1)=i+1:=wrap64 (by omega) (by omega)
  rw[w];have fin:∀ (a:Int) (b:Bool),Hs (cnt (a,b,i+1):Option ((Int×Bool×Int)⊕(Int×Int))) (Rnd (λs:Int×Bool×Int=>-1<=s.2.2/\s.2.2<=l.length) (λs=>((l.length:Int)-s.2.2).toNat) (best,found,i) λ_=>True):=λa b=>.cnt ⟨⟨by grind,by grind⟩,by grind⟩
  exact(Azs at_ align).bind λq _=>.cond (λ_=>(Ala _).bind λ_ _=>.cond (λ_=>(AzL l hl _).bind λ_ _=>.cond (λ_=>.cond (λ_=>fin _ _) λ_=>.dec (λ_=>fin _ _) λ_=>fin _ _) λ_=>fin _ _) λ_=>fin _ _) λ_=>fin _ _
 refine .dec (λhlt=>.dec (λhge=>?_) λ_=>j4 _ hlt) λ_=>.lft (.cond (λ_=>.pure trivial) λ_=>.pure trivial)
 exact(Hs.ix (P:=λ_=>True) (by omega) hlt λ_ _=>trivial).bind λy _=>(Hs.ix (P:=λ_=>True) (by omega) hlt λ_ _=>trivial).bind λz _=>j4 _ hlt
theorem ApT (s:List NQ):Hs (YC s) λe=>e=0->s.length<=512:=by
 refine .dec (λ_=>.pure λh=>by simp at h) λh=>?_
 have hl:s.length<=512:=by omega
 refine(Hs.loop (Q:=λ_=>True) (λi=>∃ k:Nat,i=(k:Int)/\k<=s.length) (λi=>s.length-i.toNat) ⟨0,rfl,aAD _⟩ ?_).mono λ_ _ _=>hl
 rintro _ ⟨k,rfl,hk⟩;refine .dec (λhlt=>?_) λ_=>.lft (.pure trivial)
 refine(Hs.ix (P:=λ_=>True) (by omega) hlt λ_ _=>trivial).bind λx _=>(AzY _).bind λb _=>.cond (λ_=>.lft (.pure trivial)) λ_=>?_
 refine(Hs.ix (P:=λ_=>True) (by omega) hlt λ_ _=>trivial).bind λy _=>(Arp _).bind λb _=>.cond (λ_=>.lft (.pure trivial)) λ_=>?_
 rw[NP (by omega)]
 exact .cnt ⟨⟨k+1,rfl,by omega⟩,by grind⟩
theorem AvJ (hi:ixO p.Funcs i=some f) (hl:f.Code.length<=10000) (hc:∀ x∈f.Code,x.Op=22->0<=x.A/\x.A<p.Funcs.length):Hs (Ts p i) λ_=>True:=by
 unfold Ts;rw[hi,aA];refine Hs.loop (λq=>∃ k:Nat,q.2=(k:Int)/\k<=f.Code.length) (λq=>f.Code.length-q.2.toNat) ⟨0,rfl,aAD _⟩ ?_
 rintro⟨n,_⟩ ⟨k,rfl,hk⟩;refine .dec (λhlt=>?_) λ_=>.lft (.pure trivial)
 have hlt:k<f.Code.length:=by omega
 have e:ixO f.Code (k:Int)=some f.Code[k]:=by simp_all
 simp only[e,aA];rw[NP (by omega)]
 refine .beq (λ_=>.cnt ⟨⟨k+1,rfl,hlt⟩,by grind⟩) λ_=>.beq (λh=>?_) λ_=>.cnt ⟨⟨k+1,rfl,hlt⟩,by grind⟩
 have:=hc _ (aAF _) h;exact(Hs.ix (P:=λ_=>True) this.1 this.2 λ_ _=>trivial).bind λ_ _=>.cnt ⟨⟨k+1,rfl,hlt⟩,by grind⟩
theorem AxV (s:List NQ):Hs (Uu s) λ_=>True:=by
 refine(ApT s).bind λe he=>.bne (λ_=>.pure trivial) λh=>?_
 refine Hs.loop (λq=>∃ k:Nat,q.2=(k:Int)/\k<=s.length) (λq=>s.length-q.2.toNat) ⟨0,rfl,aAD _⟩ ?_
 rintro⟨n,_⟩ ⟨k,rfl,hk⟩;refine .dec (λhlt=>?_) λ_=>.lft (.pure trivial)
 have hlt:k<s.length:=by omega
 rw[NP (by omega)]
 exact(Hs.ix (P:=λ_=>True) (by omega) (by omega) λ_ _=>trivial).bind λ_ _=>.cnt ⟨⟨k+1,rfl,hlt⟩,by grind⟩
theorem AxG (p:NG) (hp:p.Funcs.length<=1000):Hs (RK p) λ_=>True:=by
 refine Hs.loop (λq=>∃ k:Nat,q.2=(k:Int)/\k<=p.Funcs.length) (λq=>p.Funcs.length-q.2.toNat) ⟨0,rfl,aAD _⟩ ?_
 rintro⟨n,_⟩ ⟨k,rfl,hk⟩;refine .dec (λhlt=>?_) λ_=>.lft (.pure trivial)
 have hlt:k<p.Funcs.length:=by omega
 rw[NP (by omega)]
 exact(Hs.ix (P:=λ_=>True) (by omega) (by omega) λ_ _=>trivial).bind λx _=>(AxV _).bind λ_ _=>.cnt ⟨⟨k+1,rfl,hlt⟩,by grind⟩
theorem Awk {n:Int} (hn:n<=1000) (hr:∀ row∈g,row.length<=512):Hs (AiE g n) λb=>b=true->(g.length:Int)=n:=by
 refine .bne (λ_=>.pure λh=>by cases h) λhgl=>?_
 refine(Hs.loop (Q:=λ_=>True) (λi=>∃ k:Nat,i=(k:Int)/\k<=g.length) (λi=>g.length-i.toNat) ⟨0,rfl,aAD _⟩ ?_).mono λ_ _ _=>hgl
 rintro _ ⟨k,rfl,hk⟩;refine .dec (λhlt=>?_) λ_=>.lft (.pure trivial)
 have hkl:k<g.length:=by omega
 have e:ixO g (k:Int)=some g[k]:=by simp_all
 have hrow:=hr g[k] (aAF _);rw[e,aA,Aug _ (by omega),aA]
 refine .cond (λ_=>.lft (.pure trivial)) λhc=>?_
 have hs:OH g[k]:=(Akg _).1 (by simp_all)
 rw[aA,AiV _ _ (by omega),aA]
 refine .cond (λ_=>.lft (.pure trivial)) λ_=>?_
 refine Hs.loop (λi=>∃ j:Nat,i=(j:Int)/\j<=(g[k]).length) (λi=>(g[k]).length-i.toNat) ⟨0,rfl,aAD _⟩ ?_
 rintro _ ⟨j,rfl,hj⟩;unfold AcW;rw[e,aA];refine .dec (λhlt=>?_) λ_=>.lft ?_
 ·refine(Hs.ix (by omega) hlt λv hv=>hs.2 v (aAB hv)).bind λv hv=>?_
  refine .dec (λ_=>.lft (.lft (.pure trivial))) λhvn=>?_
  refine(Hs.ix hv.1 (by omega) λx hx=>hr x (aAB hx)).bind λx hx=>?_
  rw[AiV _ _ (by omega),aA]
  refine .cond (λ_=>.lft (.lft (.pure trivial))) λ_=>?_
  rw[NP (by omega)]
  exact .cnt ⟨⟨j+1,rfl,by omega⟩,by grind⟩
 ·unfold AcX;rw[NP (by omega)]
  exact .cnt ⟨⟨k+1,rfl,by omega⟩,by grind⟩
theorem Axd (a b:NQ):Hs (AgV a b) λ_=>True:=by
 exact .cond (λ_=>.pure trivial) λ_=>.cond (λ_=>.pure trivial) λ_=>.pure trivial
theorem AyM (s:List NQ) (hs:s.length<=1000):Hs (AiI s) λout=>out.length=s.length/\∀ v∈out,0<=v/\v<s.length:=by
 refine Hs.loop (λq=>∃ k:Nat,q.2=(k:Int)/\k<=s.length/\q.1.length=k/\∀ v∈q.1,0<=v/\v<s.length) (λq=>s.length-q.2.toNat) ⟨0,rfl,aAD _,rfl,λv hv=>by cases hv⟩ ?_
 rintro⟨out,_⟩ ⟨k,rfl,hk,hol,hov⟩;replace hol:out.length=k:=hol;replace hov:∀ v∈out,0<=v/\v<s.length:=hov;dsimp only;refine .dec (λhlt=>?_) λhge=>.lft (.pure ⟨by omega,hov⟩)
 have hlt:k<s.length:=by omega
 have j3:∀ m:Int,0<=m->m<=out.length->Hs (Wg out (k:Int) m) (Rnd (λq:List Int×Int=>∃ k:Nat,q.2=(k:Int)/\k<=s.length/\q.1.length=k/\∀ v∈q.1,0<=v/\v<s.length) (λq=>s.length-q.2.toNat) (out,(k:Int)) (λout=>out.length=s.length/\∀ v∈out,0<=v/\v<s.length)):=by
  intro m h0 h1;unfold Wg;refine .chk ⟨h0,h1⟩ (.chk (by simp;omega) (.chk (by simp;omega) (.chk ⟨h0,h1⟩ (.chk (by simp;omega) ?_))))
  unfold Adh;rw[NP (by omega)]
  refine .cnt ⟨⟨k+1,rfl,hlt,by simp;omega,λv hv=>?_⟩,by grind⟩
  grind
 refine Hs.loop (λm=>0<=m/\m<=out.length) (λm=>m.toNat) ⟨by omega,by omega⟩ ?_
 rintro m ⟨h0,h1⟩;refine .dec (λhp=>?_) λ_=>.lft (j3 m h0 h1)
 rw[wrap64 (n:=m-1) (by omega) (by omega)]
 exact(Hs.ix (P:=λ_=>True) (by omega) (by omega) λ_ _=>trivial).bind λx _=>.chk (by omega) ((Hs.get (by omega) (by omega) λv hv=>hov v (aAB hv)).bind λv hv=>(Hs.ix (P:=λ_=>True) hv.1 hv.2 λ_ _=>trivial).bind λy _=>(Axd x y).bind λb _=>.cond (λ_=>.cnt ⟨⟨by omega,by omega⟩,by grind⟩) λ_=>.lft (j3 m h0 h1))
theorem Axb (s:List NQ) (hs:s.length<=500) (hg:∀ row∈g,row.length<=512) (frm:Int):Hs (AgQ s g frm) λq=>q.2=0->q.1.length=s.length:=by
 refine(ApT s).bind λe _=>.bne (λhe=>.pure λh=>(he h).elim) λ_=>(Awk (by omega) hg).bind λb hb=>.cond (λ_=>.pure λh=>by simp at h) λhb'=>?_
 have hgl:g.length=s.length:=by grind
 rw[AbN,aA];refine .cond (λ_=>.pure λh=>by simp at h) λ_=>?_
 refine .chk (by omega) (.chk (by omega) ((AyM s (by omega)).bind λord hord=>?_))
 refine Hs.loop (λq=>∃ k:Nat,q.2.2=(k:Int)/\k<=ord.length/\q.1.length=s.length/\q.2.1.length=s.length) (λq=>ord.length-q.2.2.toNat) ⟨0,rfl,aAD _,by simp,by simp⟩ ?_
 rintro⟨done,off,_⟩ ⟨k,rfl,hk,hdl,hfl⟩;replace hdl:done.length=s.length:=hdl;replace hfl:off.length=s.length:=hfl;dsimp only;refine .dec (λhlt=>?_) λ_=>.lft (.pure λ_=>hfl)
 have hlt:k<ord.length:=by omega
 refine .chk (by omega) ((Hs.get (by omega) (by omega) λv hv=>hord.2 v (aAB hv)).bind λv hv=>?_)
 refine Hs.loop (λq=>∃ j:Nat,q.2=(j:Int)/\j<=s.length/\q.1.length<=j) (λq=>s.length-q.2.toNat) ⟨0,rfl,aAD _,by simp⟩ ?_
 rintro⟨used,_⟩ ⟨j,rfl,hj,hul⟩;replace hul:used.length<=j:=hul;refine .dec (λhlt=>?_) λ_=>.lft ?_
 ·have hlt:j<s.length:=by omega
  have j5:∀ b:Bool,Hs (UT (j:Int) off s used b) (Rnd (λq:List NV×Int=>∃ j:Nat,q.2=(j:Int)/\j<=s.length/\q.1.length<=j) (λq=>s.length-q.2.toNat) (used,(j:Int)) (Rnd (λq:List Bool×List Int×Int=>∃ k:Nat,q.2.2=(k:Int)/\k<=ord.length/\q.1.length=s.length/\q.2.1.length=s.length) (λq=>ord.length-q.2.2.toNat) (done,off,(k:Int)) λq=>q.2=0->q.1.length=s.length)):=by
   intro b;unfold UT;rw[NP (by omega)]
   refine .cond (λ_=>.chk (by omega) ((Hs.get (P:=λ_=>True) (by omega) (by omega) λ_ _=>trivial).bind λa _=>(Hs.ix (P:=λ_=>True) (by omega) (by omega) λ_ _=>trivial).bind λx _=>.chk (by simp;omega) (.cnt ⟨⟨j+1,rfl,hlt,by simp;omega⟩,by grind⟩))) λ_=>.cnt ⟨⟨j+1,rfl,hlt,by grind⟩,by grind⟩
  refine .chk (by omega) ((Hs.get (P:=λ_=>True) (by omega) (by omega) λ_ _=>trivial).bind λd _=>.cond (λ_=>?_) λ_=>j5 false)
  refine(Hs.ix hv.1 (by omega) λx hx=>hg x (aAB hx)).bind λx hx=>?_
  grind [AiV]
 ·refine(Hs.ix (P:=λ_=>True) hv.1 hv.2 λ_ _=>trivial).bind λx _=>(Hs.ix (P:=λ_=>True) hv.1 hv.2 λ_ _=>trivial).bind λy _=>(AAJ used (by omega) frm _ _).bind λq _=>.bne (λhe=>.lft (.pure λh=>(he h).elim)) λ_=>?_
  refine .chk (by omega) ((Hs.get (P:=λ_=>True) (by omega) (by omega) λ_ _=>trivial).bind λ_ _=>.chk (by omega) ((Hs.get (P:=λ_=>True) (by omega) (by omega) λ_ _=>trivial).bind λ_ _=>?_))
  unfold Aby;rw[NP (by omega)]
  exact .cnt ⟨⟨k+1,rfl,hlt,by simp_all,by simp_all⟩,by grind⟩
theorem AAI (s:List NQ) (hs:s.length<=1000) (off:List Int):Hs (AlS s off) λ_=>True:=by
 refine Hs.loop (λq=>∃ k:Nat,q.2=(k:Int)/\k<=s.length) (λq=>s.length-q.2.toNat) ⟨0,rfl,aAD _⟩ ?_
 rintro⟨n,_⟩ ⟨k,rfl,hk⟩;refine .dec (λhlt=>.dec (λhlt2=>?_) λ_=>.lft (.pure trivial)) λ_=>.lft (.pure trivial)
 have hlt:k<s.length:=by omega
 unfold AgU;rw[NP (by omega)]
 exact(Hs.ix (P:=λ_=>True) (by omega) (by omega) λ_ _=>trivial).bind λ_ _=>(Hs.ix (P:=λ_=>True) (by omega) (by omega) λ_ _=>trivial).bind λ_ _=>.cnt ⟨⟨k+1,rfl,hlt⟩,by grind⟩
theorem Axx (hi:ixO p.Funcs i=some f) (hl:f.Code.length<=10000) (hs:f.Slots.length<=500) (hc:∀ x∈f.Code,x.Op=22->0<=x.A/\x.A<p.Funcs.length) (al:Int) (off:List Int):Hs (Acr p i al off) λ_=>True:=by
 unfold Acr;rw[hi,aA];refine .bne (λ_=>.pure trivial) λho=>?_
 refine Hs.loop (λq=>∃ k:Nat,q=(k:Int)/\k<=f.Slots.length) (λq=>f.Slots.length-q.toNat) ⟨0,rfl,aAD _⟩ ?_
 rintro _ ⟨k,rfl,hk⟩;refine .dec (λhlt=>?_) λ_=>.lft ?_
 ·have hlt:k<f.Slots.length:=by omega
  rw[NP (by omega)]
  exact(Hs.ix (P:=λ_=>True) (by omega) (by omega) λ_ _=>trivial).bind λ_ _=>(Hs.ix (P:=λ_=>True) (by omega) (by omega) λ_ _=>trivial).bind λ_ _=>(Ala _).bind λ_ _=>.cond (λ_=>.lft (.pure trivial)) λ_=>.cnt ⟨⟨k+1,rfl,hlt⟩,by grind⟩
 ·exact(AvJ hi hl hc).bind λa _=>(AAI _ (by omega) off).bind λe _=>(Azs _ _).bind λq _=>.bne (λ_=>.pure trivial) λ_=>.dec (λ_=>.pure trivial) λ_=>.chk (by simp;omega) (.pure trivial)
theorem AqI:Lib.compact ([]:List Int)=[]:=by simp[Lib.compact,Lib.compactUpTo]
theorem AqJ (a:Int):Lib.compact [a]=[a]:=by simp[Lib.compact,Lib.compactUpTo,aAa,Lib.keeps]
theorem Amf (a b:Int):Lib.compact [a,b]=if a=b then[a]else[a,b]:=by
 by_cases h:a=b
 ·simp_all[Lib.compact,Lib.compactUpTo,aAa,Lib.keeps]
 ·have h':¬ b=a:=λe=>h e.symm
  simp_all[Lib.compact,Lib.compactUpTo,aAa,Lib.keeps]
theorem Avc (a:Int):AbD [a]=[a]:=by simp[AbD]
theorem Avb:AbD []=[]:=by simp[AbD]
theorem Azb (a b:Int):AbD [a,b]=if a<=b then[a,b]else[b,a]:=by
 unfold AbD List.mergeSort
 by_cases h:a<=b<;>simp[List.MergeSort.Internal.splitInTwo,h]
theorem AyA (h:f.Code[k]? =some x) (hk:k<9223372036854775807):AfH f (k:Int)=some (QJ x k):=by
 obtain⟨hl,hx⟩:=aAC.1 h;have hnl:¬ f.Code.length<=k:=by omega
 have w:IntKind.i64.wrap ((k:Int)+1)=(k:Int)+1:=wrap64 (by omega) (by omega)
 unfold AfH AbY Zm QJ SO;obtain⟨op,a,b,c,i⟩:=x
 by_cases h20:op=20
 ·subst h20;simp[hx,hl,hnl,show ¬ (k:Int)<0 by omega,Avc,AqJ]
 ·by_cases h23:op=23
  ·simp_all[Avb,AqI]
  ·by_cases h24:op=24
   ·simp_all[Avb,AqI]
   ·have e24:(op==24)=false:=by simp_all
    by_cases h21:op=21
    ·subst h21;simp[hx,hl,hnl,show ¬ (k:Int)<0 by omega,w,Azb]
     by_cases hb:b<(k:Int)+1
     ·simp[hb,show ¬ (k:Int)+1<=b by omega,Amf,show ¬ b=(k:Int)+1 by omega]
     ·by_cases hb':(k:Int)+1<b
      ·simp[hb,hb',show(k:Int)+1<=b by omega,Amf,show ¬ (k:Int)+1=b by omega]
      ·simp[Amf,show(k:Int)+1=b by omega]
    ·simp[hx,hl,hnl,show ¬ (k:Int)<0 by omega,w,e24,h20,h23,h24,h21,Avc,AqJ]
attribute [local simp] OO
theorem AuB (hs:s.Pairwise (· <·)) {n:Int} {h:s.length-1<s.length} (hl:s[s.length-1]<n):∀ v∈s,v<n:=by
 grind [List.getElem_of_mem,List.pairwise_iff_getElem]
theorem Azj (s:List Int) (f:Mk) (hs:s.length<=maxLen):Hs (Rv s f) λb=>(b=false↔Ov f.Slots.length s):=by
 have hm:maxLen<=9223372036854775807:=by decide
 unfold Rv;rw[AsU s (by omega),aA]
 by_cases hc:Wl none s=true
 ·have hset:=(Akg s).1 hc;rw[hc];refine .dec (λhp=>?_) λhp=>?_
  ·have hi:s.length-1<s.length:=by omega
   have w:IntKind.i64.wrap ((s.length:Int)-1)=((s.length-1:Nat):Int):=by grind [wrap64]
   rw[w,OE,aAA hi,aA];refine .pure ⟨λh=>⟨hset,AuB hset.1 (h:=hi) (by simp_all)⟩,λh=>?_⟩
   have:=h.2 _ (aAF hi);simp;omega
  ·have:s=[]:=aAQ.1 (by omega)
   subst this;exact .pure ⟨λ_=>Ov.nil _,λ_=>rfl⟩
 ·have hc':Wl none s=false:=by simp_all
  rw[hc'];exact .pure ⟨λh=>(by cases h),λh=>(hc ((Akg s).2 h.1)).elim⟩
theorem Atc (f:Mk) (l:NT) (hl:l.Out.length<=maxLen) (hr:∀ s∈l.Out,s.length<=maxLen):Hs (TW f l) λb=>(b=true↔Rj f l.Out):=by
 have hm:maxLen<=9223372036854775807:=by decide
 refine .beq (λhe=>?_) λhne=>.pure ⟨λh=>(by cases h),λh=>(hne (by rw[h.1])).elim⟩
 have he:l.Out.length=f.Code.length:=by omega
 have key:Hs (PS l.Out f) λi=>(0<=i↔¬ ∀ s∈l.Out,Ov f.Slots.length s):=by
  refine Hs.loop (λi=>∃ k:Nat,i=(k:Int)/\k<=l.Out.length/\∀ (j:Nat) s,j<k->l.Out[j]? =some s->Ov f.Slots.length s) (λi=>l.Out.length-i.toNat) ⟨0,rfl,aAD _,λj s h=>absurd h (aAI _)⟩ ?_
  rintro _ ⟨k,rfl,hk,hall⟩;refine .dec (λhlt=>?_) λhge=>?_
  ·have hlt:k<l.Out.length:=by omega
   rw[OE,aAA hlt,aA];refine(Azj _ f (hr _ (aAF hlt))).bind λb hb=>.cond (λh=>?_) λh=>?_
   ·refine .lft (.pure ⟨λ_ hh=>?_,λ_=>by omega⟩)
    simp_all
   ·rw[NP (by omega)]
    refine .cnt ⟨⟨k+1,rfl,hlt,λj s hj hs=>?_⟩,by grind⟩
    grind
  ·refine .lft (.pure ⟨λh=>by omega,λh=>(h λs hs=>?_).elim⟩)
   grind [aAH]
 refine Hs.bind (P:=λb=>(b=true↔¬ ∀ s∈l.Out,Ov f.Slots.length s)) (key.bind λi hi=>.pure (by simp_all)) λb hb=>.pure ?_
 constructor
 ·intro h;have hb':b=false:=by simp_all
  refine⟨he,λs hs=>?_⟩
  simp_all
 ·intro h;have:¬ b=true:=λhbt=>hb.1 hbt h.2
  simp_all
theorem AuU (f:Mk) (l:NT) (hl:l.Out.length<=maxLen) (hr:∀ s∈l.Out,s.length<=maxLen):Hs (Aeu f l) λb=>(b=true↔Rj f l.Out):=by
 have hm:maxLen<=9223372036854775807:=by decide
 refine .bne (λhne=>.pure ⟨λh=>(by cases h),λh=>(hne (by rw[h.1])).elim⟩) λhe=>?_
 have he:l.Out.length=f.Code.length:=by omega
 refine Hs.loop (λi=>∃ k:Nat,i=(k:Int)/\k<=l.Out.length/\∀ (j:Nat) s,j<k->l.Out[j]? =some s->Ov f.Slots.length s) (λi=>l.Out.length-i.toNat) ⟨0,rfl,aAD _,λj s h=>absurd h (aAI _)⟩ ?_
 rintro _ ⟨k,rfl,hk,hall⟩;refine .dec (λhlt=>?_) λhge=>?_
 ·have hlt:k<l.Out.length:=by omega
  have hg:l.Out[k]? =some l.Out[k]:=aAA hlt;have hlen:=hr _ (aAF hlt);rw[OE,hg,aA,Aug _ (by omega),aA]
  have next:Ov f.Slots.length l.Out[k]->Hs (cnt (R:=Bool) (IntKind.i64.wrap ((k:Int)+1))) (Rnd (λi:Int=>∃ k:Nat,i=(k:Int)/\k<=l.Out.length/\∀ (j:Nat) s,j<k->l.Out[j]? =some s->Ov f.Slots.length s) (λi=>l.Out.length-i.toNat) (k:Int) λb=>(b=true↔Rj f l.Out)):=by
   intro hset;rw[NP (by omega)]
   refine .cnt ⟨⟨k+1,rfl,hlt,λj s hj hs=>?_⟩,by grind⟩
   grind
  have stop:¬ Ov f.Slots.length l.Out[k]->((false:Bool)=true↔Rj f l.Out):=λhn=>⟨λh=>(by cases h),λh=>(hn (h.2 _ (aAF hlt))).elim⟩
  by_cases hc:Wl none l.Out[k]=true
  ·have hset:=(Akg _).1 hc;rw[hc];simp only[aAT,cond_false,aA];refine .dec (λhp=>?_) λhp=>?_
   ·have hi:l.Out[k].length-1<l.Out[k].length:=by omega
    have w:IntKind.i64.wrap ((l.Out[k].length:Int)-1)=((l.Out[k].length-1:Nat):Int):=by grind [wrap64]
    rw[w,OE,aAA hi,aA];refine .dec (λh=>.lft (.pure (stop λhh=>?_))) λh=>next ⟨hset,AuB hset.1 (h:=hi) (by omega)⟩
    have:=hh.2 _ (aAF hi);omega
   grind [aAQ,Ov.nil]
  ·have hc':Wl none l.Out[k]=false:=by simp_all
   rw[hc'];exact .lft (.pure (stop λh=>hc ((Akg _).2 h.1)))
 ·refine .lft (.pure ⟨λ_=>⟨he,λs hs=>?_⟩,λ_=>rfl⟩)
  grind [aAH]
def VM (f:Mk) (l:List (List Int)) (k:Int):List Int :=
 (QJ (NF f k) k).foldl (λo j=>QD o ((inN (NF f j) (NY l j)).filter λv=>!decide (v∈NY l k))) []
theorem Rj.at (h:Rj f l) {j:Int} (h0:0<=j) (h1:j<f.Code.length):l[j.toNat]? =some (NY l j)/\Ov f.Slots.length (NY l j):=by
 have hl:j.toNat<l.length:=by have:=h.1;omega
 have:l[j.toNat]? =some (NY l j):=by grind [NY]
 exact⟨this,h.2 _ (aAB this)⟩
theorem Oi.at (_h:Oi f) {j:Int} (h0:0<=j) (h1:j<f.Code.length):f.Code[j.toNat]? =some (NF f j)/\NF f j∈f.Code:=by
 grind [NF]
theorem Oi.AAl (h:Oi f) (hx:x∈f.Code):∀ v∈Pc x,0<=v/\v<512:=λv hv=>by have:=h.uses x hx v hv;have:=h.slots;omega
theorem ApF (hf:Oi f) (hl:Rj f l) {k j:Int} (_hk:0<=k/\k<f.Code.length) (hj:0<=j/\j<f.Code.length) {o:List Int} (ho:Ov f.Slots.length o) :
  Ov f.Slots.length (QD o ((inN (NF f j) (NY l j)).filter λv=>!decide (v∈NY l k)))/\∀ v,v∈QD o ((inN (NF f j) (NY l j)).filter λv=>!decide (v∈NY l k))↔v∈o\/(v∈inN (NF f j) (NY l j)/\v∉NY l k):=by
 have hsl:=hf.slots;obtain⟨g1,g2⟩:=AhD hf (hf.at hj.1 hj.2).2 (hl.at hj.1 hj.2).2;obtain⟨g3,g4⟩:=VQ (n:=f.Slots.length) (by omega) (b:=(inN (NF f j) (NY l j)).filter λv=>!decide (v∈NY l k)) ho λx hx=>⟨(g1.1.2 x (aAV.1 hx).1).1,g1.2 x (aAV.1 hx).1⟩
 exact⟨g3,λv=>by simp_all⟩
theorem Ath {f:Mk} (hf:Oi f) {l:List (List Int)} (hl:Rj f l) {k:Int} (hk:0<=k/\k<f.Code.length):∀ {js:List Int} {o:List Int},(∀ j∈js,0<=j/\j<f.Code.length)->Ov f.Slots.length o ->
  Ov f.Slots.length (js.foldl (λo j=>QD o ((inN (NF f j) (NY l j)).filter λv=>!decide (v∈NY l k))) o)/\∀ v,v∈js.foldl (λo j=>QD o ((inN (NF f j) (NY l j)).filter λv=>!decide (v∈NY l k))) o↔v∈o\/∃ j∈js,v∈inN (NF f j) (NY l j)/\v∉NY l k
 | [],o,_,ho=>⟨ho,λv=>by simp⟩
 | j::js,o,hj,ho=>by
  obtain⟨h1,h2⟩:=ApF hf hl hk (hj j (aAL ..)) ho;obtain⟨h5,h6⟩:=Ath hf hl hk (λq hq=>hj q (aAN _ hq)) h1
  grind
theorem Arl (hf:Oi f) (hl:Rj f l) (hk:k<f.Code.length):Ov f.Slots.length (VM f l k)/\∀ v,v∈VM f l k↔∃ j∈QJ (NF f k) k,v∈inN (NF f j) (NY l j)/\v∉NY l k:=by
 have hx:f.Code[k]? =some (NF f k):=by grind [NF]
 obtain⟨h1,h2⟩:=Ath hf hl (k:=(k:Int)) ⟨by omega,by omega⟩ (hf.next k _ hx) (Ov.nil _)
 grind [VM]
theorem AvR (x:Lo) (k:Int):(QJ x k).length<=2:=by grind [QJ]
theorem Awv (hf:Oi f) {l:NT} (hl:Rj f l.Out) (hk:k<f.Code.length):Pj f k l [] l k=some (true,VM f l.Out k):=by
 have hlen:=hf.len';have hx:f.Code[k]? =some (NF f k):=by grind [NF]
 have hn:=hf.next k _ hx;have h2:=AvR (NF f k) k;obtain⟨hk1,hk2⟩:=hl.at (j:=(k:Int)) (by omega) (by omega)
 simp only[aAE]at hk1;unfold Pj;rw[AyA hx (by omega),aA]
 have:=SI (body:=λs:List Int×Int=>ON (QJ (NF f k) k) f l l k s.1 s.2) (QJ (NF f k) k) (λ(o:List Int) i=>(o,i)) (λo _=>Ov f.Slots.length o)
  (λo js=>some (true,js.foldl (λo j=>QD o ((inN (NF f j) (NY l.Out j)).filter λv=>!decide (v∈NY l.Out k))) o))
  (λo _=>⟨_,by simp[ON];rfl,by simp⟩) (λo i j r ho hd hi hj=>by
   left;have wi:=NP (show i<9223372036854775807 by omega)
   have hjm:=hn j (aAB hj);obtain⟨c1,c2⟩:=hf.at hjm.1 hjm.2;obtain⟨o1,o2⟩:=hl.at hjm.1 hjm.2;obtain⟨g1,g2⟩:=ApF hf hl (k:=(k:Int)) ⟨by omega,by omega⟩ hjm ho
   obtain⟨s1,s2⟩:=AhD hf c2 o2;have hsl:=hf.slots;have e1:=AAH o2.1 (hf.AAl c2);have e2:=Avo s1.1 hk2.1;have e3:=Amd ho.1 (b:=(inN (NF f j) (NY l.Out j)).filter λv=>!decide (v∈NY l.Out k)) (λx hx=>by have:=s1.1.2 x (aAV.1 hx).1;exact this) (by have:=(s1.1.filter λv=>!decide (v∈NY l.Out k)).length_le;omega)
   obtain⟨_,hje⟩:=aAC.1 hj;refine⟨_,g1,?_,rfl⟩
   simp_all[ON,TP,Rp,Qn]) [] (Ov.nil _)
 exact this
theorem AvG (hf:Oi f) {l:NT} (hl:Rj f l.Out) (hk:k<f.Code.length):AaK f l k=some (VM f l.Out k):=by
 have hlen:=hf.len';have hx:f.Code[k]? =some (NF f k):=by grind [NF]
 have hn:=hf.next k _ hx;have h2:=AvR (NF f k) k;obtain⟨hk1,hk2⟩:=hl.at (j:=(k:Int)) (by omega) (by omega)
 simp only[aAE]at hk1;unfold AaK;rw[AuT hx (by omega),aA]
 have:=SI (body:=λs:List Int×Int=>Uc (QJ (NF f k) k) f l k s.1 s.2) (QJ (NF f k) k) (λ(o:List Int) i=>(o,i)) (λo _=>Ov f.Slots.length o)
  (λo js=>some (js.foldl (λo j=>QD o ((inN (NF f j) (NY l.Out j)).filter λv=>!decide (v∈NY l.Out k))) o))
  (λo _=>⟨_,by simp[Uc];rfl,by simp⟩) (λo i j r ho hd hi hj=>by
   left;have wi:=NP (show i<9223372036854775807 by omega)
   have hjm:=hn j (aAB hj);obtain⟨c1,c2⟩:=hf.at hjm.1 hjm.2;obtain⟨o1,o2⟩:=hl.at hjm.1 hjm.2;obtain⟨g1,g2⟩:=ApF hf hl (k:=(k:Int)) ⟨by omega,by omega⟩ hjm ho
   obtain⟨s1,s2⟩:=AhD hf c2 o2;have hsl:=hf.slots;have e1:=Azl (NF f j) (NY l.Out j) (by have:=o2.1.length_le;omega)
   have e2:=AxO (inN (NF f j) (NY l.Out j)) (NY l.Out k) (by have:=s1.1.length_le;omega) (by have:=hk2.1.length_le;omega)
   have e3:=union_eq o ((inN (NF f j) (NY l.Out j)).filter λv=>!decide (v∈NY l.Out k)) (by have:=(s1.1.filter λv=>!decide (v∈NY l.Out k)).length_le;have:=ho.1.length_le;omega)
   obtain⟨_,hje⟩:=aAC.1 hj;refine⟨_,g1,?_,rfl⟩
   simp_all[Uc,Qn]) [] (Ov.nil _)
 exact this
def Akl (f:Mk) (l:List (List Int)) (r:Int×Int×Bool):Prop :=
 (Rj f l/\∃ (k:Nat) (v:Int),k<f.Code.length/\(∀ j:Nat,j<k->VM f l j=[])/\(VM f l k)[0]? =some v/\r=((k:Int),v,true)) \/
 ((Rj f l->∀ j:Nat,j<f.Code.length->VM f l j=[])/\r=(0,0,false))
theorem Akl.unique {r q:Int×Int×Bool} (h:Akl f l r) (k:Akl f l q):r=q:=by
 rcases h with⟨h0,i,v,h1,h2,h3,rfl⟩|⟨h1,rfl⟩<;>rcases k with⟨k0,j,u,k1,k2,k3,rfl⟩|⟨k1,rfl⟩
 all_goals grind
def Acc (f:Mk) (l:List (List Int)):Prop:=Rj f l/\∀ j:Nat,j<f.Code.length->VM f l j=[]
theorem Akl.acc {r:Int×Int×Bool} (h:Akl f l r) (hl:Rj f l):r.2.2=false↔Acc f l:=by
 rcases h with⟨h0,i,v,h1,h2,h3,rfl⟩|⟨h1,rfl⟩
 ·exact⟨λh=>(by cases h),λh=>by rw[h.2 i h1]at h3;cases h3⟩
 ·exact⟨λ_=>⟨hl,h1 hl⟩,λ_=>rfl⟩
def Qg (l:List (List Int)):Prop:=l.length<=maxLen/\∀ s∈l,s.length<=maxLen
theorem Ayz (hf:Oi f) {l:NT} (hl:Qg l.Out):Hs (XZ f l) (Akl f l.Out):=by
 have hlen:=hf.len';refine(Atc f l hl.1 hl.2).bind λb hb=>.cond (λh=>?_) λh=>?_
 ·have hb':¬ b=true:=by simp_all
  exact .pure (.inr ⟨λhh=>(hb' (hb.2 hh)).elim,rfl⟩)
 ·have hb':b=true:=by simp_all
  have hok:=hb.1 hb';refine Hs.loop (λi=>∃ k:Nat,i=(k:Int)/\k<=f.Code.length/\∀ j:Nat,j<k->VM f l.Out j=[]) (λi=>f.Code.length-i.toNat) ⟨0,rfl,aAD _,λj h=>absurd h (aAI _)⟩ ?_
  rintro _ ⟨k,rfl,hk,hall⟩;refine .dec (λhlt=>?_) λhge=>?_
  ·have hlt:k<f.Code.length:=by omega
   rw[show Zo l=some l from rfl,aA,Awv hf hok hlt,aA]
   refine .dec (λhp=>?_) λhp=>?_
   ·have hp:0<(VM f l.Out k).length:=by simp_all
    simp only[AyD];have hg:(VM f l.Out k)[0]? =some ((VM f l.Out k)[0]):=aAA hp;rw[hg,aA];exact .lft (.pure (.inl ⟨hok,k,_,hlt,hall,hg,rfl⟩))
   ·rw[NP (by omega)]
    refine .cnt ⟨⟨k+1,rfl,hlt,λj hj=>?_⟩,by grind⟩
    grind [aAQ]
  ·exact .lft (.pure (.inr ⟨λ_ j hj=>hall j (by omega),rfl⟩))
theorem AxN (hf:Oi f) {l:NT} (hl:Qg l.Out):Hs (AiD f l) (Akl f l.Out):=by
 have hlen:=hf.len';refine(AuU f l hl.1 hl.2).bind λb hb=>.cond (λh=>?_) λh=>?_
 ·have hb':¬ b=true:=by simp_all
  exact .pure (.inr ⟨λhh=>(hb' (hb.2 hh)).elim,rfl⟩)
 ·have hb':b=true:=by simp_all
  have hok:=hb.1 hb';refine Hs.loop (λi=>∃ k:Nat,i=(k:Int)/\k<=f.Code.length/\∀ j:Nat,j<k->VM f l.Out j=[]) (λi=>f.Code.length-i.toNat) ⟨0,rfl,aAD _,λj h=>absurd h (aAI _)⟩ ?_
  rintro _ ⟨k,rfl,hk,hall⟩;refine .dec (λhlt=>?_) λhge=>?_
  ·have hlt:k<f.Code.length:=by omega
   rw[AvG hf hok hlt,aA];refine .dec (λhp=>?_) λhp=>?_
   ·have hp:0<(VM f l.Out k).length:=by omega
    refine .chk (by omega) ?_
    have hg:(VM f l.Out k)[0]? =some ((VM f l.Out k)[0]):=aAA hp;rw[show(0:Int).toNat=0 from rfl,hg,aA]
    exact .lft (.pure (.inl ⟨hok,k,_,hlt,hall,hg,rfl⟩))
   ·rw[NP (by omega)]
    refine .cnt ⟨⟨k+1,rfl,hlt,λj hj=>?_⟩,by grind⟩
    grind [aAQ]
  ·exact .lft (.pure (.inr ⟨λ_ j hj=>hall j (by omega),rfl⟩))
theorem Ard (hf:Oi f) {l:NT} (hl:Qg l.Out):Hs (Se f l) λe=>(e=0\/e=11)/\(e=0↔Acc f l.Out):=by
 refine(Atc f l hl.1 hl.2).bind λb hb=>.cond (λh=>?_) λh=>?_
 ·have hb':¬ b=true:=by simp_all
  exact .pure ⟨.inr rfl,λh=>by omega,λh=>(hb' (hb.2 h.1)).elim⟩
 ·have hb':b=true:=by simp_all
  refine(Ayz hf hl).bind λr hr=>.cond (λh=>.pure ⟨.inr rfl,λh=>by omega,λh'=>?_⟩) λh=>.pure ⟨.inl rfl,λ_=>(hr.acc (hb.1 hb')).1 h,λ_=>rfl⟩
  rw[(hr.acc h'.1).2 h']at h;cases h
theorem Ajb (hf:Oi f) {l:NT} (hl:Qg l.Out):Hs (VW f l) λe=>(e=0\/e=11)/\(e=0↔Acc f l.Out):=by
 refine(AxN hf hl).bind λr hr=>.cond (λh=>.pure ⟨.inr rfl,λh=>by omega,λh'=>?_⟩) λh=>?_
 ·rw[(hr.acc h'.1).2 h']at h;cases h
 ·refine(AuU f l hl.1 hl.2).bind λb hb=>.cond (λh=>?_) λh2=>?_
  ·have hb':¬ b=true:=by simp_all
   exact .pure ⟨.inr rfl,λh=>by omega,λh=>(hb' (hb.2 h.1)).elim⟩
  ·have hb':b=true:=by simp_all
   exact .pure ⟨.inl rfl,λ_=>(hr.acc (hb.1 hb')).1 h,λ_=>rfl⟩
theorem Rj.len (hf:Oi f) (h:Rj f l):Qg l:=by
 have hm:(100000:Nat)<=maxLen:=by decide
 have:=hf.len';have:=h.1;exact⟨by omega,λs hs=>by have:=(h.2 s hs).1.length_le;omega⟩
theorem Azt (hf:Oi f) (hl:Rj f l):Acc f l↔LE (Uw f l) l:=by
 constructor
 ·rintro⟨_,h⟩ k s t hs ht v hv;have hk:k<f.Code.length:=by have:=(aAC.1 ht).1;have:=hl.1;omega
  have e1:s=AaV f l k:=by grind [Uw]
  have e2:t=NY l k:=by grind [NY]
  subst e1 e2;rw[(AeA hf hl hk).2]at hv;obtain⟨j,hj,hv⟩:=hv;refine aAX λhn=>?_
  have:v∈VM f l k:=((Arl hf hl hk).2 v).2 ⟨j,hj,hv,hn⟩;simp_all
 ·intro h;refine⟨hl,λk hk=>?_⟩
  refine List.eq_nil_iff_forall_not_mem.2 λv hv=>?_
  obtain⟨j,hj,h1,h2⟩:=((Arl hf hl hk).2 v).1 hv;refine h2 (h k (AaV f l k) (NY l k) (by grind [Uw]) ?_ v (((AeA hf hl hk).2 v).2 ⟨j,hj,h1⟩))
  have:=(hl.at (j:=(k:Int)) (by omega) (by omega)).1
  simp_all
theorem Acc.mem (hf:Oi f) (h:Acc f l) (hk:k<f.Code.length) {j v:Int} (hj:j∈QJ (NF f k) k) (hv:v∈inN (NF f j) (NY l j)):v∈NY l k:=by
 refine aAX λhn=>?_
 have:v∈VM f l k:=((Arl hf h.1 hk).2 v).2 ⟨j,hj,hv,hn⟩;rw[h.2 k hk]at this;cases this
theorem Asl.acc (hf:Oi f) (h:Asl f l):Acc f l:=by
 rw[Azt hf h.ok,h.fix];intro k s t hs ht v hv;simp_all
def I64 (v:Int):Prop:=-9223372036854775808<=v/\v<=9223372036854775807
theorem AzM (n:Int):I64 (IntKind.i64.wrap n):=by
 grind [I64,IntKind.wrap,aAn,aAq]
def AiO (l:List (List Int)):Prop:=∀ s∈l,s.length<=512/\∀ v∈s,I64 v
def AbJ (l:List (List Int)):Prop:=∀ s∈l,OH s
theorem AbJ.rows (h:AbJ l):AiO l:=λs hs=>⟨(h s hs).length_le,λv hv=>by have:=(h s hs).2 v hv;grind [I64]⟩
theorem AbJ.set (h:AbJ l) (hs:OH s):AbJ (l.set k s):=by
 intro t ht;rcases aAP ht with h1|rfl
 ·exact h t h1
 ·exact hs
theorem OH.add (h:OH s) (n:Int):OH (RO n s):=by
 unfold RO;split
 ·exact h.Wx (by assumption)
 ·exact h
theorem AiO.len (hf:Oi f) (h1:l.length<=f.Code.length) (h2:AiO l):Qg l:=by
 have hm:(100000:Nat)<=maxLen:=by decide
 have:=hf.len';exact⟨by omega,λs hs=>by have:=(h2 s hs).1;omega⟩
def Ajo (x:Lo):Int×Bool:=if x.Op=16\/x.Op=17 then(x.A,true)else(0,false)
theorem Aki (x:Lo):QN x=some (Ajo x):=by
 grind [QN,Sf,Ajo]
def PW (f:Mk):Prop:=∀ x∈f.Code,(x.Op=16\/x.Op=17)->0<=x.A/\x.A<f.Slots.length
theorem Si.defs {most:Int} (h:Si ps i most f):PW f:=by
 intro x hx hop;obtain⟨k,hk⟩:=aAH hx;have hkl:=(aAC.1 hk).1
 by_cases hk1:k+1<f.Code.length
 ·have hins:=h.body k x hk hk1;cases hins with
  | store a b h0 h1 h2=>simp_all
  | move a b h0 h1 h2=>exact⟨h0.1,h0.2.1⟩
  | bin op a b c h1 h2 h3 h4 h5 h6=>grind
  | un op a h1 h2=>grind
  | _=>simp at hop
 ·have he:=h.last x (by grind)
  rcases he with rfl|⟨w,_,rfl⟩<;>simp at hop
def Aqc (x:Lo) (v:Int):Bool:=x.Op==17&&x.B==v
def Arm (_:Lo) (_:Int):Bool:=false
def AtT (mv:Lo->Int->Bool) (f:Mk) (l:List (List Int)) (k:Nat) (a v:Int):Prop :=
 a=(NF f k).A/\((NF f k).Op=16\/(NF f k).Op=17)/\¬ ((NF f k).Op=17/\(NF f k).A=(NF f k).B)/\v∈NY l k/\v≠a/\mv (NF f k) v=false
def AfR (mv:Lo->Int->Bool) (f:Mk) (l:List (List Int)) (k:Nat) (a v:Int):Prop:=∃ j<k,AtT mv f l j a v
def Ed (mv:Lo->Int->Bool) (f:Mk) (l:List (List Int)) (a v:Int):Prop:=AfR mv f l f.Code.length a v
def Ajg (mv:Lo->Int->Bool) (f:Mk) (l:List (List Int)) (k i:Nat) (a v:Int):Prop :=
 AfR mv f l k a v\/(a=(NF f k).A/\v∈(NY l k).take i/\v≠a/\mv (NF f k) v=false)
theorem Ata {a v:Int}:AfR mv f l (k+1) a v↔AfR mv f l k a v\/AtT mv f l k a v:=by
 constructor
 ·rintro⟨j,hj,h⟩
  by_cases e:j=k
  ·simp_all
  ·exact .inl ⟨j,by omega,h⟩
 ·rintro(⟨j,hj,h⟩|h)
  ·exact⟨j,by omega,h⟩
  ·exact⟨k,by omega,h⟩
theorem Axt {a v:Int}:Ajg mv f l k 0 a v↔AfR mv f l k a v:=by simp[Ajg]
theorem Ayx {a v:Int} (h1:(NF f k).Op=16\/(NF f k).Op=17) (h2:¬ ((NF f k).Op=17/\(NF f k).A=(NF f k).B)) :
  Ajg mv f l k (NY l k).length a v↔AfR mv f l (k+1) a v:=by
 grind [Ata,Ajg,AtT]
theorem AsY {i:Nat} {x a v:Int} (hx:(NY l k)[i]? =some x) :
  Ajg mv f l k (i+1) a v↔Ajg mv f l k i a v\/(a=(NF f k).A/\v=x/\x≠a/\mv (NF f k) x=false):=by
 grind [aAi,Ajg]
theorem AsZ {a v:Int} (h:((NF f k).Op≠16/\(NF f k).Op≠17)\/((NF f k).Op=17/\(NF f k).A=(NF f k).B)) :
  AfR mv f l (k+1) a v↔AfR mv f l k a v:=by
 rw[Ata];constructor
 ·rintro(h1|⟨_,h2,h3,_⟩)
  all_goals omega
 simp_all
theorem Axs {i:Nat} {x a v:Int} (hx:(NY l k)[i]? =some x) (h:x=(NF f k).A\/mv (NF f k) x=true) :
  Ajg mv f l k (i+1) a v↔Ajg mv f l k i a v:=by
 grind [AsY]
def AlF (m:List (List Bool)) (a v:Nat):Bool:=(((m[a]?).getD [])[v]?).getD false
def ApX (n:Nat) (m:List (List Bool)) (P:Int->Int->Prop):Prop :=
 m.length=n/\(∀ row∈m,row.length=n)/\∀ a v:Nat,a<n->v<n->(AlF m a v=true↔P a v\/P v a)
theorem ApX.congr {n:Nat} {P Q:Int->Int->Prop} (h:ApX n m P) (hq:∀ a v,Q a v↔P a v):ApX n m Q :=
 ⟨h.1,h.2.1,λa v ha hv=>by rw[h.2.2 a v ha hv,hq,hq]⟩
theorem AsX {n:Nat} (hl:m.length=n) {d:Nat} (hd:d<n) (r:List Bool) (a v:Nat):AlF (m.set d r) a v=if a=d then(r[v]?).getD false else AlF m a v:=by
 unfold AlF
 grind
theorem Auz {n:Nat} {r:List Bool} (hl:r.length=n) {v:Nat} (hv:v<n) (b:Nat):((r.set v true)[b]?).getD false=if b=v then true else(r[b]?).getD false:=by
 grind
theorem ApX.set {n:Nat} {P:Int->Int->Prop} (h:ApX n m P) {d v:Nat} {r1 r2:List Bool} (hd:d<n) (hv:v<n) (hne:d≠v) (h1:m[d]? =some r1) (h2:m[v]? =some r2) :
  ApX n ((m.set d (r1.set v true)).set v (r2.set d true)) (λa b=>P a b\/(a=d/\b=v)):=by
 obtain⟨hl,hr,hc⟩:=h;have l1:=hr _ (aAB h1);have l2:=hr _ (aAB h2);refine⟨by simp[hl],λrow hrow=>?_,λa b ha hb=>?_⟩
 ·grind
 ·rw[AsX (n:=n) (by simp[hl]) hv,AsX hl hd,Auz l2 hd,Auz l1 hv]
  have e1:(r1[b]?).getD false=AlF m d b:=by grind [AlF]
  have e2:(r2[b]?).getD false=AlF m v b:=by grind [AlF]
  grind
def QQ (n:Nat) (out:List (List Int)) (Q:Nat->Int->Prop):Prop:=out.length=n/\∀ (a:Nat) s,out[a]? =some s->Ov n s/\∀ v,v∈s↔Q a v
theorem QQ.congr {n:Nat} {out:List (List Int)} {P:Nat->Int->Prop} (h:QQ n out P) (hq:∀ a v,a<n->(Q a v↔P a v)):QQ n out Q :=
 ⟨h.1,λa s hs=>⟨(h.2 a s hs).1,λv=>by rw[(h.2 a s hs).2 v,hq a v (by have:=(aAC.1 hs).1;have:=h.1;omega)]⟩⟩
theorem QQ.ext {n:Nat} {o1 o2:List (List Int)} (h1:QQ n o1 Q) (h2:QQ n o2 Q):o1=o2:=by
 apply List.ext_getElem?;intro a
 by_cases ha:a<n
 ·have e1:o1[a]? =some (o1[a]'(by have:=h1.1;omega)):=aAA _
  have e2:o2[a]? =some (o2[a]'(by have:=h2.1;omega)):=aAA _
  rw[e1,e2,(h1.2 a _ e1).1.1.ext (h2.2 a _ e2).1.1 λv=>by rw[(h1.2 a _ e1).2 v,(h2.2 a _ e2).2 v]]
 ·rw[aAp (by have:=h1.1;omega),aAp (by have:=h2.1;omega)]
theorem QQ.nil (n:Nat) (hq:∀ a v,¬ Q a v):QQ n (List.replicate n []) Q :=
 ⟨by simp,λa s hs=>by
  grind [Ov.nil]⟩
theorem QQ.set {n:Nat} {out:List (List Int)} {P:Nat->Int->Prop} (h:QQ n out P) {d:Nat} (_hd:d<n) (hs:Ov n s) (h1:∀ v,v∈s↔Q d v) (h2:∀ a v,a≠d->(Q a v↔P a v)):QQ n (out.set d s) Q:=by
 refine⟨by simp[h.1],λa t ht=>?_⟩
 by_cases e:a=d
 ·grind
 ·rw[aAb (λh=>e h.symm)]at ht
  exact⟨(h.2 a t ht).1,λv=>by rw[(h.2 a t ht).2 v,h2 a v e]⟩
def AdT (mv:Lo->Int->Bool) (f:Mk) (l:List (List Int)) (r:List (List Int)×Int):Prop :=
 (r.2=0/\Acc f l/\QQ f.Slots.length r.1 λa v=>Ed mv f l a v\/Ed mv f l v a)\/(r.2=11/\¬ Acc f l/\r.1=[])
theorem AdT.unique {r q:List (List Int)×Int} (h:AdT mv f l r) (k:AdT mv f l q):r=q:=by
 obtain⟨r1,r2⟩:=r;obtain⟨q1,q2⟩:=q;rcases h with⟨h1,h2,h3⟩|⟨h1,h2,h3⟩<;>rcases k with⟨k1,k2,k3⟩|⟨k1,k2,k3⟩
 ·simp only at h1 k1 h3 k3;rw[h1,k1,h3.ext k3]
 all_goals simp_all
def Oa (to:List Int) (s:Int):Int:=(to[s.toNat]?).getD 0
def PK (f:Mk) (s:Int):Int:=((f.Slots[s.toNat]?).map NQ.Size).getD 0
def Akm (f:Mk) (to:List Int):Prop :=
 to.length=f.Slots.length/\∀ s:Nat,s<to.length->0<=Oa to s/\Oa to s<to.length/\PK f (Oa to s)=PK f s/\Oa to (Oa to s)=Oa to s
theorem Qu {s:Int} (h0:0<=s) (h:s<to.length):to[s.toNat]? =some (Oa to s):=by
 grind [Oa]
theorem Adl {s:Int} {x:NQ} (h:f.Slots[s.toNat]? =some x):x.Size=PK f s:=by
 simp[PK,h]
def Oh (keep:List Bool) (k:Nat):Bool:=(keep[k]?).getD true
def Rz (f:Mk) (r:NO):Prop :=
 Akm f r.To/\r.Keep.length=f.Code.length/\∀ k:Nat,k<f.Code.length->Oh r.Keep k=false->(NF f k).Op=16\/(NF f k).Op=17
theorem AAW {n:Nat} {out:List (List Int)} {P:Int->Int->Prop} (hs:QQ n out λa v=>P a v\/P v a) (hn:n<=500) {d y:Nat} (hd:d<n) (hy:y<n) (hne:d≠y) (t:Bool) {i:Nat} (hi:i<1000000) (p q r s:Bool) :
  ∃ out',SL ((d:Int),t) out (y:Int) (i:Int) p q r s=some (.inl (out',((i+1:Nat):Int)))/\QQ n out' λa v=>(P a v\/((a:Int)=d/\v=y))\/(P v a\/(v=d/\(a:Int)=y)):=by
 have e1:out[d]? =some (out[d]'(by have:=hs.1;omega)):=aAA _
 have e2:out[y]? =some (out[y]'(by have:=hs.1;omega)):=aAA _
 generalize out[d]'(by grind)=sd at e1
 generalize out[y]'(by grind)=sy at e2
 have q1:=hs.2 d _ e1;have q2:=hs.2 y _ e2;have a1:=q1.1.add (m:=(y:Int)) (by omega) (by omega)
 have a2:=q2.1.add (m:=(d:Int)) (by omega) (by omega)
 have m1:=(Ov.AlZ (m:=(y:Int)) q1.1 (by omega) (by omega)).2.2
 have m2:=(Ov.AlZ (m:=(d:Int)) q2.1 (by omega) (by omega)).2.2
 have e3:(out.set d (RO y sd))[y]? =some sy:=by simp_all
 have hl:=hs.1;have h1:0<=(d:Int)/\(d:Int)<out.length:=by omega
 have h2:0<=(y:Int)/\(y:Int)<out.length:=by omega
 have h3:0<=(y:Int)/\(y:Int)<(out.set d (RO y sd)).length:=by simp_all
 have w:=NP (show i<9223372036854775807 by omega)
 refine⟨(out.set d (RO y sd)).set y (RO d sy),by grind [SL,aAE,OO,Azz],by simp[hl],λa s hs'=>?_⟩
 by_cases ea:a=y
 ·grind
 ·rw[aAb (λh=>ea h.symm)]at hs'
  by_cases ed:a=d
  ·grind
  ·rw[aAb (λh=>ed h.symm)]at hs'
   refine⟨(hs.2 a s hs').1,λv=>?_⟩
   rw[(hs.2 a s hs').2 v]
   grind
def AtU (mv:Lo->Int->Bool) (f:Mk) (l:List (List Int)) (s:List (List Int)×Int):Prop :=
 ∃ k:Nat,s.2=(k:Int)/\k<=f.Code.length/\QQ f.Slots.length s.1 λa v=>AfR mv f l k a v\/AfR mv f l k v a
def Awd (mv:Lo->Int->Bool) (f:Mk) (l:List (List Int)) (k:Nat) (s:List (List Int)×Int):Prop :=
 ∃ i:Nat,s.2=(i:Int)/\i<=(NY l k).length/\QQ f.Slots.length s.1 λa v=>Ajg mv f l k i a v\/Ajg mv f l k i v a
theorem Atl (hf:Oi f) (hd:PW f) {l:NT} (hl:Qg l.Out) (b:Bool):Hs (Aew f l b) (AdT (bif b then Arm else Aqc) f l.Out):=by
 have hlen:=hf.len';have hsl:=hf.slots;refine(Ajb hf hl).bind λe he=>.bne (λh=>.pure (.inr ⟨he.1.resolve_left h,λha=>h (he.2.2 ha),rfl⟩)) λh=>?_
 have hacc:Acc f l.Out:=he.2.1 h;refine .chk (by omega) ?_
 generalize hmv:(bif b then Arm else Aqc)=mv
 refine Hs.loop (AtU mv f l.Out) (λs=>f.Code.length-s.2.toNat) ⟨0,rfl,aAD _,?_⟩ ?_
 ·exact QQ.nil _ λa v h=>by rcases h with⟨j,hj,_⟩|⟨j,hj,_⟩<;>omega
 rintro⟨out,_⟩ ⟨k,rfl,hk,hs⟩;refine .dec (λhlt=>?_) λhge=>.lft (.pure (.inl ⟨rfl,hacc,?_⟩))
 ·have hlt:k<f.Code.length:=by omega
  have hx:=hf.at (j:=(k:Int)) (by omega) (by omega)
  rw[aAE]at hx;have hrow:=hacc.1.at (j:=(k:Int)) (by omega) (by omega)
  rw[aAE]at hrow;simp only[OE,hx.1,aA,Aki];have next:∀ out',(QQ f.Slots.length out' λa v=>AfR mv f l.Out (k+1) a v\/AfR mv f l.Out (k+1) v a)->∀ a b c d e,Hs (Ud (k:Int) a b c d e out') (Rnd (AtU mv f l.Out) (λs=>f.Code.length-s.2.toNat) (out,(k:Int)) (AdT mv f l.Out)):=by
   intro out' h' a b c d e;unfold Ud;rw[NP (by omega)]
   exact .cnt ⟨⟨k+1,rfl,hlt,h'⟩,by grind⟩
  have inner:¬ ((NF f k).Op=17/\(NF f k).A=(NF f k).B)->Hs (ZD l (k:Int) (Ajo (NF f k)) b (NF f k) out) (Rnd (AtU mv f l.Out) (λs=>f.Code.length-s.2.toNat) (out,(k:Int)) (AdT mv f l.Out)):=by
   intro hnm
   by_cases hdef:(NF f k).Op=16\/(NF f k).Op=17
   ·have hdn:Ajo (NF f k)=((NF f k).A,true):=if_pos hdef;have hA:=hd _ hx.2 hdef;rw[hdn];have hlo:=hrow.2.1.length_le;refine Hs.loop (Awd mv f l.Out k) (λs=>(NY l.Out k).length-s.2.toNat) ⟨0,rfl,aAD _,hs.congr λa v _=>by grind [Axt]⟩ ?_
    rintro⟨out2,_⟩ ⟨i,rfl,hi,hs2⟩;unfold ZC;simp only[OE,hrow.1,aA];refine .dec (λhlt2=>?_) λhge2=>.lft (next _ (hs2.congr λa v _=>?_) _ _ _ _ _)
    ·have hlt2:i<(NY l.Out k).length:=by omega
     have hgx:(NY l.Out k)[i]? =some (NY l.Out k)[i]:=aAA _;have hxm:=aAF hlt2;generalize(NY l.Out k)[i]=x at hgx hxm;have hx0:=hrow.2.1.2 x hxm;have hxn:=hrow.2.2 x hxm;unfold AcZ;simp only[OE,hrow.1,hgx,aA];have skip:x=(NF f k).A\/mv (NF f k) x=true->Hs (cnt (out2,IntKind.i64.wrap ((i:Int)+1))) (Rnd (Awd mv f l.Out k) (λs=>(NY l.Out k).length-s.2.toNat) (out2,(i:Int)) (Rnd (AtU mv f l.Out) (λs=>f.Code.length-s.2.toNat) (out,(k:Int)) (AdT mv f l.Out))):=by
      intro hh;rw[NP (by omega)]
      exact .cnt ⟨⟨i+1,rfl,hlt2,hs2.congr λa v _=>by grind [Axs]⟩,by grind⟩
     have add:x≠(NF f k).A->mv (NF f k) x=false->∀ p q r s,Hs (SL ((NF f k).A,true) out2 x (i:Int) p q r s) (Rnd (Awd mv f l.Out k) (λs=>(NY l.Out k).length-s.2.toNat) (out2,(i:Int)) (Rnd (AtU mv f l.Out) (λs=>f.Code.length-s.2.toNat) (out,(k:Int)) (AdT mv f l.Out))):=by
      intro hne hmf p q r s;obtain⟨d,hde⟩:∃ d:Nat,(NF f k).A=(d:Int):=⟨_,(aAd hA.1).symm⟩;obtain⟨y,rfl⟩:∃ y:Nat,x=(y:Int):=⟨_,(aAd hx0.1).symm⟩;obtain⟨out',h1,h2⟩:=AAW (P:=Ajg mv f l.Out k i) hs2 (by omega) (d:=d) (y:=y) (by omega) (by omega) (by omega) true (i:=i) (by omega) p q r s
      rw[hde,h1];refine .pure ⟨⟨i+1,rfl,hlt2,h2.congr λa v _=>?_⟩,by grind⟩
      grind [AsY]
     refine .beq (λh=>skip (.inl h)) λhne=>?_
     subst hmv;cases b
     ·simp only[Bool.not_false,cond_true,cond_false] 
      grind [Aqc]
     ·simp only[aAT,cond_true,cond_false] ;exact add hne rfl _ _ _ _
    grind [Ayx]
   ·have hdn:Ajo (NF f k)=(0,false):=if_neg hdef;rw[hdn];have hs':=hs.congr (Q:=λa v=>AfR mv f l.Out (k+1) a v\/AfR mv f l.Out (k+1) v a) λa v _=>by grind [AsZ]
    refine Hs.loop (λs=>s=(out,0)) (λ_=>0) rfl ?_
    rintro _ rfl;unfold ZC;simp only[OE,hrow.1,aA,cond_false];exact .dec (λ_=>.lft (next _ hs' _ _ _ _ _)) λ_=>.lft (next _ hs' _ _ _ _ _)
  refine .beq (λh17=>.beq (λhab=>next _ ?_ _ _ _ _ _) λhab=>inner λhh=>hab hh.2) λh17=>inner λhh=>h17 hh.1
  simp_all[AsZ]
 ·have hk:k=f.Code.length:=by omega
  subst hk;exact hs
def AbH (f:Mk):Prop:=∀ x∈f.Code,x.Op=17->0<=x.A/\x.A<f.Slots.length/\0<=x.B/\x.B<f.Slots.length/\PK f x.A=PK f x.B
theorem Si.ApG {most:Int} (h:Si ps i most f):AbH f:=by
 intro x hx hop;obtain⟨k,hk⟩:=aAH hx;have hkl:=(aAC.1 hk).1
 by_cases hk1:k+1<f.Code.length
 ·have hins:=h.body k x hk hk1;cases hins with
  | move a b h0 h1 h2 =>
   obtain⟨q0,q1,x,y,e1,e2,e3⟩:=h0
   grind [PK]
  | bin op a b c h1 h2 h3 h4 h5 h6=>simp_all
  | un op a h1 h2=>simp_all
  | _=>simp at hop
 ·have he:=h.last x (by grind)
  rcases he with rfl|⟨w,_,rfl⟩<;>simp at hop
def ArB (f:Mk) (out:List Ph):Prop:=∀ p∈out,∃ x∈f.Code,x.Op=17/\p=⟨x.A,x.B⟩
theorem AzW (hlen:f.Code.length<=10000):Hs (Aev f) λout=>out.length<=10000/\ArB f out:=by
 unfold Aev;refine Hs.loop (λs=>∃ k:Nat,s.2=(k:Int)/\k<=f.Code.length/\s.1.length<=k/\ArB f s.1) (λs=>f.Code.length-s.2.toNat) ⟨0,rfl,aAD _,aAe _,λp hp=>by cases hp⟩ ?_
 rintro⟨out,_⟩ ⟨k,rfl,hk,hol,hmv⟩;replace hol:out.length<=k:=hol;replace hmv:ArB f out:=hmv;unfold AcY;refine .dec (λhlt=>?_) λhge=>.lft (.pure ⟨show out.length<=10000 by omega,hmv⟩)
 have hlt:k<f.Code.length:=by omega
 have hx:f.Code[k]? =some f.Code[k]:=aAA _;have hxm:=aAF hlt;generalize f.Code[k]=x at hx hxm;simp only[OE,hx,aA];have j3:∀ old:Bool,(old=false->x.Op=17)->Hs (ZB out x (k:Int) old) (Rnd (λs:List Ph×Int=>∃ k:Nat,s.2=(k:Int)/\k<=f.Code.length/\s.1.length<=k/\ArB f s.1) (λs=>f.Code.length-s.2.toNat) (out,(k:Int)) λout=>out.length<=10000/\ArB f out):=by
  intro old hold;refine Hs.loop (λs=>∃ i:Nat,s.2=(i:Int)/\i<=out.length/\(s.1=false->x.Op=17)) (λs=>out.length-s.2.toNat) ⟨0,rfl,aAD _,hold⟩ ?_
  rintro⟨old,_⟩ ⟨i,rfl,hi,hold⟩;refine .dec (λhlt2=>?_) λ_=>.lft ?_
  ·have hlt2:i<out.length:=by omega
   have hg:out[i]? =some out[i]:=aAA _;simp only[aAE];rw[NP (by omega)]
   refine .cond (λh=>.cnt ⟨⟨i+1,rfl,hlt2,λh'=>(by cases h')⟩,by grind⟩) λh=>.chk (by omega) ?_
   rw[hg,aA];exact .cnt ⟨⟨i+1,rfl,hlt2,λ_=>hold h⟩,by grind⟩
  ·unfold ZA;rw[NP (by omega)]
   refine .cond (λh=>.chk (by simp;omega) (.cnt ⟨⟨k+1,rfl,hlt,by simp;omega,λp hp=>?_⟩,by grind⟩)) λ_=>.cnt ⟨⟨k+1,rfl,hlt,by grind,hmv⟩,by grind⟩
   rcases aAK.1 hp with hp|hp
   ·exact hmv p hp
   grind
 grind
theorem Aqb (hl:to.length<=500) (s:Int):Hs (Xo to s) λl=>l.length<=to.length/\∀ t,t∈l↔∃ j:Nat,j<to.length/\t=(j:Int)/\Oa to j=s:=by
 refine Hs.loop (λz=>∃ k:Nat,z.2=(k:Int)/\k<=to.length/\z.1.length<=k/\∀ t,t∈z.1↔∃ j:Nat,j<k/\t=(j:Int)/\Oa to j=s) (λz=>to.length-z.2.toNat) ⟨0,rfl,aAD _,aAe _,λt=>⟨λh=>(by cases h),λ⟨j,h,_⟩=>absurd h (aAI _)⟩⟩ ?_
 rintro⟨l,_⟩ ⟨k,rfl,hk,hll,hm⟩;replace hll:l.length<=k:=hll;refine .dec (λhlt=>?_) λhge=>.lft (.pure ?_)
 ·have hlt:k<to.length:=by omega
  have hg:=Qu (to:=to) (s:=(k:Int)) (by omega) (by omega)
  rw[aAE]at hg;simp only[OE,hg,aA];rw[NP (by omega)]
  refine .beq (λh=>.chk (by simp;omega) (.cnt ⟨⟨k+1,rfl,hlt,by simp;omega,λt=>?_⟩,by grind⟩)) λh=>.cnt ⟨⟨k+1,rfl,hlt,by grind,λt=>?_⟩,by grind⟩
  all_goals grind
 ·have hk:k=to.length:=by omega
  subst hk;exact⟨hll,hm⟩
def AfO (g:List (List Int)) (to:List Int) (a b:Int):Prop:=∀ (x y:Nat) row,x<to.length->y<to.length->Oa to x=a->Oa to y=b->g[x]? =some row->(y:Int)∉row
theorem Aym {n:Nat} (hg:QQ n g Q) (htn:to.length=n) (hl:n<=500) (a b:Int):Hs (AiH g to a b) λr=>r=true->AfO g to a b:=by
 refine(Aqb (by omega) a).bind λxs hx=>(Aqb (by omega) b).bind λys hy=>?_
 have fin:(∀ x∈xs,∀ y∈ys,∀ row,g[x.toNat]? =some row->y∉row)->AfO g to a b:=by
  intro h x y row h1 h2 h3 h4 h5;exact h x ((hx.2 x).2 ⟨x,h1,rfl,h3⟩) y ((hy.2 y).2 ⟨y,h2,rfl,h4⟩) row (by simp_all)
 refine Hs.loop (λi=>∃ k:Nat,i=(k:Int)/\k<=xs.length/\∀ x∈xs.take k,∀ y∈ys,∀ row,g[x.toNat]? =some row->y∉row) (λi=>xs.length-i.toNat) ⟨0,rfl,aAD _,λx h=>by simp at h⟩ ?_
 rintro _ ⟨k,rfl,hk,hall⟩;refine .dec (λhlt=>?_) λhge=>.lft (.pure λ_=>fin λx hx=>hall x (by grind))
 have hlt:k<xs.length:=by omega
 have hgx:xs[k]? =some xs[k]:=aAA _;have hxm:=aAF hlt;have htk:xs.take (k+1)=xs.take k++[xs[k]]:=by simp_all
 generalize xs[k]=x at hgx hxm htk;obtain⟨jx,hjx,rfl,_⟩:=(hx.2 x).1 hxm;have hgl:=hg.1;have hrow:g[jx]? =some (g[jx]'(by omega)):=aAA _
 generalize g[jx]'(by omega)=row at hrow
 have hset:=(hg.2 jx row hrow).1;have hrl:=hset.1.length_le;refine Hs.loop (λi=>∃ m:Nat,i=(m:Int)/\m<=ys.length/\∀ y∈ys.take m,y∉row) (λi=>ys.length-i.toNat) ⟨0,rfl,aAD _,λx h=>by simp at h⟩ ?_
 rintro _ ⟨m,rfl,hm,hno⟩;refine .dec (λhlt2=>?_) λhge2=>.lft ?_
 ·have hlt2:m<ys.length:=by omega
  have hgy:ys[m]? =some ys[m]:=aAA _;have htm:ys.take (m+1)=ys.take m++[ys[m]]:=by simp_all
  generalize ys[m]=y at hgy htm;refine .chk (by omega) ?_
  simp only[aAE,hgx,aA,OE,hrow];refine .chk (by omega) ?_
  rw[hgy,aA,AiV _ _ (by omega),aA,NP (by omega)]
  refine .dec (λ_=>.lft (.lft (.pure λh=>(by cases h)))) λh=>.cnt ⟨⟨m+1,rfl,hlt2,λz hz=>?_⟩,by grind⟩
  grind
 ·unfold Ada;rw[NP (by omega)]
  refine .cnt ⟨⟨k+1,rfl,hlt,λz hz y hy row' hr=>?_⟩,by grind⟩
  grind [aAE]
structure AfQ (f:Mk) (g:List (List Int)) (to:List Int):Prop where
 ok:Akm f to
 apart:∀ (x y:Nat) row,x<to.length->y<to.length->Oa to x=Oa to y->g[x]? =some row->(y:Int)∉row
def So (a b c:Int):Int:=if c=a\/c=b then TH a b else c
theorem AvQ (a b:Int):TH a b=a\/TH a b=b:=by grind [TH]
theorem AfQ.join (hg:QQ f.Slots.length g Q) (hsym:∀ (x y:Nat) r s,g[x]? =some r->g[y]? =some s->(y:Int)∈r->(x:Int)∈s) {to':List Int} (h:AfQ f g to) {a b:Int} (ha:0<=a/\a<f.Slots.length) (hb:0<=b/\b<f.Slots.length) (haa:Oa to a=a) (hbb:Oa to b=b) (hs:PK f a=PK f b) (hap:AfO g to a b) (hl:to'.length=to.length) (hto:∀ j:Nat,j<to.length->Oa to' j=So a b (Oa to j)):AfQ f g to':=by
 have htl:=h.ok.1;have hto2:∀ j:Int,0<=j->j<to.length->Oa to' j=So a b (Oa to j):=by
  intro j h0 h1;obtain⟨i,rfl⟩:∃ i:Nat,j=(i:Int):=⟨j.toNat,by omega⟩
  simp_all
 have hm:Oa to (TH a b)=TH a b/\0<=TH a b/\TH a b<f.Slots.length/\PK f (TH a b)=PK f a:=by
  grind [AvQ]
 have hj:So a b (TH a b)=TH a b:=by
  simp_all[So]
 refine⟨⟨by omega,λs hs'=>?_⟩,λx y row hx hy he hr hyr=>?_⟩
 ·obtain⟨q1,q2,q3,q4⟩:=h.ok.2 s (by omega)
  rw[hto s (by omega)]
  by_cases e:Oa to s=a\/Oa to s=b
  ·have ej:So a b (Oa to s)=TH a b:=by simp_all[So]
   grind
  simp_all[So]
 ·rw[hto x (by omega),hto y (by omega)]at he
  have hgl:=hg.1;have hrow:g[y]? =some (g[y]'(by omega)):=aAA _
  by_cases ex:Oa to x=a\/Oa to x=b<;>by_cases ey:Oa to y=a\/Oa to y=b
  ·rcases ex with ex|ex<;>rcases ey with ey|ey
   ·exact h.apart x y row (by omega) (by omega) (by rw[ex,ey]) hr hyr
   ·exact hap x y row (by omega) (by omega) ex ey hr hyr
   ·exact hap y x _ (by omega) (by omega) ey ex hrow (hsym x y _ _ hr hrow hyr)
   ·exact h.apart x y row (by omega) (by omega) (by rw[ex,ey]) hr hyr
  ·have e1:So a b (Oa to x)=TH a b:=by simp_all[So]
   have e2:So a b (Oa to y)=Oa to y:=by simp_all[So]
   grind [AvQ]
  ·simp_all[So,Oa,TH]
  ·have e1:So a b (Oa to y)=Oa to y:=by simp_all[So]
   have e2:So a b (Oa to x)=Oa to x:=by simp_all[So]
   rw[e1,e2]at he;exact h.apart x y row (by omega) (by omega) he hr hyr
theorem Awl (hlen:f.Code.length<=10000) (hsl:f.Slots.length<=500) (hml:AbH f) (hg:QQ f.Slots.length g Q) (hsym:∀ (x y:Nat) r s,g[x]? =some r->g[y]? =some s->(y:Int)∈r->(x:Int)∈s) (hirr:∀ (x:Nat) r,g[x]? =some r->(x:Int)∉r):Hs (Xn f g) λto=>AfQ f g to:=by
 unfold Xn;refine Hs.loop (λs=>∃ k:Nat,s.2=(k:Int)/\k<=f.Slots.length/\s.1.length=k/\∀ j:Nat,j<k->s.1[j]? =some (j:Int)) (λs=>f.Slots.length-s.2.toNat) ⟨0,rfl,aAD _,rfl,λj hj=>absurd hj (aAI _)⟩ ?_
 rintro⟨to,_⟩ ⟨k,rfl,hk,htl,hto⟩;replace htl:to.length=k:=htl;replace hto:∀ j:Nat,j<k->to[j]? =some (j:Int):=hto;refine .dec (λhlt=>?_) λhge=>.lft ?_
 ·have hlt:k<f.Slots.length:=by omega
  refine .chk (by simp;omega) ?_
  rw[NP (by omega)]
  refine .cnt ⟨⟨k+1,rfl,hlt,by simp[htl],λj hj=>?_⟩,by grind⟩
  grind
 have hkk:k=f.Slots.length:=by omega
 subst hkk;have hid:∀ j:Nat,j<f.Slots.length->Oa to j=(j:Int):=by
  grind [Oa]
 have hc0:AfQ f g to:=by
  refine⟨⟨htl,λs hs=>?_⟩,λx y row hx hy he hr hyr=>?_⟩
  all_goals grind
 clear hto hid;refine(AzW hlen).bind λmv hmv=>?_
 obtain⟨hmvl,hmv⟩:=hmv;refine Hs.loop (λs=>∃ i:Nat,s.2=(i:Int)/\i<=mv.length/\AfQ f g s.1) (λs=>mv.length-s.2.toNat) ⟨0,rfl,aAD _,hc0⟩ ?_
 clear hc0 htl hge;rintro⟨to,_⟩ ⟨i,rfl,hi,hc⟩;replace hc:AfQ f g to:=hc;have htl:=hc.ok.1;unfold Aan;refine .dec (λhlt=>?_) λ_=>.lft (.pure hc)
 have hlt:i<mv.length:=by omega
 have hgp:mv[i]? =some mv[i]:=aAA _;have hpm:=aAF hlt;generalize mv[i]=p at hgp hpm;obtain⟨x,hx,hop,rfl⟩:=hmv p hpm;obtain⟨a0,a1,b0,b1,hsz⟩:=hml x hx hop;have hA:=Qu (to:=to) (s:=x.A) a0 (by omega)
 have hB:=Qu (to:=to) (s:=x.B) b0 (by omega)
 simp only[aAE,hgp,aA,hA,hB];have skip:Hs (RF (i:Int) to) (Rnd (λs:List Int×Int=>∃ i:Nat,s.2=(i:Int)/\i<=mv.length/\AfQ f g s.1) (λs=>mv.length-s.2.toNat) (to,(i:Int)) λto=>AfQ f g to):=by
  unfold RF;rw[NP (by omega)]
  exact .cnt ⟨⟨i+1,rfl,hlt,hc⟩,by grind⟩
 refine .chk (by omega) (.chk (by omega) (.chk (by omega) (.chk (by omega) (.beq (λ_=>skip) λhne=>?_))))
 refine(Aym hg htl hsl (Oa to x.A) (Oa to x.B)).bind λr hr=>.cond (λ_=>skip) λhrt=>?_
 have hap:=hr (by simp_all)
 have nat:∀ {s:Int},0<=s->s<to.length->0<=Oa to s/\Oa to s<to.length/\PK f (Oa to s)=PK f s/\Oa to (Oa to s)=Oa to s:=by
  intro s h0 h1;obtain⟨j,rfl⟩:∃ j:Nat,s=(j:Int):=⟨s.toNat,by omega⟩
  exact hc.ok.2 j (by omega)
 obtain⟨qa1,qa2,qa3,qa4⟩:=nat a0 (by omega)
 obtain⟨qb1,qb2,qb3,qb4⟩:=nat b0 (by omega)
 generalize Oa to x.A=a at *;generalize Oa to x.B=b at *;unfold Aap;refine Hs.loop (λs=>∃ k:Nat,s.2=(k:Int)/\k<=to.length/\s.1.length=to.length/\∀ j:Nat,j<to.length->Oa s.1 j=if j<k then So a b (Oa to j)else Oa to j) (λs=>to.length-s.2.toNat) ⟨0,rfl,aAD _,rfl,λj _=>(by simp)⟩ ?_
 rintro⟨t2,_⟩ ⟨k,rfl,hk,h2l,h2⟩;replace h2l:t2.length=to.length:=h2l;replace h2:∀ j:Nat,j<to.length->Oa t2 j=if j<k then So a b (Oa to j)else Oa to j:=h2
 unfold Aao;refine .dec (λhlt2=>?_) λhge2=>.lft ?_
 ·have hlt2:k<to.length:=by simp_all
  have hgk:=Qu (to:=t2) (s:=(k:Int)) (by omega) (by omega)
  rw[h2 k hlt2,if_neg (Nat.lt_irrefl _)]at hgk;refine .chk (by omega) ?_
  rw[hgk,aA];have fin:∀ q:Bool,(q=true↔Oa to k=a\/Oa to k=b)->Hs (Ue (k:Int) t2 a b q) (Rnd (λs:List Int×Int=>∃ k:Nat,s.2=(k:Int)/\k<=to.length/\s.1.length=to.length/\∀ j:Nat,j<to.length->Oa s.1 j=if j<k then So a b (Oa to j)else Oa to j) (λs=>to.length-s.2.toNat) (t2,(k:Int)) (Rnd (λs:List Int×Int=>∃ i:Nat,s.2=(i:Int)/\i<=mv.length/\AfQ f g s.1) (λs=>mv.length-s.2.toNat) (to,(i:Int)) λto=>AfQ f g to)):=by
   intro q hq;unfold Ue;rw[NP (by omega)]
   refine .cond (λh=>.chk (by omega) ?_) λh=>.cnt ⟨⟨k+1,rfl,hlt2,h2l,λj hj=>?_⟩,by grind⟩
   ·rw[hgk,aA];refine .cnt ⟨⟨k+1,rfl,hlt2,by simp[h2l],λj hj=>?_⟩,by grind⟩
    by_cases e:j=k
    ·simp_all[Oa,So]
    ·have:=h2 j hj;simp only[Oa,aAE]at this ⊢
     grind
   ·show Oa t2 j=_;rw[h2 j hj]
    by_cases e:j=k
    ·simp_all[So]
    omega
  refine .beq (λh=>fin true ⟨λ_=>.inl h,λ_=>rfl⟩) λh=>.chk (by omega) ?_
  exact fin _ ⟨λh'=>.inr (by simp_all),λh'=>by simp_all⟩
 ·have hkk:k=to.length:=by grind
  subst hkk;unfold RF;rw[NP (by omega)]
  refine .cnt ⟨⟨i+1,rfl,hlt,?_⟩,by simp only;omega⟩
  refine hc.join hg hsym (a:=a) (b:=b) ⟨qa1,by omega⟩ ⟨qb1,by omega⟩ qa4 qb4 (by rw[qa3,qb3,hsz]) hap h2l λj hj=>?_
  simp_all
def Aly (f:Mk) (l:List (List Int)) (k:Nat):Prop:=((NF f k).Op=16\/(NF f k).Op=17)/\(NF f k).A∉NY l k
theorem AzC (hf:Oi f) {l:NT} (hl:Rj f l.Out) (hk:k<f.Code.length):Hs (AgN f l (k:Int)) λb=>b=true↔Aly f l.Out k:=by
 have hx:=hf.at (j:=(k:Int)) (by omega) (by omega)
 have hrow:=hl.at (j:=(k:Int)) (by omega) (by omega)
 rw[aAE]at hx hrow;have hlo:=hrow.2.1.length_le;unfold AgN;simp only[OE,hx.1,aA,Aki,Ajo]
 by_cases hd:(NF f k).Op=16\/(NF f k).Op=17
 ·rw[if_pos hd];simp only[cond_true,hrow.1,aA];rw[AiV _ _ (by omega),aA]
  exact .pure ⟨λh=>⟨hd,by simp_all⟩,λh=>by simpa using h.2⟩
 ·rw[if_neg hd];exact .pure ⟨λh=>(by cases h),λh=>(hd h.1).elim⟩
theorem AzN (hf:Oi f) {l:NT} (hl:Rj f l.Out) (hml:AbH f) (htl:to.length=f.Slots.length):Hs (AgM f l to) λkeep=>keep.length=f.Code.length/\∀ k:Nat,k<f.Code.length->(Oh keep k=true↔¬ Aly f l.Out k/\¬ ((NF f k).Op=17/\Oa to (NF f k).A=Oa to (NF f k).B)):=by
 have hlen:=hf.len';refine Hs.loop (λs=>∃ k:Nat,s.2=(k:Int)/\k<=f.Code.length/\s.1.length=k/\∀ j:Nat,j<k->(Oh s.1 j=true↔¬ Aly f l.Out j/\¬ ((NF f j).Op=17/\Oa to (NF f j).A=Oa to (NF f j).B))) (λs=>f.Code.length-s.2.toNat) ⟨0,rfl,aAD _,rfl,λj hj=>absurd hj (aAI _)⟩ ?_
 rintro⟨keep,_⟩ ⟨k,rfl,hk,hkl,hkp⟩;replace hkl:keep.length=k:=hkl;refine .dec (λhlt=>?_) λhge=>.lft (.pure ?_)
 ·have hlt:k<f.Code.length:=by omega
  have hx:=hf.at (j:=(k:Int)) (by omega) (by omega)
  rw[aAE]at hx;simp only[OE,hx.1,aA];rw[NP (by omega)]
  have fin:∀ q:Bool,(q=true↔¬ Aly f l.Out k/\¬ ((NF f k).Op=17/\Oa to (NF f k).A=Oa to (NF f k).B))->Hs (chk (keep.length+([q]:List Bool).length<=16777216) (cnt (keep++([q]:List Bool),((k+1:Nat):Int)):Option ((List Bool×Int)⊕List Bool))) (Rnd (λs:List Bool×Int=>∃ k:Nat,s.2=(k:Int)/\k<=f.Code.length/\s.1.length=k/\∀ j:Nat,j<k->(Oh s.1 j=true↔¬ Aly f l.Out j/\¬ ((NF f j).Op=17/\Oa to (NF f j).A=Oa to (NF f j).B))) (λs=>f.Code.length-s.2.toNat) (keep,(k:Int)) λkeep=>keep.length=f.Code.length/\∀ k:Nat,k<f.Code.length->(Oh keep k=true↔¬ Aly f l.Out k/\¬ ((NF f k).Op=17/\Oa to (NF f k).A=Oa to (NF f k).B))):=by
   intro q hq;refine .chk (by simp;omega) (.cnt ⟨⟨k+1,rfl,hlt,by simp[hkl],λj hj=>?_⟩,by grind⟩)
   grind [Oh,List.getElem?_concat_length]
  refine(AzC hf hl hlt).bind λr hr=>.cond (λh=>?_) λh=>fin false ⟨λh=>(by cases h),λh'=>(h'.1 (hr.1 (by simp_all))).elim⟩
  have hnd:¬ Aly f l.Out k:=λh'=>by simp_all
  refine .beq (λh17=>?_) λh17=>fin true ⟨λ_=>⟨hnd,λh=>h17 h.1⟩,λ_=>rfl⟩
  obtain⟨a0,a1,b0,b1,_⟩:=hml _ hx.2 h17
  grind [Qn,Qu]
 ·have hkk:k=f.Code.length:=by omega
  subst hkk;exact⟨hkl,hkp⟩
def rnS (to:List Int) (s:Int):Int:=if 0<=s/\s<to.length then Oa to s else s
theorem AAX (to:List Int) (s:Int):TB s to=some (rnS to s):=by
 unfold TB rnS
 by_cases h0:s<0
 ·grind
 ·rw[decide_eq_false h0,cond_false]
  by_cases h1:s>=(to.length:Int)
  ·grind
  ·rw[decide_eq_false h1,cond_false,if_pos (by omega),Qn _ (by omega),Qu (by omega) (by omega)]
   rfl
def rnI (to:List Int) (x:Lo):Lo :=
 if x.Op=15 then⟨x.Op,x.A,rnS to x.B,x.C,x.Imm⟩else if x.Op=16 then⟨x.Op,rnS to x.A,x.B,x.C,x.Imm⟩else if x.Op=17 then⟨x.Op,rnS to x.A,rnS to x.B,x.C,x.Imm⟩else x
theorem AuS (x:Lo) (to:List Int):Xj x to=some (rnI to x):=by
 unfold Xj rnI;simp only[AAX,aA]
 grind
theorem Ahd (to:List Int) (x:Lo):(rnI to x).Op=x.Op:=by
 unfold rnI
 grind
def kept (keep:List Bool) (k:Nat):Nat:=(keep.take k).countP id
theorem AmT (keep:List Bool) (k:Nat):kept keep k<=k:=by
 grind [kept,List.countP_le_length]
theorem ZN {keep:List Bool} {b:Bool} (h:keep[k]? =some b):kept keep (k+1)=kept keep k+(if b then 1 else 0):=by
 grind [kept,aAi]
theorem Atj (r:NO) (hl:r.Keep.length<=1000000):Hs (AgO r) λl=>l.length=r.Keep.length/\∀ j:Nat,j<r.Keep.length->l[j]? =some (kept r.Keep j:Int):=by
 refine Hs.loop (λs=>∃ k:Nat,s.2.2=(k:Int)/\k<=r.Keep.length/\s.2.1=(kept r.Keep k:Int)/\s.1.length=k/\∀ j:Nat,j<k->s.1[j]? =some (kept r.Keep j:Int)) (λs=>r.Keep.length-s.2.2.toNat) ⟨0,rfl,aAD _,rfl,rfl,λj hj=>absurd hj (aAI _)⟩ ?_
 rintro⟨l,n,_⟩ ⟨k,rfl,hk,hn,hll,hj⟩;subst hn;replace hll:l.length=k:=hll;refine .dec (λhlt=>?_) λhge=>.lft (.pure ?_)
 ·have hlt:k<r.Keep.length:=by simp_all
  have hg:r.Keep[k]? =some r.Keep[k]:=aAA _;generalize r.Keep[k]=b at hg;have hkl:=AmT r.Keep k;have hks:=ZN hg;have hap:∀ j:Nat,j<k+1->(l++[(kept r.Keep k:Int)])[j]? =some (kept r.Keep j:Int):=by
   grind
  refine .chk (by simp;omega) ?_
  simp only[OE,hg,aA];rw[NP (show k<9223372036854775807 by omega),NP (show kept r.Keep k<9223372036854775807 by omega)]
  refine .cond (λh=>?_) λh=>?_
  ·subst h;exact .cnt ⟨⟨k+1,rfl,hlt,by simp_all,by simp[hll],hap⟩,by grind⟩
  ·subst h;exact .cnt ⟨⟨k+1,rfl,hlt,by simp_all,by simp[hll],hap⟩,by grind⟩
 ·have hkk:k=r.Keep.length:=by grind
  subst hkk;exact⟨hll,hj⟩
theorem Aub (x:Lo):VO x=some (Pc x):=by
 grind [VO,Pc]
theorem Akm.rng (h:Akm f to) {s:Int} (h0:0<=s) (h1:s<f.Slots.length):0<=rnS to s/\rnS to s<f.Slots.length/\rnS to s=Oa to s:=by
 obtain⟨j,rfl⟩:∃ j:Nat,s=(j:Int):=⟨s.toNat,by omega⟩
 have hl:=h.1;have:=h.2 j (by omega)
 simp_all[rnS]
def OD (x:Lo):List Int:=Pc x++(if x.Op=16\/x.Op=17 then[x.A]else[])
theorem AfL (hf:Oi f) (hd:PW f) (h:Akm f to) (hx:x∈f.Code):∀ v∈OD (rnI to x),0<=v/\v<f.Slots.length:=by
 intro v hv;have hu:=hf.uses x hx;have hdf:=hd x hx;have key:∀ s:Int,0<=s->s<f.Slots.length->0<=rnS to s/\rnS to s<f.Slots.length:=λs h0 h1=>⟨(h.rng h0 h1).1,(h.rng h0 h1).2.1⟩
 grind [OD,Pc,rnI]
theorem AAk (hf:Oi f) (hd:PW f) (hr:Rz f r):Hs (Adf f r) λl=>Ov f.Slots.length l/\∀ k:Nat,k<f.Code.length->Oh r.Keep k=true->∀ v∈OD (rnI r.To (NF f k)),v∈l:=by
 have hlen:=hf.len';have hsl:=hf.slots;have hkl:=hr.2.1;unfold Adf;refine Hs.loop (λs=>∃ k:Nat,s.2=(k:Int)/\k<=f.Code.length/\Ov f.Slots.length s.1/\∀ j:Nat,j<k->Oh r.Keep j=true->∀ v∈OD (rnI r.To (NF f j)),v∈s.1) (λs=>f.Code.length-s.2.toNat) ⟨0,rfl,aAD _,Ov.nil _,λj hj=>absurd hj (aAI _)⟩ ?_
 rintro⟨l,_⟩ ⟨k,rfl,hk,hs,hj⟩;replace hs:Ov f.Slots.length l:=hs;replace hj:∀ j:Nat,j<k->Oh r.Keep j=true->∀ v∈OD (rnI r.To (NF f j)),v∈l:=hj;unfold AeT;refine .dec (λhlt=>.dec (λ_=>?_) λh=>?_) λhge=>.lft (.pure ⟨hs,λj h=>hj j (by omega)⟩)
 ·have hlt:k<f.Code.length:=by omega
  have hx:=hf.at (j:=(k:Int)) (by omega) (by omega)
  rw[aAE]at hx;have hg:r.Keep[k]? =some (Oh r.Keep k):=by grind [Oh]
  have hnr:=AfL hf hd hr.1 hx.2;unfold AaL;simp only[OE,hg,hx.1,aA,AuS,Aub,Aki,NP (show k<9223372036854775807 by omega)]
  refine .cond (λh=>.cnt ⟨⟨k+1,rfl,hlt,hs,λj h' hkj=>?_⟩,by grind⟩) λh=>?_
  ·grind
  ·obtain⟨y,hy⟩:∃ y,y=rnI r.To (NF f k):=⟨_,rfl⟩;rw[<- hy]at hnr ⊢;have hul:(Pc y).length<=1:=by grind [Pc]
   have hll:=hs.1.length_le;rw[union_eq _ _ (by omega),aA]
   obtain⟨u1,u2⟩:=VQ (n:=f.Slots.length) (by omega) (b:=Pc y) (a:=l) hs (λx hx=>hnr x (by grind [OD]))
   by_cases hdy:y.Op=16\/y.Op=17
   ·simp only[Ajo,if_pos hdy,cond_true];have hA:=hnr y.A (by simp_all[OD])
    obtain⟨a1,a2⟩:=Ov.add (n:=f.Slots.length) u1 hA (by omega)
    have a3:=(Ov.AlZ u1 hA (by omega)).2.2
    rw[a2,aA];refine .cnt ⟨⟨k+1,rfl,hlt,a1,λj h' hkj v hv=>?_⟩,by grind⟩
    show v∈RO y.A (QD l (Pc y));rw[a3,u2]
    by_cases e:j=k
    ·subst e;rw[<- hy]at hv;unfold OD at hv
     grind
    grind
   ·simp only[Ajo,if_neg hdy,cond_false];refine .cnt ⟨⟨k+1,rfl,hlt,u1,λj h' hkj v hv=>?_⟩,by grind⟩
    show v∈QD l (Pc y);rw[u2]
    by_cases e:j=k
    ·simp_all[OD]
    grind
 omega
theorem ArT (hl:r.To.length<=500) (hu:used.length<=512):Hs (AaM r used) λl=>l.length=r.To.length/\∀ (s:Nat) x,l[s]? =some x->0<=x/\(Oa r.To s∈used->used[x.toNat]? =some (Oa r.To s)):=by
 unfold AaM;refine Hs.loop (λz=>∃ k:Nat,z.2=(k:Int)/\k<=r.To.length/\z.1.length=k/\∀ (s:Nat) x,z.1[s]? =some x->0<=x/\(Oa r.To s∈used->used[x.toNat]? =some (Oa r.To s))) (λz=>r.To.length-z.2.toNat) ⟨0,rfl,aAD _,rfl,λs x h=>by simp at h⟩ ?_
 rintro⟨l,_⟩ ⟨k,rfl,hk,hll,hq⟩;replace hll:l.length=k:=hll;refine .dec (λhlt=>?_) λhge=>.lft (.pure ?_)
 ·have hlt:k<r.To.length:=by omega
  have hg:=Qu (to:=r.To) (s:=(k:Int)) (by omega) (by omega)
  rw[aAE]at hg;refine Hs.loop (λz=>∃ i:Nat,z.2=(i:Int)/\i<=used.length/\0<=z.1/\(Oa r.To k∈used.take i->used[z.1.toNat]? =some (Oa r.To k))) (λz=>used.length-z.2.toNat) ⟨0,rfl,aAD _,aAl _,λh=>by simp at h⟩ ?_
  rintro⟨n,_⟩ ⟨i,rfl,hi,hn,hm⟩;refine .dec (λhlt2=>?_) λhge2=>.lft (.chk (by simp;omega) ?_)
  ·have hlt2:i<used.length:=by omega
   have hgx:used[i]? =some used[i]:=aAA _;have htk:used.take (i+1)=used.take i++[used[i]]:=by simp_all
   generalize used[i]=y at hgx htk;simp only[OE,hgx,hg,aA];rw[NP (by omega)]
   refine .beq (λh=>.cnt ⟨⟨i+1,rfl,hlt2,by omega,λ_=>?_⟩,by grind⟩) λh=>.cnt ⟨⟨i+1,rfl,hlt2,hn,λh'=>?_⟩,by simp only;omega⟩
   all_goals grind [aAE]
  ·have hii:i=used.length:=by omega
   subst hii;unfold Aaq;rw[NP (by omega)]
   refine .cnt ⟨⟨k+1,rfl,hlt,by simp[hll],λs x hx=>?_⟩,by simp only;omega⟩
   have hx:(l++[n])[s]? =some x:=hx
   by_cases e:s=k
   ·simp_all
   ·have hsl:s<l.length:=by
     have:=(aAC.1 hx).1;simp at this;omega
    rw[aAW hsl]at hx;exact hq s x hx
 ·have hkk:k=r.To.length:=by simp only at hge;omega
  subst hkk;exact⟨hll,hq⟩
def mvI (pl:List Int) (x:Lo):Lo :=
 if x.Op=20 then⟨x.Op,(pl[x.A.toNat]?).getD 0,x.B,x.C,x.Imm⟩else if x.Op=21 then⟨x.Op,x.A,(pl[x.B.toNat]?).getD 0,x.C,x.Imm⟩else x
def TZ (f:Mk) (keep:List Bool) (to pl:List Int) (k:Nat):List Lo:=(List.range k).filterMap λj=>if Oh keep j=true then some (mvI pl (rnI to (NF f (j:Nat))))else none
theorem Ati (f:Mk) (keep:List Bool) (to pl:List Int) (k:Nat):TZ f keep to pl (k+1)=TZ f keep to pl k++(if Oh keep k=true then[mvI pl (rnI to (NF f (k:Nat)))]else[]):=by
 grind [TZ,aAa]
theorem WE {f:Mk} {keep:List Bool} {to pl:List Int}:∀ k:Nat,k<=keep.length->(TZ f keep to pl k).length=kept keep k/\∀ (p:Nat) x,(TZ f keep to pl k)[p]? =some x->∃ j:Nat,j<k/\Oh keep j=true/\kept keep j=p/\x=mvI pl (rnI to (NF f (j:Nat)))
 | 0,_=>⟨rfl,λp x h=>by grind [TZ]⟩
 | k+1,hk=>by
  obtain⟨h1,h2⟩:=WE (f:=f) (keep:=keep) (to:=to) (pl:=pl) k (by omega)
  have hg:keep[k]? =some (Oh keep k):=by grind [Oh]
  rw[Ati]
  by_cases h:Oh keep k=true
  ·rw[if_pos h];rw[h]at hg;have hs:=ZN hg
   grind
  ·rw[if_neg h,List.append_nil]
   grind [ZN]
theorem Aje (h:x.Op=20\/x.Op=21):rnI to x=x:=by
 unfold rnI
 grind
theorem AnX (hf:Oi f) (hk:k<f.Code.length):((NF f k).Op=20->0<=(NF f k).A/\(NF f k).A<f.Code.length)/\((NF f k).Op=21->0<=(NF f k).B/\(NF f k).B<f.Code.length):=by
 have hx:=hf.at (j:=(k:Int)) (by omega) (by omega)
 rw[aAE]at hx;have hn:=hf.next k _ hx.1;refine⟨λh=>hn _ (by simp[QJ,h]),λh=>hn _ ?_⟩
 unfold QJ
 grind
theorem AtX (hf:Oi f) (hkl:r.Keep.length=f.Code.length) (to pl:List Int) (hpl:pl.length=r.Keep.length) (sl:List NQ) :
  Hs (NU (λs=>Adb f r to pl sl s.1 s.2) ([],0)) λq=>q=(⟨f.Params,sl,TZ f r.Keep to pl f.Code.length⟩,0):=by
 have hlen:=hf.len';refine Hs.loop (λs=>∃ k:Nat,s.2=(k:Int)/\k<=f.Code.length/\s.1=TZ f r.Keep to pl k) (λs=>f.Code.length-s.2.toNat) ⟨0,rfl,aAD _,rfl⟩ ?_
 rintro⟨_,_⟩ ⟨k,rfl,hk,rfl⟩;refine .dec (λhlt=>?_) λhge=>.lft (.pure ?_)
 ·have hlt:k<f.Code.length:=by omega
  have hx:=hf.at (j:=(k:Int)) (by omega) (by omega)
  rw[aAE]at hx;have hg:r.Keep[k]? =some (Oh r.Keep k):=by grind [Oh]
  have hol:=(WE (f:=f) (keep:=r.Keep) (to:=to) (pl:=pl) k (by omega)).1
  have hkk:=AmT r.Keep k;have hs:=Ati f r.Keep to pl k;obtain⟨t1,t2⟩:=AnX hf hlt;simp only[OE,hg,hx.1,aA,AuS];refine .cond (λh=>?_) λh=>?_
  ·have hkf:¬ Oh r.Keep k=true:=λh'=>by simp_all
   rw[if_neg hkf,List.append_nil]at hs;rw[NP (by omega)]
   exact .cnt ⟨⟨k+1,rfl,hlt,hs.symm⟩,by grind⟩
  ·have hkt:Oh r.Keep k=true:=by simp_all
   rw[if_pos hkt]at hs;have fin:∀ a b:Int,(⟨(rnI to (NF f k)).Op,a,b,(rnI to (NF f k)).C,(rnI to (NF f k)).Imm⟩:Lo)=mvI pl (rnI to (NF f k))->Hs (Uf (TZ f r.Keep to pl k) (rnI to (NF f k)) (k:Int) a b) (Rnd (λs:List Lo×Int=>∃ k:Nat,s.2=(k:Int)/\k<=f.Code.length/\s.1=TZ f r.Keep to pl k) (λs=>f.Code.length-s.2.toNat) (TZ f r.Keep to pl k,(k:Int)) λq=>q=(⟨f.Params,sl,TZ f r.Keep to pl f.Code.length⟩,0)):=by
    intro a b hab;unfold Uf;refine .chk (by simp;omega) (.chk (by simp;omega) ?_)
    rw[NP (by omega)]
    refine .cnt ⟨⟨k+1,rfl,hlt,?_⟩,by grind⟩
    simp_all
   refine .beq (λh20=>?_) λh20=>.beq (λh21=>?_) λh21=>fin _ _ ?_
   ·simp_all[Ahd,Aje,chk,mvI]
   ·simp_all[Ahd,Aje,chk,mvI]
   simp_all[mvI]
 ·have hkk:k=f.Code.length:=by omega
  subst hkk;rfl
theorem AxU (f:Mk) (to:List Int) (hsl:f.Slots.length<=500):Hs (AiG f to) λb=>b=true↔Akm f to:=by
 refine .bne (λh=>.pure ⟨λh'=>(by cases h'),λh'=>(h (by rw[h'.1])).elim⟩) λh=>?_
 have hl:to.length=f.Slots.length:=by omega
 refine Hs.loop (λi=>∃ k:Nat,i=(k:Int)/\k<=to.length/\∀ s:Nat,s<k->0<=Oa to s/\Oa to s<to.length) (λi=>to.length-i.toNat) ⟨0,rfl,aAD _,λs hs=>absurd hs (aAI _)⟩ ?_
 rintro _ ⟨k,rfl,hk,hall⟩;refine .dec (λhlt=>?_) λhge=>.lft ?_
 ·have hlt:k<to.length:=by omega
  have hg:to[k]? =some (Oa to k):=by have:=Qu (to:=to) (s:=k) (by omega) (by omega);simp_all
  simp only[OE,hg,aA];refine .dec (λh0=>.lft (.pure ⟨λh=>(by cases h),λh=>?_⟩)) λh0=>.dec (λh1=>.lft (.pure ⟨λh=>(by cases h),λh=>?_⟩)) λh1=>?_
  ·have:=(h.2 k hlt).1;omega
  ·have:=(h.2 k hlt).2.1;omega
  rw[NP (by omega)]
  refine .cnt ⟨⟨k+1,rfl,hlt,λs hs=>?_⟩,by grind⟩
  grind
 have hkk:k=to.length:=by omega
 subst hkk;refine Hs.loop (λi=>∃ k:Nat,i=(k:Int)/\k<=to.length/\∀ s:Nat,s<k->PK f (Oa to s)=PK f s/\Oa to (Oa to s)=Oa to s) (λi=>to.length-i.toNat) ⟨0,rfl,aAD _,λs hs=>absurd hs (aAI _)⟩ ?_
 rintro _ ⟨k,rfl,hk,hall2⟩;refine .dec (λhlt=>?_) λhge=>.lft (.pure ?_)
 ·have hlt:k<to.length:=by omega
  obtain⟨q0,q1⟩:=hall k hlt;have hg:to[k]? =some (Oa to k):=by have:=Qu (to:=to) (s:=k) (by omega) (by omega);simp_all
  simp only[OE,hg,aA];refine Hs.bind (Hs.ix (i:=Oa to k) (P:=λx=>x.Size=PK f (Oa to k)) (by omega) (by omega) λx hx=>Adl hx) λa ha=>?_
  refine Hs.bind (Hs.get (i:=(k:Int)) (P:=λx=>x.Size=PK f k) (by omega) (by omega) λx hx=>Adl hx) λb hb=>?_
  rw[ha,hb];refine .bne (λh2=>.lft (.pure ⟨λh=>(by cases h),λh=>(h2 (h.2 k hlt).2.2.1).elim⟩)) λh2=>?_
  rw[Qn _ (by omega),Qu (by omega) (by omega),aA]
  refine .bne (λh3=>.lft (.pure ⟨λh=>(by cases h),λh=>(h3 (h.2 k hlt).2.2.2).elim⟩)) λh3=>?_
  rw[NP (by omega)]
  refine .cnt ⟨⟨k+1,rfl,hlt,λs hs=>?_⟩,by grind⟩
  grind
 ·exact⟨λ_=>⟨hl,λs hs=>⟨(hall s hs).1,(hall s hs).2,(hall2 s (by omega)).1,(hall2 s (by omega)).2⟩⟩,λ_=>rfl⟩
theorem AxR (x:Lo):Sf x=some (decide (x.Op=16\/x.Op=17)):=by
 unfold Sf
 grind
theorem Aep (hf:Oi f) (r:NO):Hs (YF f r) λe=>(e=0\/e=12)/\(e=0↔Rz f r):=by
 have hlen:=hf.len';unfold YF;refine(AxU f r.To hf.slots).bind λb hb=>.cond (λh=>.pure ⟨.inr rfl,λh=>by omega,λh'=>?_⟩) λh=>?_
 ·rw[hb.2 h'.1]at h;cases h
 have hv:Akm f r.To:=hb.1 (by simp_all)
 refine .bne (λh=>.pure ⟨.inr rfl,λh=>by omega,λh'=>(h (by rw[h'.2.1])).elim⟩) λh=>?_
 have hkl:r.Keep.length=f.Code.length:=by omega
 unfold Ade;refine Hs.loop (λi=>∃ k:Nat,i=(k:Int)/\k<=f.Code.length/\∀ j:Nat,j<k->Oh r.Keep j=false->(NF f j).Op=16\/(NF f j).Op=17) (λi=>f.Code.length-i.toNat) ⟨0,rfl,aAD _,λs hs=>absurd hs (aAI _)⟩ ?_
 rintro _ ⟨k,rfl,hk,hall⟩;unfold Adc;refine .dec (λhlt=>?_) λhge=>.lft (.pure ⟨.inl rfl,λ_=>⟨hv,hkl,λj hj=>hall j (by omega)⟩,λ_=>rfl⟩)
 have hlt:k<f.Code.length:=by omega
 have hx:=hf.at (j:=(k:Int)) (by omega) (by omega)
 rw[aAE]at hx;have hg:r.Keep[k]? =some (Oh r.Keep k):=by grind [Oh]
 have stp:(Oh r.Keep k=false->(NF f k).Op=16\/(NF f k).Op=17)->∀ j:Nat,j<k+1->Oh r.Keep j=false->(NF f j).Op=16\/(NF f j).Op=17:=by
  grind
 simp only[OE,hx.1,hg,aA,AxR];rw[NP (by omega)]
 refine .cond (λh=>?_) λh=>.cnt ⟨⟨k+1,rfl,hlt,stp λh'=>by simp_all⟩,by grind⟩
 have hkf:Oh r.Keep k=false:=by simp_all
 refine .cond (λh=>.lft (.pure ⟨.inr rfl,λh=>by omega,λh'=>?_⟩)) λh=>.cnt ⟨⟨k+1,rfl,hlt,stp λ_=>aAX λhn=>by simp_all⟩,by grind⟩
 have:=h'.2.2 k hlt hkf;simp_all
theorem ApZ:∀ {l:List Int} {a n:Int},l.Pairwise (· <·)->(∀ x∈l,a<=x/\x<n)->(l.length:Int)<=max 0 (n-a)
 | [],a,n,_,_=>by simp;omega
 | x::l,a,n,hp,hr=>by
  have h:=aAO.1 hp;have hx:=hr x (by simp)
  have:=ApZ (l:=l) (a:=x+1) (n:=n) h.2 λy hy=>⟨by grind,(hr y (by simp[hy])).2⟩
  grind
theorem Ayn (_hsl:f.Slots.length<=500) (_htl:r.To.length=f.Slots.length) {_u:Int} {x:NQ} {out:List NQ} {i:Nat} (hi:i<=1000) {l:List Int} (hll:l.length<=1000) (ho:out.length=i) (hl:∀ t∈l,0<=t/\t<f.Slots.length) {I:List NQ×Int->Prop} {μ:List NQ×Int->Nat} {s0:List NQ×Int} {Q:Mk×Int->Prop} (hI:∀ y:NQ,y.Size=x.Size->(∃ t∈x::f.Slots,y.Align=t.Align)->Rnd I μ s0 Q (.inl (out++[y],((i+1:Nat):Int)))):Hs (NU (λs=>ZE l f out x (i:Int) s.1 s.2) (x.Align,0)) (Rnd I μ s0 Q):=by
 refine Hs.loop (λs=>∃ k:Nat,s.2=(k:Int)/\k<=l.length/\∃ t∈x::f.Slots,s.1=t.Align) (λs=>l.length-s.2.toNat) ⟨0,rfl,aAD _,x,by simp,rfl⟩ ?_
 rintro⟨a,_⟩ ⟨k,rfl,hk,t0,ht0,hat⟩;refine .dec (λhlt=>?_) λ_=>.lft (.chk (by simp;omega) (.chk (by simp;omega) ?_))
 ·have hlt:k<l.length:=by omega
  refine .chk (by omega) ((Hs.get (by omega) (by omega) λt ht=>aAB ht).bind λt ht=>?_)
  have:=hl t ht;refine(Hs.ix (P:=λy=>y∈f.Slots) this.1 this.2 λy hy=>aAB hy).bind λy hy=>?_
  rw[NP (by omega),AsA]
  refine .cnt ⟨⟨k+1,rfl,hlt,?_⟩,by grind⟩
  grind
 ·unfold ZF;rw[NP (by omega)]
  exact .cnt (hI _ rfl ⟨t0,ht0,hat⟩)
def Ahu (f:Mk) (used:List Int) (out:List NQ):Prop :=
 ∀ (j:Nat) y,out[j]? =some y->∃ u x,used[j]? =some u/\f.Slots[u.toNat]? =some x/\y.Size=x.Size/\∃ t∈f.Slots,y.Align=t.Align
theorem Ahu.snoc {out:List NQ} (h:Ahu f used out) {i:Nat} (ho:out.length=i) {u:Int} (hu:used[i]? =some u) {x y:NQ} (hx:f.Slots[u.toNat]? =some x) (h1:y.Size=x.Size) (h2:∃ t∈x::f.Slots,y.Align=t.Align):Ahu f used (out++[y]):=by
 intro j z hz
 by_cases e:j<out.length
 ·rw[aAW e]at hz;exact h j z hz
 grind
theorem AsS (hf:Oi f) (hd:PW f) (hr:Rz f r):Hs (Qe f r) λq=>q.2=0/\∃ used to pl:List Int,Ov f.Slots.length used/\(∀ k:Nat,k<f.Code.length->Oh r.Keep k=true->∀ v∈OD (rnI r.To (NF f k)),v∈used)/\to.length=r.To.length/\(∀ (s:Nat) x,to[s]? =some x->0<=x/\(Oa r.To s∈used->used[x.toNat]? =some (Oa r.To s))) /\
  pl.length=r.Keep.length/\(∀ j:Nat,j<r.Keep.length->pl[j]? =some (kept r.Keep j:Int))/\q.1.Slots.length=used.length/\q.1.Params=f.Params/\q.1.Code=TZ f r.Keep to pl f.Code.length/\Ahu f used q.1.Slots:=by
 have hlen:=hf.len';have hsl:=hf.slots;have hkl:=hr.2.1;have htl:=hr.1.1;refine(Aep hf r).bind λe he=>.bne (λh=>(h (he.2.2 hr)).elim) λ_=>?_
 refine(AAk hf hd hr).bind λused ⟨hu1,hu2⟩=>?_
 have hul:=hu1.1.length_le;refine Hs.loop (λs=>∃ i:Nat,s.2=(i:Int)/\i<=used.length/\s.1.length=i/\Ahu f used s.1) (λs=>used.length-s.2.toNat) ⟨0,rfl,aAD _,rfl,λj y hj=>by simp at hj⟩ ?_
 rintro⟨out,_⟩ ⟨i,rfl,hi,ho,hsa⟩;refine .dec (λhlt=>?_) λhge=>.lft ?_
 ·have hlt:i<used.length:=by omega
  have hgx:used[i]? =some used[i]:=aAA _;have hxm:=aAF hlt;generalize used[i]=u at hgx hxm;have h0:=(hu1.1.2 u hxm).1;have h1:=hu1.2 u hxm;refine .chk (by omega) ?_
  simp only[aAE,hgx,aA];refine(Hs.ix (P:=λx=>f.Slots[u.toNat]? =some x) h0 h1 λx hx=>hx).bind λx hfx=>.chk (by omega) ?_
  refine(Aqb (by omega) u).bind λl hm=>?_
  refine Ayn (_u:=u) hsl htl (by omega) (l:=l) (by omega) ho (λt ht=>?_) λy hy1 hy2=>⟨⟨i+1,rfl,hlt,by simp[ho],hsa.snoc ho hgx hfx hy1 hy2⟩,by grind⟩
  grind
 have hii:i=used.length:=by omega
 subst hii;refine(ArT (by omega) hul).bind λto ⟨n1,n2⟩=>(Atj r (by omega)).bind λpl ⟨p1,p2⟩=>?_
 refine(AtX hf hkl to pl p1 out).mono λq hq=>?_
 subst hq;exact⟨rfl,used,to,pl,hu1,hu2,n1,n2,p1,p2,ho,rfl,rfl,hsa⟩
theorem AqZ (hf:Oi f) (hd:PW f) (hr:Rz f r):Hs (Qe f r) λq=>q.2=0/\∃ used to pl:List Int,Ov f.Slots.length used/\(∀ k:Nat,k<f.Code.length->Oh r.Keep k=true->∀ v∈OD (rnI r.To (NF f k)),v∈used)/\to.length=r.To.length/\(∀ (s:Nat) x,to[s]? =some x->0<=x/\(Oa r.To s∈used->used[x.toNat]? =some (Oa r.To s))) /\
  pl.length=r.Keep.length/\(∀ j:Nat,j<r.Keep.length->pl[j]? =some (kept r.Keep j:Int))/\q.1.Slots.length=used.length/\q.1.Params=f.Params/\q.1.Code=TZ f r.Keep to pl f.Code.length :=
 (AsS hf hd hr).mono λ_q ⟨h0,used,to,pl,u1,u2,n1,n2,p1,p2,sl,pr,cd,_⟩=>⟨h0,used,to,pl,u1,u2,n1,n2,p1,p2,sl,pr,cd⟩
theorem AiW {keep:List Bool} {j:Nat}:∀ {k:Nat},j<=k->k<=keep.length->kept keep j<=kept keep k
 | 0,h,_=>by
  simp_all
 | k+1,h,hk=>by
  by_cases e:j=k+1
  ·simp_all
  ·have h1:=AiW (keep:=keep) (j:=j) (k:=k) (by omega) (by omega)
   have hg:keep[k]? =some (keep[k]'(by omega)):=aAA _
   grind [ZN]
def Ux (f:Mk):Prop:=(NF f (f.Code.length-1:Nat)).Op=20\/(NF f (f.Code.length-1:Nat)).Op=23\/(NF f (f.Code.length-1:Nat)).Op=24
theorem AmU (hf:Oi f) (hlast:Ux f) (hr:Rz f r) {t:Nat} (ht:t<f.Code.length):kept r.Keep t<kept r.Keep f.Code.length:=by
 have hkl:=hr.2.1;have hl:=hf.len;have hk:Oh r.Keep (f.Code.length-1)=true:=by
  cases h:Oh r.Keep (f.Code.length-1)
  ·have:=hr.2.2 _ (by omega) h
   grind [Ux]
  ·rfl
 have hg:r.Keep[f.Code.length-1]? =some true:=by
  grind [Oh]
 have h1:=ZN hg;have h2:=AiW (keep:=r.Keep) (j:=t) (k:=f.Code.length-1) (by omega) (by omega)
 grind
theorem Awe (hf:Oi f) (hlast:Ux f) (hr:Rz f r) {pl:List Int} (hpl:∀ j:Nat,j<r.Keep.length->pl[j]? =some (kept r.Keep j:Int)) {p:Nat} (hx:(TZ f r.Keep to pl f.Code.length)[p]? =some x):∀ t∈QJ x p,0<=t/\t<(kept r.Keep f.Code.length:Int):=by
 have hkl:=hr.2.1;obtain⟨j,hj,hk,rfl,rfl⟩:=(WE (f:=f) (keep:=r.Keep) (to:=to) (pl:=pl) f.Code.length (by omega)).2 p x hx
 have hcode:=(hf.at (j:=(j:Int)) (by omega) (by omega)).1
 have hn:=hf.next j _ hcode;obtain⟨t1,t2⟩:=AnX hf hj;have hg:r.Keep[j]? =some true:=by
  grind [Oh]
 have hs:=ZN hg;simp at hs;have at_:∀ t:Int,0<=t->t<f.Code.length->(pl[t.toNat]?).getD 0=(kept r.Keep t.toNat:Int)/\kept r.Keep t.toNat<kept r.Keep f.Code.length:=λt h0 h1=>by
  simp_all[AmU]
 have nx:(j:Int)+1<f.Code.length->(kept r.Keep j:Int)+1<kept r.Keep f.Code.length:=λh=>by
  have:=AmU hf hlast hr (t:=j+1) (by omega)
  omega
 intro t ht
 by_cases h20:(NF f j).Op=20
 ·simp_all[Aje,mvI,QJ]
 ·by_cases h21:(NF f j).Op=21
  ·rw[Aje (.inr h21)]at ht;have a:=at_ _ (t2 h21).1 (t2 h21).2
   have b:=nx (by
    have:=hn ((j:Int)+1) (by
     unfold QJ
     grind)
    omega)
   have hmem:t=(pl[(NF f j).B.toNat]?).getD 0\/t=(kept r.Keep j:Int)+1:=by
    simp only[mvI,if_neg h20,if_pos h21,QJ]at ht
    grind
   omega
  ·have hop:(mvI pl (rnI to (NF f j))).Op=(NF f j).Op:=by
    have h:=Ahd to (NF f j);simp_all[mvI]
   unfold QJ at ht;rw[hop,if_neg h20]at ht
   by_cases h23:(NF f j).Op=23\/(NF f j).Op=24
   ·simp_all
   ·rw[if_neg h23,if_neg h21]at ht
    have b:=nx (by
     simp_all[QJ])
    grind
theorem AhH (to:List Int) (x:Lo) (v:Int):v∈OD (rnI to x)↔∃ s∈OD x,v=rnS to s:=by
 grind [OD,Pc,rnI]
theorem AyK (pl:List Int) (x:Lo):OD (mvI pl x)=OD x:=by
 grind [mvI,OD,Pc]
theorem AlJ (hf:Oi f) (hd:PW f) (hx:x∈f.Code) {s:Int} (hs:s∈OD x):0<=s/\s<f.Slots.length:=by
 rcases aAK.1 hs with h|h
 ·exact hf.uses x hx s h
 ·by_cases hop:x.Op=16\/x.Op=17
  ·rw[if_pos hop]at h;rw[aAM.1 h];exact hd x hx hop
  simp_all
theorem Avn (hf:Oi f) (hd:PW f) (hr:Rz f r) {pl:List Int} (hu:∀ k:Nat,k<f.Code.length->Oh r.Keep k=true->∀ v∈OD (rnI r.To (NF f k)),v∈used) (htl:to.length=r.To.length) (hto:∀ (s:Nat) x,to[s]? =some x->0<=x/\(Oa r.To s∈used->used[x.toNat]? =some (Oa r.To s))) {p:Nat} (hx:(TZ f r.Keep to pl f.Code.length)[p]? =some x):∀ v∈OD x,0<=v/\v<used.length:=by
 have hkl:=hr.2.1;have hrl:=hr.1.1;obtain⟨j,hj,hk,rfl,rfl⟩:=(WE (f:=f) (keep:=r.Keep) (to:=to) (pl:=pl) f.Code.length (by omega)).2 p x hx
 have hxm:=(hf.at (j:=(j:Int)) (by omega) (by omega)).2
 intro v hv;rw[AyK,AhH]at hv;obtain⟨s,hs,rfl⟩:=hv;obtain⟨h0,h1⟩:=AlJ hf hd hxm hs;have hm:=hu j hj hk (rnS r.To s) ((AhH _ _ _).2 ⟨s,hs,rfl⟩);rw[(hr.1.rng h0 h1).2.2]at hm;have hg:=Qu (to:=to) (s:=s) h0 (by omega)
 have e:rnS to s=Oa to s:=by simp_all[rnS]
 grind [aAd]
theorem Si.AAQ {most:Int} (h:Si ps i most f):Ux f:=by
 have hl:=h.len;have hg:f.Code[f.Code.length-1]? =some (NF f (f.Code.length-1:Nat)):=by grind [NF]
 have he:=h.last _ hg;unfold Ux;rcases he with e|⟨w,_,e⟩<;>rw[e]<;>simp
theorem ArE (hf:Oi f) (hd:PW f) (hlast:Ux f) (hr:Rz f r):Hs (Qe f r) λq=>q.2=0/\Oi q.1/\PW q.1:=by
 have hkl:=hr.2.1;have hsl:=hf.slots;have hlen:=hf.len';have hl1:=hf.len;refine(AqZ hf hd hr).mono λq ⟨h0,used,to,pl,u1,u2,n1,n2,p1,p2,sl,_,cd⟩=>⟨h0,?_⟩
 have hcl:q.1.Code.length=kept r.Keep f.Code.length:=by grind [WE]
 have hk0:=AmU hf hlast hr (t:=0) (by omega)
 have hkl2:=AmT r.Keep f.Code.length;have hul:=ApZ (l:=used) (a:=0) (n:=f.Slots.length) u1.1.1 λx hx=>⟨(u1.1.2 x hx).1,u1.2 x hx⟩
 have nm:∀ x∈q.1.Code,∀ v∈OD x,0<=v/\v<q.1.Slots.length:=by
  intro x hx v hv;obtain⟨p,hp⟩:=aAH hx;rw[cd]at hp;have:=Avn hf hd hr u2 n1 n2 hp v hv;omega
 refine⟨⟨by omega,by omega,by omega,λk x hx j hj=>?_,λx hx v hv=>nm x hx v (List.mem_append_left _ hv)⟩,λx hx hop=>nm x hx x.A (by simp_all[OD])⟩
 rw[cd]at hx;have:=Awe hf hlast hr p2 hx j hj;omega
def Acy (n:Nat) (f:Mk):Prop:=∀ x∈f.Code,x.Op=22->0<=x.A/\x.A<n
theorem Si.calls {most:Int} (h:Si ps i most f) (hi:0<=i):Acy ps.length f:=by
 intro x hx hop;obtain⟨k,hk⟩:=aAH hx;have hkl:=(aAC.1 hk).1
 by_cases hk1:k+1<f.Code.length
 ·have hins:=h.body k x hk hk1;cases hins<;>grind
 ·have he:=h.last x (by grind)
  rcases he with rfl|⟨w,_,rfl⟩<;>simp at hop
theorem AwI {n:Nat} (h:Acy n f) {keep:List Bool} {pl:List Int} (hk:f.Code.length<=keep.length):∀ x∈TZ f keep to pl f.Code.length,x.Op=22->0<=x.A/\x.A<n:=by
 intro x hx hop;obtain⟨p,hp⟩:=aAH hx;obtain⟨j,h1,_,_,rfl⟩:=(WE (f:=f) (keep:=keep) (to:=to) (pl:=pl) _ hk).2 p x hp;have hm:NF f (j:Nat)∈f.Code:=by
  grind [NF]
 have ho:(mvI pl (rnI to (NF f (j:Nat)))).Op=(NF f (j:Nat)).Op:=by
  refine Eq.trans ?_ (Ahd to _)
  grind [mvI]
 rw[ho]at hop;have e:mvI pl (rnI to (NF f (j:Nat)))=NF f (j:Nat):=by grind [mvI,rnI]
 rw[e];exact h _ hm hop
theorem Avm (hf:Oi f) (hd:PW f) (hlast:Ux f) {n:Nat} (hc:Acy n f) (hr:Rz f r):Hs (Qe f r) λq=>q.2=0/\Oi q.1/\PW q.1/\Acy n q.1:=by
 obtain⟨q,e,h1,h2,h3⟩:=ArE hf hd hlast hr;obtain⟨q',e',_,used,to,pl,_,_,_,_,_,_,_,_,cd⟩:=AqZ hf hd hr;rw[e]at e';cases e';refine⟨q,e,h1,h2,h3,?_⟩;unfold Acy;rw[cd];exact AwI hc (by rw[hr.2.1];omega)
theorem Awm (hf:Oi f) (hd:PW f) (hml:AbH f) {l:NT} (hacc:Acc f l.Out):Hs (AiF f l) λg=>Hs (Xn f g.1) λto=>Hs (AgM f l to) λkeep=>Rz f ⟨to,keep⟩:=by
 have hlen:=hf.len';have hsl:=hf.slots;refine Hs.mono (P:=AdT Aqc f l.Out) ?_ λg hg=>?_
 ·exact(Atl hf hd (hacc.1.len hf) false).bind λr hr=>.pure hr
 rcases hg with⟨_,_,hg⟩|⟨_,hn,_⟩
 rotate_left
 ·simp_all
 refine(Awl hlen hsl hml hg (λx y r s hr hs hy=>((hg.2 y s hs).2 _).2 (((hg.2 x r hr).2 _).1 hy).symm) λx r hr hx=>?_).mono λto hto=>?_
 ·rcases((hg.2 x r hr).2 _).1 hx with⟨_,_,_,_,_,_,h',_⟩|⟨_,_,_,_,_,_,h',_⟩<;>exact h' rfl
 refine(AzN hf hacc.1 hml hto.ok.1).mono λkeep ⟨hkl,hkp⟩=>⟨hto.ok,hkl,λk hk h=>?_⟩
 by_cases h1:Aly f l.Out k
 ·exact h1.1
 grind
theorem AnS (hi:ixO p.Funcs i=some f) (hf:Oi f) (hd:PW f) (hml:AbH f) (hlast:Ux f) (hc:Acy p.Funcs.length f) (hp:p.Funcs.length<=1000):Hs (Vh p i) λq=>Rz f q.Rename/\Acc f q.Live.Out/\Qg q.LiveAfter.Out:=by
 obtain⟨i0,i1,_⟩:=Acb hi;unfold Vh;rw[hi,aA];refine(ArA hf).bind λl hl=>?_
 have hacc:=hl.acc hf;refine(Awm hf hd hml hacc).bind λg hg=>hg.bind λto hto=>hto.bind λkeep hr=>?_
 refine(Avm hf hd hlast hc hr).bind λq ⟨_,qf,qd,qc⟩=>?_
 refine(ArA qf).bind λl2 hl2=>?_
 have hacc2:=hl2.acc qf;refine Hs.bind (P:=AdT Arm q.1 l2.Out) ?_ λs hs=>?_
 ·exact(Atl qf qd (hacc2.1.len qf) true).bind λr hr=>.pure hr
 have hrows:∀ row∈s.1,row.length<=512:=by
  rcases hs with⟨_,_,hs⟩|⟨_,hn,_⟩
  ·intro row hrow;obtain⟨k,hk⟩:=aAH hrow;exact(hs.2 k row hk).1.1.length_le
  simp_all
 refine(AvJ hi hf.len' hc).bind λa _=>(Axb _ qf.slots hrows a).bind λo _=>.bne (λ_=>.pure ⟨hr,hacc,hacc2.1.len qf⟩) λ_=>?_
 have hset:ixO (p.Funcs.set i.toNat q.1) i=some q.1:=by
  grind [Qn]
 refine Hs.bind (P:=λr=>r=⟨p.Funcs.set i.toNat q.1⟩) ?_ λr hr'=>?_
 ·refine Hs.bind (P:=λr=>r=⟨p.Funcs.set i.toNat q.1⟩) (.chk (by simp;omega) (.chk (by simp;omega) ((Hs.get (P:=λ_=>True) i0 (by simp;omega) λ_ _=>trivial).bind λ_ _=>.pure (by simp)))) λr h=>.pure h
 subst hr';exact(AxG p hp).bind λal _=>(Axx hset qf.len' qf.slots (by grind [Acy]) al _).bind λy _=>.pure ⟨hr,hacc,hacc2.1.len qf⟩
theorem AmS (h:okC c):Hs (QV c) λp=>okC p.2/\I64 p.1:=by
 unfold QV;refine(Od h (by omega) (by omega)).bind λr hr=>.beq (λ_=>?_) λ_=>?_
 ·refine(Od hr.1 (by simp) (by simp)).bind λq hq=>.chk ?_ ?_
  ·simp at hq;simp;omega
  ·refine(Hs.get hq.2.1 (by simpa using hq.2.2) λx hx=>aAB hx).bind λx hx=>.pure ⟨hq.1,?_⟩
   simp at hx;unfold I64;simp only;omega
 ·exact(Od hr.1 (by omega) (by omega)).bind λq hq=>(Od hq.1 (by omega) (by omega)).bind λu hu=>.chk hu.2.1 (.pure ⟨hu.1,AzM _⟩)
theorem AvP (h:okC c) (hf:Oi f):Hs (UM c f) λp=>okC p.2/\p.1.Out.length<=f.Code.length/\AiO p.1.Out:=by
 have hlen:=hf.len;have hlen':=hf.len';have hsl:=hf.slots;unfold UM;refine(ArA hf).bind λl hl=>(Od h (by omega) (by omega)).bind λr hr=>.beq (λ_=>?_) λ_=>?_
 ·exact .pure ⟨hr.1,by have:=hl.ok.1;simp only;omega,AbJ.rows λs hs=>(hl.ok.2 s hs).1⟩
 ·refine .chk (by have:=hl.ok.1;simp;omega) ((Od hr.1 (by omega) (by omega)).bind λq hq=>?_)
  have j1:∀ {l:List Int} {a:Int} {x:List (List Int)},okC ⟨l,a⟩->x.length=f.Code.length->AbJ x->Hs (SE l a x) λp=>okC p.2/\p.1.Out.length<=f.Code.length/\AiO p.1.Out:=by
   intro l a x hc hx hs;unfold SE;refine(Od hc (by omega) (by omega)).bind λr hr=>.beq (λ_=>?_) λ_=>.beq (λ_=>?_) λ_=>?_
   ·refine .chk (by omega) (.pure ⟨hr.1,by simp;omega,λs hm=>hs.rows s (List.mem_of_mem_drop hm)⟩)
   ·refine(AmS hr.1).bind λu hu=>(AmS hu.1).bind λv hv=>.chk (by omega) ((Hs.get (by omega) (by omega) λx hx=>hx).bind λ_ _=>.pure ⟨hv.1,by simp;omega,λs hm=>?_⟩)
    rcases aAP hm with h1|rfl
    ·exact hs.rows s h1
    ·refine⟨by simp,λw hw=>?_⟩
     simp at hw;rcases hw with rfl|rfl
     ·exact hu.2
     ·exact hv.2
   ·exact .pure ⟨hr.1,by simp only;omega,hs.rows⟩
  refine Hs.loop (λs=>okC ⟨s.1,s.2.1⟩/\s.2.2.1.length=f.Code.length/\AbJ s.2.2.1/\0<=s.2.2.2/\s.2.2.2<4) (λs=>s.2.2.2.toNat) ⟨hq.1,by simpa using hl.ok.1,λs hs=>(hl.ok.2 s (by simpa using hs)).1,hq.2⟩ ?_
  rintro⟨l,a,x,n⟩ ⟨hc,hx,hs,hn0,hn1⟩;simp only at hc hx hs hn0 hn1;have w:IntKind.i64.wrap (n-1)=n-1:=wrap64 (by omega) (by omega)
  unfold XD;refine .dec (λhlt=>.dec (λhsl0=>?_) λ_=>.lft (j1 hc hx hs)) λ_=>.lft (j1 hc hx hs)
  have hlt:0<n:=hlt;unfold XF;have j4:∀ {l:List Int} {a:Int} {y:List (List Int)},okC ⟨l,a⟩->y.length=f.Code.length->AbJ y->Hs (RC n l a y) (Rnd (λs:List Int×Int×List (List Int)×Int=>okC ⟨s.1,s.2.1⟩/\s.2.2.1.length=f.Code.length/\AbJ s.2.2.1/\0<=s.2.2.2/\s.2.2.2<4) (λs=>s.2.2.2.toNat) (‹List Int›,‹Int›,x,n) (λp:NT×BR=>okC p.2/\p.1.Out.length<=f.Code.length/\AiO p.1.Out)):=by
   intro l a y hc hy hs;unfold RC;exact .cnt ⟨⟨hc,hy,hs,by simp only[w];omega,by simp only[w];omega⟩,by simp only[w];omega⟩
  refine(Od hc (by omega) (by omega)).bind λu hu=>(Od hu.1 (by omega) (by omega)).bind λv hv=>.beq (λ_=>?_) λ_=>?_
  ·refine Hs.loop (λs=>s.1.length=f.Code.length/\AbJ s.1/\0<=s.2/\s.2<=f.Code.length) (λs=>f.Code.length-s.2.toNat) ⟨hx,hs,by simp,by simp⟩ ?_
   rintro⟨y,k⟩ ⟨hy,hys,hk0,hk1⟩;simp only at hy hys hk0 hk1;unfold XE;refine .dec (λhk=>?_) λ_=>.lft (j4 hv.1 hy hys)
   have hk:k<y.length:=hk;have wk:IntKind.i64.wrap (k+1)=k+1:=wrap64 (by omega) (by omega)
   refine .chk ⟨hk0,hk⟩ ((Hs.get hk0 hk λz hz=>hys z (aAB hz)).bind λz hz=>?_)
   rw[add_eq z u.1 (by have:=hz.length_le;omega),aA]
   refine .chk ⟨hk0,hk⟩ ((Hs.get hk0 hk λz hz=>hz).bind λ_ _=>.cnt ⟨⟨by simpa using hy,hys.set (hz.add _),by simp only[wk];omega,by simp only[wk];omega⟩,by simp only[wk];omega⟩)
  ·refine(Od hv.1 (n:=(x.length:Int)) (by omega) (by omega)).bind λk hk=>(Od hk.1 (by omega) (by omega)).bind λt ht=>.beq (λ_=>?_) λ_=>?_
   ·refine .chk hk.2 ((Hs.get hk.2.1 hk.2.2 λz hz=>hs z (aAB hz)).bind λz hz=>?_)
    rw[add_eq z u.1 (by have:=hz.length_le;omega),aA]
    exact .chk hk.2 ((Hs.get hk.2.1 hk.2.2 λz hz=>hz).bind λ_ _=>j4 ht.1 (by simpa using hx) (hs.set (hz.add _)))
   ·refine .chk hk.2 ((Hs.get hk.2.1 hk.2.2 λz hz=>hs z (aAB hz)).bind λz hz=>?_)
    rw[Atk z u.1 (by have:=hz.length_le;omega),aA]
    exact .chk hk.2 ((Hs.get hk.2.1 hk.2.2 λz hz=>hz).bind λ_ _=>j4 ht.1 (by simpa using hx) (hs.set (hz.filter _)))
theorem AwV (h:okC c) (hi:ixO p.Funcs i=some f) (hf:Oi f) (hd:PW f) (hml:AbH f) (hlast:Ux f) (hc:Acy p.Funcs.length f) (hp:p.Funcs.length<=1000) :
  Hs (Vn c p i) λq=>okC q.2/\q.1.To.length=f.Slots.length/\q.1.Keep.length=f.Code.length:=by
 have hlen:=hf.len';have hlen1:=hf.len;have hsl:=hf.slots;unfold Vn;rw[hi,aA];refine(AnS hi hf hd hml hlast hc hp).bind λq hq=>?_
 obtain⟨⟨hto,hkl,_⟩,_⟩:=hq;have htl:=hto.1;refine .chk (by simp;omega) (.chk (by simp;omega) ?_)
 have j1:∀ {l:List Int} {a:Int} {x:List Int} {y:List Bool},okC ⟨l,a⟩->x.length=f.Slots.length->y.length=f.Code.length->Hs (Te f l a x y) λq=>okC q.2/\q.1.To.length=f.Slots.length/\q.1.Keep.length=f.Code.length:=by
  intro l a x y hc hx hy;refine(Od hc (by omega) (by omega)).bind λr hr=>?_
  refine Hs.loop (λs=>okC ⟨s.1,s.2.1⟩/\s.2.2.1.length=f.Slots.length/\s.2.2.2.1.length=f.Code.length/\0<=s.2.2.2.2/\s.2.2.2.2<4) (λs=>s.2.2.2.2.toNat) ⟨hr.1,hx,hy,hr.2.1,hr.2.2⟩ ?_
  rintro⟨l,a,x,y,n⟩ ⟨hc,hx,hy,hn0,hn1⟩;replace hx:x.length=f.Slots.length:=hx;replace hy:y.length=f.Code.length:=hy;replace hn0:0<=n:=hn0;replace hn1:n<4:=hn1;have w:IntKind.i64.wrap (n-1)=n-1:=wrap64 (by omega) (by omega)
  dsimp only;refine .dec (λhp=>?_) λ_=>.lft (.pure ⟨hc,hx,hy⟩)
  have j5:∀ {l:List Int} {a:Int} {x:List Int} {y:List Bool},okC ⟨l,a⟩->x.length=f.Slots.length->y.length=f.Code.length->Hs (Pe n l a x y) (Rnd (λs:List Int×Int×List Int×List Bool×Int=>okC ⟨s.1,s.2.1⟩/\s.2.2.1.length=f.Slots.length/\s.2.2.2.1.length=f.Code.length/\0<=s.2.2.2.2/\s.2.2.2.2<4) (λs=>s.2.2.2.2.toNat) (‹List Int›,‹Int›,x,y,n) (λq:NO×BR=>okC q.2/\q.1.To.length=f.Slots.length/\q.1.Keep.length=f.Code.length)):=by
   intro l a x y hc hx hy;unfold Pe;exact .cnt ⟨⟨hc,hx,hy,by grind,by grind⟩,by grind⟩
  refine(Od hc (by omega) (by omega)).bind λr hr=>(Od hr.1 (by omega) (by omega)).bind λu hu=>?_
  have j7:∀ {l:List Int} {a:Int} (b:Bool),okC ⟨l,a⟩->Hs (RR r y n x l a b) (Rnd (λs:List Int×Int×List Int×List Bool×Int=>okC ⟨s.1,s.2.1⟩/\s.2.2.1.length=f.Slots.length/\s.2.2.2.1.length=f.Code.length/\0<=s.2.2.2.2/\s.2.2.2.2<4) (λs=>s.2.2.2.2.toNat) (‹List Int›,‹Int›,x,y,n) (λq:NO×BR=>okC q.2/\q.1.To.length=f.Slots.length/\q.1.Keep.length=f.Code.length)):=by
   intro l a b hc;refine .cond (λ_=>.chk (by omega) ((Hs.get (P:=λ_=>True) (by omega) (by omega) λ_ _=>trivial).bind λv _=>.chk (by omega) ((Hs.get (P:=λ_=>True) (by omega) (by omega) λ_ _=>trivial).bind λ_ _=>j5 hc hx (by simp_all)))) λ_=>j5 hc hx hy
  have j9:∀ {l:List Int} {a:Int} (b:Bool),okC ⟨l,a⟩->0<f.Slots.length\/b=false->Hs (Tg f x n y l a b) (Rnd (λs:List Int×Int×List Int×List Bool×Int=>okC ⟨s.1,s.2.1⟩/\s.2.2.1.length=f.Slots.length/\s.2.2.2.1.length=f.Code.length/\0<=s.2.2.2.2/\s.2.2.2.2<4) (λs=>s.2.2.2.2.toNat) (‹List Int›,‹Int›,x,y,n) (λq:NO×BR=>okC q.2/\q.1.To.length=f.Slots.length/\q.1.Keep.length=f.Code.length)):=by
   intro l a b hc hb;refine .cond (λe=>?_) λ_=>j5 hc hx hy
   have h0:0<f.Slots.length:=by
    simp_all
   exact(Od hc (n:=(f.Slots.length:Int)) (by omega) (by omega)).bind λs hs=>(AmS hs.1).bind λt ht=>.chk (by omega) ((Hs.get (P:=λ_=>True) (by omega) (by omega) λ_ _=>trivial).bind λ_ _=>j5 ht.1 (by simp_all) hy)
  have j6:∀ b:Bool,Hs (Tf f r y n x u b) (Rnd (λs:List Int×Int×List Int×List Bool×Int=>okC ⟨s.1,s.2.1⟩/\s.2.2.1.length=f.Slots.length/\s.2.2.2.1.length=f.Code.length/\0<=s.2.2.2.2/\s.2.2.2.2<4) (λs=>s.2.2.2.2.toNat) (‹List Int›,‹Int›,x,y,n) (λq:NO×BR=>okC q.2/\q.1.To.length=f.Slots.length/\q.1.Keep.length=f.Code.length)):=by
   intro b;refine .cond (λ_=>?_) λ_=>.beq (λ_=>.dec (λh0=>?_) λ_=>j5 hu.1 hx hy) λ_=>.beq (λ_=>.dec (λh0=>?_) λ_=>j9 false hu.1 (.inr rfl)) λ_=>j5 hu.1 hx hy
   ·refine(Hs.ix (P:=λ_=>True) hr.2.1 hr.2.2 λ_ _=>trivial).bind λz _=>.cond (λ_=>j7 true hu.1) λ_=>.cond (λ_=>j7 true hu.1) λ_=>?_
    exact(Od hu.1 (by omega) (by omega)).bind λv hv=>j7 _ hv.1
   ·refine(Od hu.1 (n:=(f.Slots.length:Int)) (by omega) (by omega)).bind λs hs=>(AvO hs.1 hs.2.1 hs.2.2 (by omega)).bind λt ht=>?_
    obtain⟨t0,t1,_⟩:=ht.2;refine .chk (by omega) ((Hs.get (P:=λ_=>True) (by omega) (by omega) λ_ _=>trivial).bind λv _=>?_)
    refine Hs.loop (λq=>∃ k:Nat,q.2=(k:Int)/\k<=f.Slots.length/\q.1.length=f.Slots.length) (λq=>f.Slots.length-q.2.toNat) ⟨0,rfl,aAD _,hx⟩ ?_
    rintro⟨z,_⟩ ⟨k,rfl,hk,hz⟩;replace hz:z.length=f.Slots.length:=hz;dsimp only;refine .dec (λhlt=>?_) λ_=>.lft (j5 ht.1 hz hy)
    have hlt:k<f.Slots.length:=by omega
    rw[NP (by omega)]
    exact .chk (by omega) ((Hs.get (P:=λ_=>True) (by omega) (by omega) λ_ _=>trivial).bind λ_ _=>.beq (λ_=>.chk (by omega) ((Hs.get (P:=λ_=>True) (by omega) (by omega) λ_ _=>trivial).bind λ_ _=>.cnt ⟨⟨k+1,rfl,hlt,by simp_all⟩,by grind⟩)) λ_=>.cnt ⟨⟨k+1,rfl,hlt,hz⟩,by grind⟩)
   ·have h0:0<f.Slots.length:=by omega
    exact(Od hu.1 (by omega) (by omega)).bind λv hv=>j9 _ hv.1 (.inl h0)
  exact .cond (λ_=>j6 _) λ_=>j6 _
 refine(Od h (by omega) (by omega)).bind λr hr=>.cond (λ_=>?_) λ_=>j1 hr.1 (by simp_all) (by simp_all)
 refine Hs.loop (λq=>∃ k:Nat,q.2=(k:Int)/\k<=f.Slots.length/\q.1.length=f.Slots.length) (λq=>f.Slots.length-q.2.toNat) ⟨0,rfl,aAD _,by simp_all⟩ ?_
 rintro⟨x,_⟩ ⟨k,rfl,hk,hx⟩;replace hx:x.length=f.Slots.length:=hx;dsimp only;refine .dec (λhlt=>?_) λ_=>.lft ?_
 ·have hlt:k<f.Slots.length:=by omega
  rw[NP (by omega)]
  exact .chk (by omega) ((Hs.get (P:=λ_=>True) (by omega) (by omega) λ_ _=>trivial).bind λ_ _=>.cnt ⟨⟨k+1,rfl,hlt,by simp_all⟩,by grind⟩)
 ·refine Hs.loop (λq=>∃ k:Nat,q.2=(k:Int)/\k<=f.Code.length/\q.1.length=f.Code.length) (λq=>f.Code.length-q.2.toNat) ⟨0,rfl,aAD _,by simp_all⟩ ?_
  rintro⟨y,_⟩ ⟨k,rfl,hk,hy⟩;replace hy:y.length=f.Code.length:=hy;dsimp only;refine .dec (λhlt=>?_) λ_=>.lft (j1 hr.1 hx hy)
  have hlt:k<f.Code.length:=by omega
  rw[NP (by omega)]
  exact .chk (by omega) ((Hs.get (P:=λ_=>True) (by omega) (by omega) λ_ _=>trivial).bind λ_ _=>.cnt ⟨⟨k+1,rfl,hlt,by simp_all⟩,by grind⟩)
end Go.Proofs.YtcaoepecbgggcaaGreatDoor
namespace Go.Dw
open Go
theorem Ayl (x k w:Nat) (hx:x<2 ^ w) (hk:k<=w):x &&& (2 ^ w-1-(2 ^ k-1))=x / 2 ^ k*2 ^ k:=by
 have hle:2 ^ k<=2 ^ w:=aAJ (by omega) hk
 have h0:0<2 ^ k:=aAc k;apply Nat.eq_of_testBit_eq
 grind [Nat.testBit_lt_two_pow,Nat.lt_of_lt_of_le,aAJ]
theorem AAj (x:Int) (k:Nat) (hk:k<=24) (h0:0<=x) (h1:x<4611686018427387904) :
  IntKind.i64.wrap (((aAY IntKind.i64.bits x &&& ~~~ aAY IntKind.i64.bits ((2 ^ k-1:Nat):Int)).toNat:Nat):Int)=x-x % ((2 ^ k:Nat):Int):=by
 obtain⟨n,rfl⟩:∃ n:Nat,x=(n:Int):=⟨x.toNat,by omega⟩
 have hp:2 ^ k<=2 ^ 24:=aAJ (by omega) hk
 have hp0:0<2 ^ k:=aAc k;have hn:n<2 ^ 64:=by omega
 have hb:IntKind.i64.bits=64:=rfl;rw[hb,BitVec.toNat_and,BitVec.toNat_not];have e1:(aAY 64 (n:Int)).toNat=n:=by simp;omega
 have e2:(aAY 64 ((2 ^ k-1:Nat):Int)).toNat=2 ^ k-1:=by
  grind
 rw[e1,e2,Ayl n k 64 hn (by omega)]
 have hm:=Nat.div_add_mod n (2 ^ k)
 grind [wrap64]
end Go.Dw
namespace Go.Proofs.YtcaoepecbgggcaaGreatDoor
open Go Go.Dw Go.Proofs
variable {a i:Int} {p:NG} {f:Mk}
def TN (a:NV):Prop:=0<=a.Off/\a.Off<=2147483647/\0<=a.Size/\a.Size<=2147483647/\a.Off+a.Size<=2147483647
def AfS (a b:NV):Prop:=TN a/\TN b/\0<a.Size/\0<b.Size/\a.Off<b.Off+b.Size/\b.Off<a.Off+a.Size
def InI (a:NV) (n:Int):Prop:=TN a/\a.Off+a.Size<=n
instance (a:NV):Decidable (TN a):=by unfold TN;infer_instance
instance (a b:NV):Decidable (AfS a b):=by unfold AfS;infer_instance
instance (a:NV) (n:Int):Decidable (InI a n):=by unfold InI;infer_instance
theorem AnW (a:NV):Rb a=some (decide (TN a)):=by
 unfold Rb;simp only[AbN,aA]
 by_cases h1:0<=a.Off/\a.Off<=2147483647
 ·rw[decide_eq_true h1,cond_true]
  by_cases h2:0<=a.Size/\a.Size<=2147483647
  ·rw[decide_eq_true h2,cond_true,wrap64 (by omega) (by omega)]
   simp_all[TN]
  ·rw[decide_eq_false h2,cond_false,decide_eq_false (λh=>h2 ⟨h.2.2.1,h.2.2.2.1⟩)]
 ·rw[decide_eq_false h1,cond_false,decide_eq_false (λh=>h1 ⟨h.1,h.2.1⟩)]
theorem AwO {m:Nat} (hm:m<=24):RJ ((2 ^ m:Nat):Int)=some true:=by
 have:Hs (RJ ((2 ^ m:Nat):Int)) λb=>b=true:=by
  unfold RJ;have hp:2 ^ m<=2 ^ 24:=aAJ (by omega) hm
  refine Hs.loop (λk=>∃ j:Nat,k=((2 ^ j:Nat):Int)/\j<=m) (λk=>2 ^ m-k.toNat) ⟨0,rfl,aAD _⟩ ?_
  rintro _ ⟨j,rfl,hj⟩;have hjp:2 ^ j<=2 ^ m:=aAJ (by omega) hj
  have hj0:0<2 ^ j:=aAc j;unfold Ra;refine .dec (λ_=>.beq (λ_=>.lft (.pure rfl)) λhne=>?_) λh=>(h (by omega)).elim
  have hlt:j<m:=by
   grind
  have h2:2 ^ (j+1)<=2 ^ m:=aAJ (by omega) hlt
  have h3:2 ^ (j+1)=2 ^ j*2:=Nat.pow_succ 2 j;refine .cnt ⟨⟨j+1,?_,hlt⟩,?_⟩
  all_goals grind [wrap64]
 obtain⟨r,h,rfl⟩:=this;exact h
def upN (n a:Int):Int:=n+(-n) % a
theorem VX {n:Int} (ha:0<a):n<=upN n a/\upN n a<n+a/\upN n a % a=0:=by
 have h1:=aAk (-n) (show a≠0 by omega)
 have h2:=aAf (-n) ha;refine⟨by grind [upN],by grind [upN],?_⟩
 unfold upN;rw[Int.emod_def (-n) a]
 grind [Int.mul_neg,Int.mul_emod_right]
def RZ (a:Int):Prop:=∃ m:Nat,m<=24/\a=((2 ^ m:Nat):Int)
theorem RZ.rng (h:RZ a):1<=a/\a<=16777216:=by
 obtain⟨m,hm,rfl⟩:=h;have hp:2 ^ m<=2 ^ 24:=aAJ (by omega) hm
 grind
theorem AxT {n:Int} (h0:0<=n) (h1:n<=1000000000) (ha:RZ a):YD n a=some (upN n a,0):=by
 obtain⟨a1,a2⟩:=ha.rng;obtain⟨m,hm,rfl⟩:=ha;unfold YD;rw[AbN,aA,decide_eq_true (show 0<=n/\n<=2147483647 by omega)]
 simp only[aAT,cond_false,AwO hm,aA];generalize((2 ^ m:Nat):Int)=a at *;unfold Aeq AaR;have ht:n.tmod a=n % a:=aAh h0;have e1:=aAk n (show a≠0 by omega)
 have e2:=aAf n (show 0<a by omega)
 have e3:=aAk (-n) (show a≠0 by omega)
 have e4:=aAf (-n) (show 0<a by omega)
 rw[OO (by omega),ht]
 have key:(n % a=0->upN n a=n)/\(n % a≠0->upN n a=n-n % a+a):=by
  unfold upN;constructor
  ·simp_all[Int.emod_eq_zero_of_dvd,aAR]
  ·intro h;have hs:(n % a+(-n) % a) % a=0:=by
    rw[Int.emod_def n a,Int.emod_def (-n) a];have:n-a*(n / a)+(-n-a*(-n / a))=a*(-(n / a)+ -(-n / a)):=by grind
    simp_all
   have hq:n % a+(-n) % a=a:=by
    obtain⟨q,hq⟩:=aAR hs;have q1:0<q:=by
     rcases Int.lt_or_le 0 q with h|h
     ·exact h
     ·have:=aAS h (show 0<=a by omega)
      omega
    have q2:q<2:=by
     rcases Int.lt_or_le q 2 with h|h
     ·exact h
     ·have:=aAS h (show 0<=a by omega)
      omega
    grind
   omega
 by_cases h:n % a=0
 ·grind
 ·have:=key.2 h;rw[show(n % a != 0)=true by simp_all,cond_true,OO (by omega),wrap64 (n:=n-n % a) (by omega) (by omega),wrap64 (by omega) (by omega),<- this,decide_eq_false (by omega),cond_false]
theorem Apn (n:Int):Th n=some (decide (0<=n/\n<=2147483647)):=by
 rw[<- AbN];rfl
theorem Atb (a:NV):UD a=some (decide (TN a)):=by
 rw[<- AnW]
 grind [UD,Rb,Apn,AbN]
theorem AwA {m:Nat} (hm:m<=24):PV ((2 ^ m:Nat):Int)=some true:=by
 have hp:2 ^ m<=2 ^ 24:=aAJ (by omega) hm
 have h0:0<2 ^ m:=aAc m;have hz:(2 ^ m) &&& (2 ^ m-1)=0:=by simp_all
 unfold PV;generalize 2 ^ m=a at *;rw[decide_eq_true (show((a:Nat):Int)>=1 by omega),cond_true,decide_eq_true (show((a:Nat):Int)<=16777216 by omega),cond_true,wrap64 (n:=(a:Int)-1) (by omega) (by omega)]
 have hb:IntKind.i64.bits=64:=rfl;have e1:(aAY 64 (a:Int)).toNat=a:=by grind
 have e2:(aAY 64 ((a:Int)-1)).toNat=a-1:=by grind
 rw[hb,BitVec.toNat_and,e1,e2,hz];rfl
theorem AvA {u v:Int} (ha:0<a) (hu:u % a=0) (hv:v % a=0) (h1:u-v<a) (h2:v-u<a):u=v:=by
 obtain⟨p,rfl⟩:=aAR hu;obtain⟨q,rfl⟩:=aAR hv;have key:∀ x y:Int,x<y->a*x+a<=a*y:=λx y h=>by
  have:=aAS (show x+1<=y by omega) (show 0<=a by omega)
  grind
 rcases Int.lt_trichotomy p q with h|h|h
 ·grind
 ·rw[h]
 ·have:=key q p h;omega
theorem AzG {n:Int} (h0:0<=n) (h1:n<=4000000000) (ha:RZ a):AfG n a=some (upN n a):=by
 obtain⟨a1,a2⟩:=ha.rng;obtain⟨m,hm,rfl⟩:=ha;obtain⟨p1,p2,p3⟩:=VX (n:=n) (a:=((2 ^ m:Nat):Int)) (by omega)
 unfold AfG;have w1:IntKind.i64.wrap (n+((2 ^ m:Nat):Int))=n+((2 ^ m:Nat):Int):=wrap64 (by omega) (by omega)
 have w2:IntKind.i64.wrap (n+((2 ^ m:Nat):Int)-1)=n+((2 ^ m:Nat):Int)-1:=wrap64 (by omega) (by omega)
 have w3:IntKind.i64.wrap (((2 ^ m:Nat):Int)-1)=((2 ^ m-1:Nat):Int):=by grind [wrap64]
 rw[w1,w2,w3,AAj _ m hm (by omega) (by omega)]
 have key:n+((2 ^ m:Nat):Int)-1-(n+((2 ^ m:Nat):Int)-1) % ((2 ^ m:Nat):Int)=upN n ((2 ^ m:Nat):Int):=by
  refine AvA (a:=((2 ^ m:Nat):Int)) (by omega) ?_ p3 (by omega) (by omega)
  simp_all
 rw[key]
theorem Axw {n:Int} (h0:0<=n) (h1:n<=1000000000) (ha:RZ a):AbW n a=some (upN n a,0):=by
 have h2:=AzG h0 (by omega) ha
 obtain⟨a1,a2⟩:=ha.rng;obtain⟨p1,p2,p3⟩:=VX (n:=n) (a:=a) (by omega)
 have hp:PV a=some true:=by obtain⟨m,hm,rfl⟩:=ha;exact AwA hm
 unfold AbW;rw[Apn,aA,decide_eq_true (show 0<=n/\n<=2147483647 by omega)]
 simp only[aAT,cond_false,hp,aA];unfold AbX TV
 grind
theorem AvL {x y:Int} (hx:0<=x/\x<=1000000000) (hy:0<=y/\y<=1000000000):XU x y=some (x+y,0):=by
 grind [XU,AaC,TV,Apn,wrap64]
theorem AwK (a b:NV):Vf a b=some (decide (AfS a b)):=by
 unfold Vf;simp only[AnW,aA]
 by_cases h1:TN a
 ·by_cases h2:TN b
  ·have e1:IntKind.i64.wrap (b.Off+b.Size)=b.Off+b.Size:=by grind [TN,wrap64]
   have e2:IntKind.i64.wrap (a.Off+a.Size)=a.Off+a.Size:=by grind [TN,wrap64]
   simp only[h1,h2,decide_true,cond_true,e1,e2,AfS,true_and]
   grind
  grind [AfS]
 grind [AfS]
theorem TN.wrap {a:NV} (h:TN a):IntKind.i64.wrap (a.Off+a.Size)=a.Off+a.Size:=by
 grind [TN,wrap64]
theorem Ate (a:NV) (n:Int):Zt a n=some (decide (InI a n)):=by
 unfold Zt;rw[AnW,aA]
 by_cases h:TN a
 ·rw[decide_eq_true h,cond_true,h.wrap];simp[InI,h]
 simp_all[InI]
theorem Awy (a:NV) (n:Int):Sv a n=some (decide (InI a n)):=by
 rw[<- Ate]
 grind [Sv,Zt,Atb,AnW]
theorem Avu (a b:NV):Wc a b=some (decide (AfS a b)):=by
 unfold Wc Aec;simp only[Atb,aA]
 by_cases h1:TN a
 ·by_cases h2:TN b
  ·rw[h1.wrap,h2.wrap];simp only[h1,h2,decide_true,cond_true,AfS,true_and,Option.some.injEq];refine decide_eq_decide.2 ?_
   grind [OX,TH]
  grind [AfS]
 grind [AfS]
theorem Yq (m:Nat) (hm:m<=24):RZ ((2 ^ m:Nat):Int):=⟨m,hm,rfl⟩
theorem AdU.al {s:NQ} (h:AdU s):RZ s.Align/\s.Align<=64/\1<=s.Size/\s.Size<=16:=by
 obtain⟨h1,h2⟩:=h;have ha:RZ s.Align/\s.Align<=64:=by
  simp only[aAg,List.not_mem_nil,or_false]at h2;rcases h2 with h|h|h|h|h|h|h|h<;>rw[h]
  ·exact⟨Yq 3 (by omega),by omega⟩
  ·exact⟨Yq 2 (by omega),by omega⟩
  ·exact⟨Yq 0 (by omega),by omega⟩
  ·exact⟨Yq 3 (by omega),by omega⟩
  ·exact⟨Yq 4 (by omega),by omega⟩
  ·exact⟨Yq 1 (by omega),by omega⟩
  ·exact⟨Yq 5 (by omega),by omega⟩
  ·exact⟨Yq 6 (by omega),by omega⟩
 grind
def AjT (s:NQ):Prop:=s.Size∈([1,2,4,8,16]:List Int)/\RZ s.Align
theorem AjT.al {s:NQ} (h:AjT s):RZ s.Align/\s.Align<=16777216/\1<=s.Size/\s.Size<=16:=by
 refine⟨h.2,h.2.rng.2,?_⟩;have:=h.1
 grind
theorem AdU.wide {s:NQ} (h:AdU s):AjT s:=by
 refine⟨?_,h.al.1⟩;have:=h.1;simp only[aAg,List.not_mem_nil,or_false]at this ⊢;omega
def Acz (p:NG) (n:Int) (x:Lo):Int:=if x.Op=18 then OX n (x.A+1)else if x.Op=22 then OX n (((p.Funcs[x.A.toNat]?).map Mk.Params).getD 0)else n
def QA (p:NG) (f:Mk) (k:Nat):Int:=(f.Code.take k).foldl (Acz p) 0
def AeC (p:NG) (f:Mk):Prop:=∀ x∈f.Code,(x.Op=18->0<=x.A/\x.A<8)/\(x.Op=22->0<=x.A/\∃ g,p.Funcs[x.A.toNat]? =some g/\0<=g.Params/\g.Params<=8)
theorem AbL {k:Nat} (hk:k<f.Code.length):QA p f (k+1)=Acz p (QA p f k) f.Code[k]:=by
 grind [QA,aAZ]
theorem AuF {b c:Int} (h0:0<=a/\a<=c) (h1:b<=c):0<=OX a b/\OX a b<=c:=by grind [OX]
theorem AbK {p:NG} {f:Mk} (h:AeC p f):∀ {k:Nat},k<=f.Code.length->0<=QA p f k/\QA p f k<=8
 | 0,_=>by simp[QA]
 | k+1,hk=>by
  rw[AbL hk];have ih:=AbK h (k:=k) (by omega)
  obtain⟨h1,h2⟩:=h _ (aAF hk);unfold Acz;split
  ·exact AuF ih (by omega)
  ·split
   ·obtain⟨_,g,hg,hp⟩:=h2 ‹_›;rw[hg];exact AuF ih (by simp_all)
   ·exact ih
theorem AuN (hi:ixO p.Funcs i=some f) (hl:f.Code.length<=10000) (h:AeC p f):Ts p i=some (16*QA p f f.Code.length):=by
 have:Hs (Ts p i) λr=>r=16*QA p f f.Code.length:=by
  unfold Ts;rw[hi,aA];refine Hs.loop (λq=>∃ k:Nat,q=(QA p f k,(k:Int))/\k<=f.Code.length) (λq=>f.Code.length-q.2.toNat) ⟨0,rfl,aAD _⟩ ?_
  rintro _ ⟨k,rfl,hk⟩;have hr:=AbK h hk;refine .dec (λhlt=>?_) λhge=>.lft (.pure ?_)
  ·have hlt:k<f.Code.length:=by omega
   have e:ixO f.Code (k:Int)=some f.Code[k]:=by simp_all
   obtain⟨h1,h2⟩:=h _ (aAF hlt);simp only[e,aA];rw[NP (by omega)]
   refine .beq (λh18=>?_) λh18=>.beq (λh22=>?_) λh22=>?_
   ·rw[wrap64 (by omega) (by omega)]
    exact .cnt ⟨⟨k+1,by grind [AbL,Acz],hlt⟩,by grind⟩
   ·obtain⟨a0,g,hg,hp⟩:=h2 h22;rw[Qn _ a0,hg,aA];exact .cnt ⟨⟨k+1,by grind [AbL,Acz],hlt⟩,by grind⟩
   ·exact .cnt ⟨⟨k+1,by grind [AbL,Acz],hlt⟩,by grind⟩
  ·have:k=f.Code.length:=by omega
   subst this;rw[wrap64 (by omega) (by omega)]
   show QA p f f.Code.length*16=_;omega
 obtain⟨r,h,rfl⟩:=this;exact h
def AvI (s:List NQ):Prop:=s.length<=7/\∀ x∈s,RZ x.Align/\x.Align<=64/\1<=x.Size/\x.Size<=16
def AdV (s:List NQ):Prop:=s.length<=40/\∀ x∈s,RZ x.Align/\x.Align<=16777216/\1<=x.Size/\x.Size<=16
theorem AvI.w {s:List NQ} (h:AvI s):AdV s:=⟨by have:=h.1;omega,λx hx=>⟨(h.2 x hx).1,by have:=(h.2 x hx).2.1;omega,(h.2 x hx).2.2⟩⟩
def AkI (q:List Int×Int) (s:NQ):List Int×Int:=(q.1++[upN q.2 s.Align],upN q.2 s.Align+s.Size)
def plK (s:List NQ) (a:Int) (k:Nat):List Int×Int:=(s.take k).foldl AkI ([],a)
theorem AhM {s:List NQ} {k:Nat} (hk:k<s.length):plK s a (k+1)=AkI (plK s a k) s[k]:=by
 grind [plK,aAZ]
theorem Akh {s:List NQ} (h:AdV s) {a:Int} (ha:0<=a/\a<=1000):∀ {k:Nat},k<=s.length->(plK s a k).1.length=k/\a<=(plK s a k).2/\(plK s a k).2<=a+16777240*k
 | 0,_=>by simp[plK]
 | k+1,hk=>by
  have ih:=Akh h ha (k:=k) (by omega)
  obtain⟨h1,h2,h3,h4⟩:=h.2 _ (aAF hk);obtain⟨u1,u2,_⟩:=VX (n:=(plK s a k).2) (a:=s[k].Align) (by have:=h1.rng;omega)
  grind [AhM,AkI]
def Um (p:NG) (f:Mk) (al:Int):NN:=⟨16*QA p f f.Code.length,upN (plK f.Slots (16*QA p f f.Code.length) f.Slots.length).2 al,(plK f.Slots (16*QA p f f.Code.length) f.Slots.length).1⟩
theorem Arq (hi:ixO p.Funcs i=some f) (hl:f.Code.length<=10000) (h:AeC p f) (hs:AdV f.Slots) {al:Int} (ha:RZ al) (ha':al<=16777216):SM p i al=some (Um p f al,0):=by
 have hr:=AbK h (k:=f.Code.length) (aAe _);have hsl:=hs.1;have:Hs (SM p i al) λr=>r=(Um p f al,0):=by
  unfold SM;rw[AuN hi hl h,aA,hi,aA];unfold Um;have hr2:0<=16*QA p f f.Code.length/\16*QA p f f.Code.length<=128:=by omega
  generalize 16*QA p f f.Code.length=a0 at *;refine Hs.loop (λq=>∃ k:Nat,q=((plK f.Slots a0 k).1,(k:Int),(plK f.Slots a0 k).2)/\k<=f.Slots.length) (λq=>f.Slots.length-q.2.1.toNat) ⟨0,rfl,aAD _⟩ ?_
  rintro _ ⟨k,rfl,hk⟩;obtain⟨q1,q2,q3⟩:=Akh hs (a:=a0) (by omega) hk
  dsimp only;refine .dec (λhlt=>?_) λhge=>.lft ?_
  ·have hlt:k<f.Slots.length:=by omega
   have e:ixO f.Slots (k:Int)=some f.Slots[k]:=by simp_all
   obtain⟨h1,h2,h3,h4⟩:=hs.2 _ (aAF hlt);obtain⟨u1,u2,_⟩:=VX (n:=(plK f.Slots a0 k).2) (a:=f.Slots[k].Align) (by have:=h1.rng;omega)
   simp only[e,aA];rw[AxT (by omega) (by omega) h1,aA]
   rw[wrap64 (n:=2147483519-f.Slots[k].Size) (by omega) (by omega),decide_eq_false (by omega),cond_false]
   refine .chk (by simp;omega) (.chk (by simp;omega) ?_)
   rw[e,aA,NP (by omega),wrap64 (by omega) (by omega)]
   exact .cnt ⟨⟨k+1,by grind [AhM,AkI],hlt⟩,by grind⟩
  ·have:k=f.Slots.length:=by omega
   subst this;obtain⟨u1,u2,_⟩:=VX (n:=(plK f.Slots a0 f.Slots.length).2) (a:=al) (by have:=ha.rng;omega)
   rw[AxT (by omega) (by omega) ha,aA]
   rw[decide_eq_false (by omega),cond_false]
   exact .pure rfl
 obtain⟨r,h,rfl⟩:=this;exact h
theorem AuG (hi:ixO p.Funcs i=some f) (hl:f.Code.length<=10000) (h:AeC p f):ZQ p i=some (16*QA p f f.Code.length):=by
 have:Hs (ZQ p i) λr=>r=16*QA p f f.Code.length:=by
  unfold ZQ;rw[hi,aA];refine Hs.loop (λq=>∃ k:Nat,q=((k:Int),QA p f k)/\k<=f.Code.length) (λq=>f.Code.length-q.1.toNat) ⟨0,rfl,aAD _⟩ ?_
  rintro _ ⟨k,rfl,hk⟩;have hr:=AbK h hk;refine .dec (λhlt=>?_) λhge=>.lft (.pure ?_)
  ·have hlt:k<f.Code.length:=by omega
   have e:ixO f.Code (k:Int)=some f.Code[k]:=by simp_all
   obtain⟨h1,h2⟩:=h _ (aAF hlt);simp only[e,aA];rw[NP (by omega)]
   refine .beq (λh18=>?_) λh18=>.beq (λh22=>?_) λh22=>?_
   ·rw[wrap64 (by omega) (by omega)]
    exact .cnt ⟨⟨k+1,by grind [AbL,Acz],hlt⟩,by grind⟩
   ·obtain⟨a0,g,hg,hp⟩:=h2 h22;rw[Qn _ a0,hg,aA];exact .cnt ⟨⟨k+1,by grind [AbL,Acz],hlt⟩,by grind⟩
   ·exact .cnt ⟨⟨k+1,by grind [AbL,Acz],hlt⟩,by grind⟩
  ·have:k=f.Code.length:=by omega
   subst this;rw[wrap64 (by omega) (by omega)]
   exact rfl
 obtain⟨r,h,rfl⟩:=this;exact h
theorem AuH (hi:ixO p.Funcs i=some f) (hl:f.Code.length<=10000) (h:AeC p f) (hs:AdV f.Slots) {al:Int} (ha:RZ al) (ha':al<=16777216):RI p i al=some (Um p f al,0):=by
 have hr:=AbK h (k:=f.Code.length) (aAe _);have hsl:=hs.1;have:Hs (RI p i al) λr=>r=(Um p f al,0):=by
  unfold RI;rw[AuG hi hl h,aA,hi,aA];unfold Um;have hr2:0<=16*QA p f f.Code.length/\16*QA p f f.Code.length<=128:=by omega
  generalize 16*QA p f f.Code.length=a0 at *;refine Hs.loop (λq=>∃ k:Nat,q=((plK f.Slots a0 k).1,(k:Int),(plK f.Slots a0 k).2)/\k<=f.Slots.length) (λq=>f.Slots.length-q.2.1.toNat) ⟨0,rfl,aAD _⟩ ?_
  rintro _ ⟨k,rfl,hk⟩;obtain⟨q1,q2,q3⟩:=Akh hs (a:=a0) (by omega) hk
  dsimp only;refine .dec (λhlt=>?_) λhge=>.lft ?_
  ·have hlt:k<f.Slots.length:=by omega
   have e:ixO f.Slots (k:Int)=some f.Slots[k]:=by simp_all
   obtain⟨h1,h2,h3,h4⟩:=hs.2 _ (aAF hlt);obtain⟨u1,u2,_⟩:=VX (n:=(plK f.Slots a0 k).2) (a:=f.Slots[k].Align) (by have:=h1.rng;omega)
   simp only[e,aA];rw[Axw (by omega) (by omega) h1,aA]
   rw[AvL (by omega) (by omega),aA]
   refine .chk (by simp;omega) ?_
   rw[NP (by omega)]
   exact .cnt ⟨⟨k+1,by grind [AhM,AkI],hlt⟩,by grind⟩
  ·have:k=f.Slots.length:=by omega
   subst this;obtain⟨u1,u2,_⟩:=VX (n:=(plK f.Slots a0 f.Slots.length).2) (a:=al) (by have:=ha.rng;omega)
   unfold Agy Xi;rw[Axw (by omega) (by omega) ha,aA]
   rw[AvL (by omega) (by omega),aA]
   exact .pure rfl
 obtain⟨r,h,rfl⟩:=this;exact h
end Go.Proofs.YtcaoepecbgggcaaGreatDoor
