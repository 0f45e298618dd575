/-
  Plain laws about the typed programs.
-/
import Derived.Test.YtcaoepecbgggcaaGreatDoorDxP
open Bool renaming cond_eq_ite->aAG,not_true->aAa
open Classical renaming byContradiction->aAd
open Int renaming toNat_natCast->aAD,toNat_of_nonneg->aAU,le_refl->aAW,mul_le_mul_of_nonneg_left->aAi,emod_lt_of_pos->aAj,tmod_eq_emod_of_nonneg->aAk,dvd_of_emod_eq_zero->aAo,emod_nonneg->aAq
open List renaming getElem?_eq_getElem->aAA,getElem?_eq_some_iff->aAB,mem_of_getElem?->aAC,getElem_mem->aAF,getElem?_of_mem->aAH,mem_cons_self->aAJ,mem_cons_of_mem->aAK,mem_append->aAM,mem_singleton->aAN,getElem?_eq_none->aAO,getElem?_append_left->aAP,pairwise_cons->aAR,drop_eq_getElem_cons->aAS,take_succ_eq_append_getElem->aAT,length_eq_zero_iff->aAV,take_add_one->aAX,getElem?_set_ne->aAY,mem_filter->aAb,mem_or_eq_of_mem_set->aAc,ext_getElem?->aAe,mem_cons->aAf,take_length->aAg,range_succ->aAh,pairwise_iff_getElem->aAl,foldlM_cons->aAm,not_mem_nil->aAn,append_nil->aAp,getElem?_set_self->aAr,take_of_length_le->aAs,set_getElem_self->aAu
open Nat renaming zero_le->aAE,not_lt_zero->aAI,le_refl->aAQ,pow_le_pow_right->aAZ
open Option renaming bind_some->aA,bind_eq_some_iff->aAL,map_eq_some_iff->aAt,bind_eq_bind->aAv
namespace Go.Dw
section
variable {ι R α:Type} {body:ι->Option (ι⊕R)} {v:R}
theorem Sf {α β:Type} (s:List α) (mk:β->Int->ι) (I:β->Nat->Prop) (F:β->List α->Option R)
  (hnil:∀ acc,I acc s.length->∃ v,body (mk acc s.length)=some (.inr v)/\F acc []=some v)
  (hcons:∀ acc (i:Nat) x r,I acc i->s.drop i=x::r->i<s.length->s[i]? =some x ->
   (∃ acc',I acc' (i+1)/\body (mk acc i)=some (.inl (mk acc' ((i+1:Nat):Int)))/\F acc (x::r)=F acc' r)\/(∃ v,body (mk acc i)=some (.inr v)/\F acc (x::r)=some v))
  (acc:β) (h0:I acc 0):NW body (mk acc 0)=F acc s:=by
 have:∀ k i acc,i+k=s.length->I acc i->NW body (mk acc (i:Nat))=F acc (s.drop i):=by
  intro k
  induction k with
  | zero =>
   intro i acc hi hI;simp only[Nat.add_zero]at hi
   grind [Vy]
  | succ k ih =>
   grind [aAS,Vy]
 have:=this s.length 0 acc (by omega) h0
 simp_all
@[simp] theorem Ov (l:List α) (i:Nat):ixO l (i:Int)=l[i]?:=by
 unfold ixO;rw[if_neg (by omega)]
 simp
theorem Ps (l:List α) {i:Int} (h:0<=i):ixO l i=l[i.toNat]?:=by
 simp_all[ixO,if_neg]
@[simp] theorem AzB (l:List α) (i:Nat):ixO l ((i:Int)+1)=l[i+1]?:=by
 have:=Ov l (i+1);simpa using this
@[simp] theorem AwE (l:List α):ixO l 0=l[0]?:=Ps l (aAW 0)
theorem wrap64 {n:Int} (h0: -9223372036854775808<=n) (h1:n<=9223372036854775807):IntKind.i64.wrap n=n:=Alz h0 h1
@[simp] theorem AzR:IntKind.i64.wrap 0=0:=by decide
@[simp] theorem AzS:IntKind.i64.wrap 1=1:=by decide
@[simp] theorem AzT:IntKind.i64.wrap 2=2:=by decide
@[simp] theorem AzU:IntKind.i64.wrap 3=3:=by decide
theorem NP {i:Nat} (h:i<9223372036854775807):IntKind.i64.wrap ((i:Int)+1)=((i+1:Nat):Int):=by
 grind [wrap64]
@[simp] theorem AzD (r:R):(lft (some r):Option (ι⊕R))=some (.inr r):=rfl
@[simp] theorem AzC:(lft none:Option (ι⊕R))=none:=rfl
@[simp] theorem AxF (s:ι):(cnt s:Option (ι⊕R))=some (.inl s):=rfl
theorem AoM (a b:Int):OI a b=max a b:=by grind [OI]
theorem AxS (a b:Int):SF a b=min a b:=by grind [SF]
end
open Go
variable {i:Int}
def Hs {α:Type} (m:Option α) (P:α->Prop):Prop:=∃ r,m=some r/\P r
section
variable {α β ι R:Type}
theorem Hs.pure {a:α} {P:α->Prop} (h:P a):Hs (some a) P:=⟨a,rfl,h⟩
theorem Hs.bind {m:Option α} {f:α->Option β} {P:α->Prop} {Q:β->Prop} (h:Hs m P) (hf:∀ r,P r->Hs (f r) Q):Hs (m.bind f) Q:=by
 obtain⟨r,rfl,hr⟩:=h;simp_all
theorem Hs.mono {m:Option α} {P Q:α->Prop} (h:Hs m P) (hf:∀ r,P r->Q r):Hs m Q:=by
 obtain⟨r,h1,hr⟩:=h;exact⟨r,h1,hf r hr⟩
theorem Hs.chk {p:Prop} [Decidable p] {m:Option α} {P:α->Prop} (hp:p) (h:Hs m P):Hs (chk p m) P:=by
 grind [Ou]
theorem Hs.cond {b:Bool} {x y:Option α} {P:α->Prop} (h1:b=true->Hs x P) (h2:b=false->Hs y P):Hs (bif b then x else y) P:=by
 grind
theorem Hs.dec {p:Prop} [Decidable p] {x y:Option α} {P:α->Prop} (h1:p->Hs x P) (h2:¬ p->Hs y P):Hs (bif decide p then x else y) P :=
 Hs.cond (λh=>h1 (of_decide_eq_true h)) (λh=>h2 (of_decide_eq_false h))
theorem Hs.beq {a b:Int} {x y:Option α} {P:α->Prop} (h1:a=b->Hs x P) (h2:a≠b->Hs y P):Hs (bif a==b then x else y) P :=
 Hs.cond (λh=>h1 (by simp_all)) (λh=>h2 (by simp_all))
theorem Hs.bne {a b:Int} {x y:Option α} {P:α->Prop} (h1:a≠b->Hs x P) (h2:a=b->Hs y P):Hs (bif a != b then x else y) P :=
 Hs.cond (λh=>h1 (by simp_all)) (λh=>h2 (by simp_all))
theorem Hs.cnt {s:ι} {P:ι⊕R->Prop} (h:P (.inl s)):Hs (Go.Dw.cnt s) P:=⟨_,rfl,h⟩
theorem Hs.lft {m:Option R} {P:ι⊕R->Prop} (h:Hs m λr=>P (.inr r)):Hs (Go.Dw.lft m) P:=by
 obtain⟨r,rfl,h⟩:=h;exact⟨_,rfl,h⟩
def Rnd (I:ι->Prop) (μ:ι->Nat) (s:ι) (Q:R->Prop):ι⊕R->Prop
 | .inl s'=>I s'/\μ s'<μ s
 | .inr r=>Q r
theorem Hs.loop {body:ι->Option (ι⊕R)} {s:ι} {Q:R->Prop} (I:ι->Prop) (μ:ι->Nat) (h0:I s) (hb:∀ s,I s->Hs (body s) (Rnd I μ s Q)):Hs (NW body s) Q:=by
 refine Apl I Q μ h0 λs hs=>?_
 obtain⟨z,hz,hq⟩:=hb s hs;cases z with
 | inl s'=>exact .inl ⟨s',hz,hq⟩
 | inr r=>exact .inr ⟨r,hz,hq⟩
theorem Hs.get {l:List α} {P:α->Prop} (h0:0<=i) (h1:i<l.length) (h:∀ x,l[i.toNat]? =some x->P x):Hs (l[i.toNat]?) P:=by
 have:l[i.toNat]? =some (l[i.toNat]'(by omega)):=aAA _
 exact⟨_,this,h _ this⟩
theorem Hs.ix {l:List α} {P:α->Prop} (h0:0<=i) (h1:i<l.length) (h:∀ x,l[i.toNat]? =some x->P x):Hs (ixO l i) P:=by
 grind [Ps,Hs.get]
end
theorem Alx (n:Int):0<=IntKind.u64.wrap n/\IntKind.u64.wrap n<18446744073709551616:=by
 grind [IntKind.wrap,IntKind.signed,IntKind.bits]
end Go.Dw
namespace Go.Proofs.YtcaoepecbgggcaaGreatDoor
open Go Go.Dw Go.Proofs
attribute [local simp] Ou aAG
variable {s l ps:List Int} {i k:Nat} {x:Mk} {c:NL} {f:Lo} {sl:List NS} {code:List Mk} {most:Int} {g:List (List Int)}
theorem AoE (n:Int):WR n=some (decide (0<=n/\n<512)):=by
 grind [WR]
theorem AkM {n:Int} (h:0<=n/\n<512):WR n=some true:=by grind [AoE]
theorem Aul {n:Int} (h:¬ (0<=n/\n<512)):WR n=some false:=by grind [AoE]
theorem AcH (s:List Int) (n:Int) (hs:s.length<=9223372036854775807):Vr s n=some (decide (n∈s)):=by
 refine Sf s (λ(_:Unit) i=>i) (λ_ _=>True) (λ_ l=>some (decide (n∈l))) (λ_ _=>⟨_,by simp[ZU],rfl⟩) (λ_ i x r _ hd hi hx=>?_) () trivial
 have w:=NP (show i<9223372036854775807 by omega)
 by_cases h:x=n
 ·simp_all[ZU]
 ·refine .inl ⟨(),trivial,?_,?_⟩
  ·simp_all[ZU]
  grind
def TE (n:Int):List Int->List Int
 | []=>[n]
 | x::r=>if x<n then x::TE n r else if x=n then x::r else n::x::r
theorem Amk (n:Int):∀ s,(TE n s).length<=s.length+1
 | []=>by simp[TE]
 | x::r=>by
  have:=Amk n r
  grind [TE]
def QM (n:Int) (s:List Int):List Int:=if 0<=n/\n<512 then TE n s else s
theorem add_eq (s:List Int) (n:Int) (hs:s.length<=1000000):WQ s n=some (QM n s):=by
 unfold WQ QM;rw[AoE];simp only[aA];have key:∀ d:Bool,NW (λs_1:List Int×Bool×Int=>Ss s n s_1.1 s_1.2.1 s_1.2.2) ([],d,0)=some (if d then s else TE n s):=by
  intro d;have:=Sf (body:=λs_1:List Int×Bool×Int=>Ss s n s_1.1 s_1.2.1 s_1.2.2) s (λ(p:List Int×Bool) i=>(p.1,p.2,i)) (λp i=>p.1.length<=i+(if p.2 then 1 else 0)) (λp l=>some (p.1++(if p.2 then l else TE n l)))
   (λp hp=>by
    obtain⟨out,done⟩:=p;cases done<;>simp only[if_true,Bool.false_eq_true,if_false]at hp
    ·exact⟨out++[n],by simp[Ss,show out.length<=16777215 by omega],by simp[TE]⟩
    simp_all[Ss])
   (λp i x r hp hd hi hx=>by
    obtain⟨out,done⟩:=p;have w:=NP (show i<9223372036854775807 by omega)
    obtain⟨_,rfl⟩:=aAB.1 hx;left;cases done<;>simp only[if_true,Bool.false_eq_true,if_false]at hp
    ·by_cases h1:n<=s[i]
     ·by_cases h2:n<s[i]
      ·refine⟨(out++[n]++[s[i]],true),by simp;omega,?_,?_⟩
       ·simp[Ss,Uw,Tl,hi,h1,h2,w,show out.length<=16777215 by omega,show out.length<=16777214 by omega]
       grind [TE]
      ·refine⟨(out++[s[i]],true),by simp;omega,?_,?_⟩
       ·simp[Ss,Uw,Tl,hi,h1,h2,w,show out.length<=16777215 by omega]
       grind [TE]
     ·refine⟨(out++[s[i]],false),by simp;omega,?_,?_⟩
      ·simp[Ss,Uw,Tl,hi,h1,w,show out.length<=16777215 by omega]
      grind [TE]
    ·refine⟨(out++[s[i]],true),by simp;omega,?_,?_⟩
     ·simp[Ss,Uw,Tl,hi,w,show out.length<=16777215 by omega]
     ·simp)
   ([],d) (by simp)
  simp_all
 grind
def UL:Option Int->List Int->Bool
 | _,[]=>true
 | p,x::r=>decide (0<=x/\x<512)&&(match p with|none=>true|some y=>decide (y<x))&&UL (some x) r
theorem AfY (s:List Int) (hs:s.length<=9223372036854775807):Abi s=some (UL none s):=by
 refine Sf s (λ(_:Option Int) i=>i) (λp i=>match i with|0=>p=none|k+1=>s[k]? =p/\p≠none) (λp l=>some (UL p l)) (λ_ _=>⟨true,by simp[TV],by simp[UL]⟩) (λp i x r hp hd hi hx=>?_) none rfl
 obtain⟨_,rfl⟩:=aAB.1 hx
 by_cases hg:0<=s[i]/\s[i]<512
 ·cases i with
  | zero =>
   subst hp;exact .inl ⟨some s[0],⟨hx,by simp⟩,by simp[TV,hi,AkM hg],by grind [UL]⟩
  | succ k =>
   obtain⟨hp,hpn⟩:=hp;have hk:k<s.length:=by omega
   rw[aAA hk]at hp;subst hp;have w:IntKind.i64.wrap ((k:Int)+1+1)=(k:Int)+1+1:=wrap64 (by omega) (by omega)
   have wp:IntKind.i64.wrap (k:Int)=k:=wrap64 (by omega) (by omega)
   have e0:(k:Int)+1-1=k:=by omega
   by_cases hlt:s[k]<s[k+1]
   ·exact .inl ⟨some s[k+1],⟨hx,by simp⟩,by simp[TV,hi,AkM hg,w,wp,e0,hk,show ¬ s[k+1]<=s[k]by omega,show(0:Int)<k+1 by omega,show(k:Int)+1<s.length by omega],by grind [UL]⟩
   ·exact .inr ⟨false,by simp[TV,hi,AkM hg,w,wp,e0,hk,show s[k+1]<=s[k]by omega,show(0:Int)<k+1 by omega,show(k:Int)+1<s.length by omega],by grind [UL]⟩
 ·exact .inr ⟨false,by simp_all[TV,Aul],by grind [UL]⟩
def OM (s:List Int):Prop:=s.Pairwise (· <·)/\∀ x∈s,0<=x/\x<512
theorem AqV:∀ (p:Option Int) (s:List Int),UL p s=true↔OM s/\∀ y,p=some y->∀ x∈s,y<x
 | p,[]=>by simp[UL,OM]
 | p,x::r=>by
  simp only[UL,Bool.and_eq_true,AqV (some x) r,decide_eq_true_eq,OM,aAR,aAf,forall_eq_or_imp,Option.some.injEq]
  grind
theorem Adu (s:List Int):UL none s=true↔OM s:=by
 grind [AqV]
theorem OM.length_le (h:OM s):s.length<=512:=by
 have:∀ (s:List Int) (a:Int),s.Pairwise (· <·)->(∀ x∈s,a<=x/\x<512)->a<=512->(s.length:Int)<=512-a:=by
  intro s
  induction s with
  | nil=>simp_all
  | cons x r ih =>
   intro a hp hb ha;rw[aAR]at hp;have hx:=hb x (by simp)
   have:=ih (x+1) hp.2 (λy hy=>⟨by grind,(hb y (by simp[hy])).2⟩) (by omega)
   grind
 have:=this s 0 h.1 h.2 (by omega)
 omega
theorem AdF (n m:Int):∀ s,m∈TE n s↔m=n\/m∈s
 | []=>by simp[TE]
 | x::r=>by
  simp only[TE];split
  ·simp only[aAf,AdF n m r]
   grind
  grind
theorem OM.TE {n:Int} (h:OM s) (hn:0<=n/\n<512):OM (Proofs.YtcaoepecbgggcaaGreatDoor.TE n s):=by
 refine⟨?_,λx hx=>?_⟩
 ·replace h:=h.1;clear hn
  induction s<;>grind [Proofs.YtcaoepecbgggcaaGreatDoor.TE,aAR,AdF]
 ·rw[AdF]at hx;rcases hx with rfl|hx
  ·exact hn
  ·exact h.2 x hx
theorem OM.nil:OM []:=⟨List.Pairwise.nil,λx hx=>by cases hx⟩
theorem Ahp (n:Int):Qn n=some (decide (0<=n/\n<512)):=by
 grind [Qn]
theorem AhR {n:Int} (h:0<=n/\n<512):Qn n=some true:=by grind [Ahp]
theorem Asy {n:Int} (h:¬ (0<=n/\n<512)):Qn n=some false:=by grind [Ahp]
theorem Apn (s:List Int) (hs:s.length<=9223372036854775807):Zy s=some (UL none s):=by
 refine Sf s (λ(_:Option Int) i=>i) (λp i=>match i with|0=>p=none|k+1=>s[k]? =p/\p≠none) (λp l=>some (UL p l)) (λ_ _=>⟨true,by simp[Tb],by simp[UL]⟩) (λp i x r hp hd hi hx=>?_) none rfl
 obtain⟨_,rfl⟩:=aAB.1 hx
 by_cases hg:0<=s[i]/\s[i]<512
 ·cases i with
  | zero =>
   subst hp;exact .inl ⟨some s[0],⟨hx,by simp⟩,by simp[Tb,hi,AhR hg],by grind [UL]⟩
  | succ k =>
   obtain⟨hp,hpn⟩:=hp;have hk:k<s.length:=by omega
   rw[aAA hk]at hp;subst hp;have w:IntKind.i64.wrap ((k:Int)+1+1)=(k:Int)+1+1:=wrap64 (by omega) (by omega)
   have wp:IntKind.i64.wrap (k:Int)=k:=wrap64 (by omega) (by omega)
   have e0:(k:Int)+1-1=k:=by omega
   by_cases hlt:s[k]<s[k+1]
   ·exact .inl ⟨some s[k+1],⟨hx,by simp⟩,by simp[Tb,hi,AhR hg,w,wp,e0,hk,show ¬ s[k+1]<=s[k]by omega,show(0:Int)<k+1 by omega,show(k:Int)+1<s.length by omega],by grind [UL]⟩
   ·exact .inr ⟨false,by simp[Tb,hi,AhR hg,w,wp,e0,hk,show s[k+1]<=s[k]by omega,show(0:Int)<k+1 by omega,show(k:Int)+1<s.length by omega],by grind [UL]⟩
 ·exact .inr ⟨false,by simp_all[Tb,Asy],by grind [UL]⟩
theorem Ayb (a b:List Int) (h:a.length<=9223372036854775807):AcO a b=some (decide (a=b)):=by
 unfold AcO
 by_cases hl:a.length=b.length
 ·have:=Sf (body:=λi:Int=>Wl a b i) a (λ(_:List Int) i=>i) (λacc i=>b.drop i=acc) (λacc l=>some (decide (l=acc)))
   (λacc hacc=>⟨true,by simp[Wl],by simp_all⟩) (λacc i x r hacc hd hi hx=>by
    have w:=NP (show i<9223372036854775807 by omega)
    obtain⟨_,rfl⟩:=aAB.1 hx;have hib:i<b.length:=by omega
    have hdb:=aAS hib
    by_cases e:a[i]=b[i]
    ·exact .inl ⟨b.drop (i+1),rfl,by simp[Wl,hi,hib,e,w],by rw[<- hacc,hdb];simp only[List.cons.injEq,e,true_and]⟩
    ·exact .inr ⟨false,by simp[Wl,hi,hib,e],by rw[<- hacc,hdb];simp only[List.cons.injEq,e,false_and,decide_false]⟩)
   b (by simp)
  simp_all
 ·have:¬ a=b:=λe=>hl (by rw[e])
  grind
theorem Aux (a b:List (List Int)) (h:a.length<=9223372036854775807) (hr:∀ s∈a,s.length<=9223372036854775807):YF a b=some (decide (a=b)):=by
 unfold YF
 by_cases hl:a.length=b.length
 ·have:=Sf (body:=λi:Int=>TW a b i) a (λ(_:List (List Int)) i=>i) (λacc i=>b.drop i=acc) (λacc l=>some (decide (l=acc)))
   (λacc hacc=>⟨true,by simp[TW],by simp_all⟩) (λacc i x r hacc hd hi hx=>by
    have w:=NP (show i<9223372036854775807 by omega)
    obtain⟨_,rfl⟩:=aAB.1 hx;have hib:i<b.length:=by omega
    have hdb:=aAS hib;have hs:=Ayb a[i] b[i] (hr _ (aAF _))
    by_cases e:a[i]=b[i]
    ·refine .inl ⟨b.drop (i+1),rfl,?_,by rw[<- hacc,hdb];simp only[List.cons.injEq,e,true_and]⟩
     rw[decide_eq_true e]at hs;simp[TW,hi,hib,hs,w]
    ·refine .inr ⟨false,?_,by rw[<- hacc,hdb];simp only[List.cons.injEq,e,false_and,decide_false]⟩
     rw[decide_eq_false e]at hs
     simp[TW,hi,hib,hs])
   b (by simp)
  simp_all
 ·have:¬ a=b:=λe=>hl (by rw[e])
  grind
theorem AvE (s:List Int) (n:Int) (hs:s.length<=16777215):ZW s n=some (s.filter (· != n)):=by
 unfold ZW;have:=Sf (body:=λp:List Int×Int=>UF s n p.1 p.2) s (λ(out:List Int) i=>(out,i)) (λout i=>out.length<=i) (λout l=>some (out++l.filter (· != n)))
  (λout _=>⟨out,by simp[UF],by simp⟩) (λout i x r ho hd hi hx=>by
   have w:=NP (show i<9223372036854775807 by omega)
   obtain⟨_,rfl⟩:=aAB.1 hx;left
   by_cases h:s[i]=n
   ·exact⟨out,by omega,by simp_all[UF],by simp[h]⟩
   ·exact⟨out++[s[i]],by simp;omega,by simp[UF,hi,h,w,show out.length<=16777215 by omega],by simp[h]⟩)
  [] (by simp)
 simp_all
def QQ (a b:List Int):List Int:=b.foldl (λo x=>QM x o) a
theorem AsA (n:Int) (s:List Int):(QM n s).length<=s.length+1:=by
 grind [QM,Amk]
theorem union_eq (a b:List Int) (h:a.length+b.length<=1000000):Uk a b=some (QQ a b):=by
 unfold Uk QQ;rw[Ou (by simp;omega)]
 have:=Sf (body:=λp:List Int×Int=>XW b p.1 p.2) b (λ(out:List Int) i=>(out,i)) (λout i=>out.length<=a.length+i) (λout l=>some (l.foldl (λo x=>QM x o) out))
  (λout _=>⟨out,by simp[XW],by simp⟩) (λout i x r ho hd hi hx=>by
   have w:=NP (show i<9223372036854775807 by omega)
   obtain⟨_,rfl⟩:=aAB.1 hx;have hl:=AsA b[i] out;left
   exact⟨QM b[i] out,by omega,by simp[XW,hi,add_eq out b[i] (by omega),w],by simp⟩)
  a (by simp)
 simp_all
theorem Aor:∀ {a b:List Int},a.Pairwise (· <·)->b.Pairwise (· <·)->(∀ v∈a,v∈b)->a.Sublist b
 | [],_,_,_,_=>List.nil_sublist _
 | x::a,[],_,_,h=>by grind [aAJ]
 | x::a,y::b,ha,hb,h=>by
  rw[aAR]at ha hb
  by_cases e:x=y
  ·subst e;refine(Aor ha.2 hb.2 λv hv=>?_).cons_cons x
   grind
  ·have hx:x∈b:=by
    simp_all
   have hyx:=hb.1 x hx;refine(Aor (aAR.2 ha) hb.2 λv hv=>?_).cons y
   grind
theorem OM.sub {a b:List Int} (ha:OM a) (hb:OM b) (h:∀ v∈a,v∈b):a.Sublist b:=Aor ha.1 hb.1 h
theorem OM.ext {a b:List Int} (ha:OM a) (hb:OM b) (h:∀ v,v∈a↔v∈b):a=b :=
 (ha.sub hb λv hv=>(h v).1 hv).eq_of_length_le (hb.sub ha λv hv=>(h v).2 hv).length_le
theorem OM.filter {a:List Int} (ha:OM a) (p:Int->Bool):OM (a.filter p) :=
 ⟨ha.1.sublist List.filter_sublist,λx hx=>ha.2 x ((aAb.1 hx).1)⟩
theorem Ow.AfT {n m:Int} (h:OM s/\∀ x∈s,x<n) (hm:0<=m/\m<n) (hn:n<=512):OM (QM m s)/\(∀ x∈QM m s,x<n)/\∀ v,v∈QM m s↔v=m\/v∈s:=by
 unfold QM;rw[if_pos (by omega)]
 refine⟨h.1.TE (by omega),λx hx=>?_,λv=>AdF _ _ _⟩
 grind [AdF]
theorem Vo {n:Int} (hn:n<=512):∀ {b a:List Int},(OM a/\∀ x∈a,x<n)->(∀ x∈b,0<=x/\x<n)->(OM (QQ a b)/\∀ x∈QQ a b,x<n)/\∀ v,v∈QQ a b↔v∈a\/v∈b
 | [],a,ha,_=>⟨ha,λv=>by simp[QQ]⟩
 | x::b,a,ha,hb=>by
  obtain⟨h1,h2,h3⟩:=Ow.AfT ha (hb x (aAJ ..)) hn;obtain⟨h4,h5⟩:=Vo hn ⟨h1,h2⟩ λy hy=>hb y (aAK _ hy)
  grind [QQ]
def Ug (l:List Int) (p:Int->Prop):Prop:=OM l/\∀ v,v∈l↔(0<=v/\v<512)/\p v
theorem Ug.eq {m:List Int} {p q:Int->Prop} (h:Ug l p) (k:Ug m q) (e:∀ v,0<=v->v<512->(p v↔q v)):l=m :=
 h.1.ext k.1 λv=>by
  rw[h.2,k.2];simp_all
theorem Ug.AnI (h:OM l):Ug l (· ∈l):=⟨h,λv=>⟨λk=>⟨h.2 v k,k⟩,λk=>k.2⟩⟩
theorem Ug.mono {p q:Int->Prop} (h:Ug l p) (e:∀ v,0<=v->v<512->(p v↔q v)):Ug l q :=
 ⟨h.1,λv=>by rw[h.2];simp_all⟩
abbrev BS:=NH
def RZ (t:BS):Prop:=∀ w∈t.toList,WW w
theorem BS.len (t:BS):t.toList.length=8:=rfl
variable {t:BS}
def Um (t:BS) (i:Nat):Int:=(t.toList[i]?).getD 0
def hasB (t:BS) (v:Int):Bool:=Adv (Um t (v.toNat / 64)) (v.toNat % 64)
theorem Aac (h:i<8):t.toList[i]? =some (Um t i):=by
 have:t.toList[i]? =some (t.toList[i]'(show i<8 from h)):=aAA _
 grind [Um]
theorem RZ.word (h:RZ t) (hi:i<8):WW (Um t i):=h _ (aAC (Aac hi))
theorem ApL {j:Nat} {w:Int} (hi:i<8):Um (t.set i w) j=if i=j then w else Um t j:=by
 unfold Um;rw[RR,List.getElem?_set]
 by_cases h:i=j
 all_goals simp_all[NH.toList]
theorem RZ.set (h:RZ t) {w:Int} (hw:WW w):RZ (t.set i w):=by
 intro x hx;rw[RR]at hx;rcases aAc hx with h1|rfl
 ·exact h x h1
 ·exact hw
theorem RZ.zero:RZ ⟨0,0,0,0,0,0,0,0⟩:=by
 intro w hw;simp[NH.toList]at hw;exact⟨by omega,by omega⟩
theorem Avg (v:Int):hasB ⟨0,0,0,0,0,0,0,0⟩ v=false:=by
 have:Um ⟨0,0,0,0,0,0,0,0⟩ (v.toNat / 64)=0:=by
  have hl:∀ i:Nat,(([0,0,0,0,0,0,0,0]:List Int)[i]?).getD 0=0:=by
   grind
  exact hl _
 simp_all[hasB,Adv]
theorem AqL (n:Int):0<=(IntKind.u64.wrap n).tmod 64/\(0<=n->n<512->((IntKind.u64.wrap n).tmod 64).toNat=n.toNat % 64):=by
 obtain⟨h0,h1⟩:=Alx n;rw[aAk h0];refine⟨by omega,λha hb=>?_⟩
 rw[AvU ⟨ha,by omega⟩]
 omega
theorem Auu {n:Int} (h0:0<=n) (h1:n<512):IntKind.i64.wrap (n.tdiv 64)=((n.toNat / 64:Nat):Int):=by
 grind [wrap64]
theorem Ayw {n:Int} (h0:0<=n) (h1:n<512):IntKind.u64.wrap (1*2 ^ (Nat.min ((IntKind.u64.wrap n).tmod 64).toNat IntKind.u64.bits))=((2 ^ (n.toNat % 64):Nat):Int):=by
 rw[(AqL n).2 h0 h1];have e:Nat.min (n.toNat % 64) IntKind.u64.bits=n.toNat % 64:=Nat.min_eq_left (by show n.toNat % 64<=64;omega)
 rw[e,Int.one_mul];have hp:2 ^ (n.toNat % 64)<18446744073709551616:=by
  have:=Nat.pow_lt_pow_right (a:=2) (by decide) (show n.toNat % 64<64 by omega)
  omega
 grind [AfI]
theorem ArG (j:Nat) (h:j<64):2 ^ j<18446744073709551616:=by
 have:=Nat.pow_lt_pow_right (a:=2) (by decide) h
 omega
theorem AyQ {n v:Int} (h0:0<=n) (h0':0<=v) (hne:v≠n) (h:n.toNat / 64=v.toNat / 64):v.toNat % 64≠n.toNat % 64:=by omega
theorem ArH (ht:RZ t) (n:Int) (b:Bool):Hs (SH t n b) λr=>RZ r/\∀ v,0<=v->v<512->hasB r v=if v=n then b else hasB t v:=by
 refine .chk (AqL n).1 ?_;rw[Ahp,aA]
 by_cases h:0<=n/\n<512
 ·rw[decide_eq_true h];obtain⟨h0,h1⟩:=h;have hi:n.toNat / 64<8:=by omega
  have hb:=Ayw h0 h1;have hw:=ht.word hi;have hp:WW ((2 ^ (n.toNat % 64):Nat):Int):=WW.nat (ArG _ (by omega))
  have fin:∀ (x:Nat),x<18446744073709551616->(∀ j,j<64->x.testBit j=if j=n.toNat % 64 then b else(Um t (n.toNat / 64)).toNat.testBit j) ->
    RZ (t.set (n.toNat / 64) (x:Int))/\∀ v,0<=v->v<512->hasB (t.set (n.toNat / 64) (x:Int)) v=if v=n then b else hasB t v:=by
   intro x hx hbit;refine⟨ht.set (WW.nat hx),λv hv0 hv1=>?_⟩
   unfold hasB;rw[ApL hi]
   by_cases he:v=n
   ·subst he;rw[if_pos rfl,if_pos rfl];show(x:Int).toNat.testBit _=b;rw[aAD,hbit _ (by omega),if_pos rfl]
   ·rw[if_neg he]
    by_cases hq:n.toNat / 64=v.toNat / 64
    ·rw[if_pos hq];show(x:Int).toNat.testBit _=_;rw[aAD,hbit _ (by omega),if_neg (AyQ h0 hv0 he hq),hq]
     rfl
    simp_all
  cases b with
  | true =>
   simp only[aAa,cond_false,cond_true];rw[Auu h0 h1];refine .chk (by omega) ?_
   rw[aAD,Aac hi,aA];refine .chk (by omega) ?_
   rw[aA];refine .pure ?_;rw[hb,AyW hw hp,aAD];refine fin _ (Avu hw.toNat_lt (ArG _ (by omega))) λj hj=>?_
   rw[Nat.testBit_or,Nat.testBit_two_pow]
   grind
  | false =>
   simp only[aAa,cond_false];rw[Auu h0 h1];refine .chk (by omega) ?_
   rw[aAD,Aac hi,aA];refine .chk (by omega) ?_
   rw[aA];refine .pure ?_;rw[hb,AqT hw hp,aAD];refine fin _ (Aoq hw.toNat_lt) λj hj=>?_
   rw[Arh hw.toNat_lt (ArG _ (by omega)),Nat.testBit_two_pow]
   grind
 ·rw[decide_eq_false h];exact .pure ⟨ht,λv h0 h1=>by grind⟩
theorem AfD (l:List Int) (hl:l.length<=9000000000000000000):Hs (QJ l) λr=>RZ r/\∀ v,0<=v->v<512->hasB r v=decide (v∈l):=by
 refine Hs.loop (λs=>RZ s.1/\∃ k:Nat,s.2=(k:Int)/\k<=l.length/\∀ v,0<=v->v<512->hasB s.1 v=decide (v∈l.take k)) (λs=>l.length-s.2.toNat) ⟨RZ.zero,0,rfl,aAE _,λv _ _=>by simp[Avg]⟩ ?_
 rintro⟨t,k'⟩ ⟨ht,k,hk',hk,hall⟩;subst hk';refine .dec (λhlt=>?_) λhge=>?_
 ·have hlt:k<l.length:=by omega
  refine Hs.bind (P:=λx=>l[k]? =some x) ⟨l[k],by simp[hlt],by simp[hlt]⟩ λx hx=>(ArH ht x true).bind λr hr=>.cnt ?_
  rw[NP (by omega)]
  refine⟨⟨hr.1,k+1,rfl,hlt,λv h0 h1=>?_⟩,by grind⟩
  grind [aAX]
 ·have:k=l.length:=by omega
  subst this;exact .lft (.pure ⟨ht,λv h0 h1=>by simp_all⟩)
theorem OM.snoc (h:OM l) {z:Int} (h0:0<=z/\z<512) (hz:∀ x∈l,x<z):OM (l++[z]):=by
 refine⟨List.pairwise_append.2 ⟨h.1,List.pairwise_singleton _ _,λa ha b hb=>?_⟩,λx hx=>?_⟩
 ·simp_all
 ·simp only[aAM,aAN]at hx;rcases hx with h1|rfl
  ·exact h.2 x h1
  ·exact h0
theorem AcA (ht:RZ t):Hs (QG t) λr=>r.2=t/\Ug r.1 (λv=>hasB t v=true):=by
 refine Hs.loop (λs=>∃ i:Nat,s.2=(i:Int)/\i<=8/\Ug s.1 (λv=>v<64*i/\hasB t v=true)) (λs=>8-s.2.toNat) ⟨0,rfl,by omega,⟨OM.nil,λv=>by simp;omega⟩⟩ ?_
 rintro⟨l,i'⟩ ⟨i,hi',hi,hs⟩;subst hi';refine .dec (λhlt=>?_) λhge=>?_
 ·have hlt:i<8:=by omega
  refine .chk (by omega) ?_
  rw[aAD,Aac hlt,aA];have hw:=ht.word hlt;refine Hs.loop (λs=>WW s.2/\∃ c:Nat,c<=64/\Ug s.1 (λv=>v<64*i+c/\hasB t v=true)/\∀ j,j<64->Adv s.2 j=(decide (c<=j)&&Adv (Um t i) j)) (λs=>s.2.toNat) ⟨hw,0,by omega,by simp_all,λj _=>by simp⟩ ?_
  rintro⟨m,x⟩ ⟨hx,c,hc,hm,hb⟩;simp only at hx hm hb;refine .bne (λhne=>?_) λhe=>?_
  ·have hx0:0<x.toNat:=by have:=hx.1;omega
   obtain⟨k1,k2,k3,k4⟩:=AwJ hx0 hx.toNat_lt;generalize hk:Lib.ctz 64 x.toNat=k at k1 k2 k3 k4;have ek:Ajz x=some (k:Int):=by
    unfold Ajz;rw[Ou (show 0<=x/\x<18446744073709551616 from hx),hk]
   rw[ek,aA];have hck:c<=k:=by
    grind [Adv]
   have hwk:Adv (Um t i) k=true:=by
    grind [Adv]
   have e1:IntKind.i64.wrap (IntKind.i64.wrap (64*(i:Int))+(k:Int))=((64*i+k:Nat):Int):=by
    grind [wrap64]
   have e2:IntKind.u64.wrap (x-1)=x-1:=AvU ⟨by omega,by have:=hx.2;omega⟩
   have e3:(x-1).toNat=x.toNat-1:=by omega
   have hz:∀ v∈m,v<((64*i+k:Nat):Int):=λv hv=>by
    have:=((hm.2 v).1 hv).2.1;omega
   have hlen:=hm.1.length_le;refine .chk (by simp;omega) (.cnt ?_)
   rw[e1,e2,Axp hx ⟨by omega,by have:=hx.2;omega⟩,e3]
   refine⟨⟨WW.nat (Aoq hx.toNat_lt),k+1,by omega,⟨hm.1.snoc (by omega) hz,λv=>?_⟩,λj hj=>?_⟩,?_⟩
   ·simp only[aAM,aAN,hm.2];constructor
    ·grind [hasB]
    ·rintro⟨a,b,d⟩
     by_cases e:v=((64*i+k:Nat):Int)
     ·exact .inr e
     ·refine .inl ⟨a,?_,d⟩
      grind [Adv,hasB]
   ·simp only;unfold Adv;rw[aAD,k4]
    grind [Adv]
   grind [Nat.and_le_right]
  ·have he:x=0:=he;subst he;refine .lft (.cnt ?_);rw[NP (by omega)]
   refine⟨⟨i+1,rfl,hlt,hm.mono λv h0 h1=>⟨λ⟨a,b⟩=>⟨by omega,b⟩,λ⟨a,b⟩=>⟨?_,b⟩⟩⟩,by grind⟩
   grind [hasB,Adv]
 ·have:i=8:=by omega
  exact .lft (.pure ⟨rfl,hs.mono λv h0 h1=>⟨λh=>h.2,λh=>⟨by omega,h⟩⟩⟩)
theorem AvX {x y:Int} (hx:WW x) (hy:WW y):XK x y=some ((x.toNat ||| y.toNat:Nat):Int):=by
 grind [XK,AyW]
theorem Avr {x y:Int} (hx:WW x) (hy:WW y):XJ x y=some ((Arf x.toNat y.toNat:Nat):Int):=by
 grind [XJ,AqT]
theorem AtG {s:BS} (hs:RZ s) (ht:RZ t) (g:Nat->Nat->Nat) (hg:∀ x y,x<18446744073709551616->y<18446744073709551616->g x y<18446744073709551616) (p:Bool->Bool->Bool) (hp:∀ x y j,x<18446744073709551616->y<18446744073709551616->j<64->(g x y).testBit j=p (x.testBit j) (y.testBit j)) {body:BS×Int->Option ((BS×Int)⊕(BS×BS×BS))} (hend:∀ x,body (x,8)=some (.inr (x,s,t))) (hstep:∀ x (i:Nat),i<8->body (x,(i:Int))=some (.inl (x.set i ((g (Um s i).toNat (Um t i).toNat:Nat):Int),((i+1:Nat):Int)))) :
  Hs (NW body (⟨0,0,0,0,0,0,0,0⟩,0)) λr=>RZ r.1/\∀ v,0<=v->v<512->hasB r.1 v=p (hasB s v) (hasB t v):=by
 refine Hs.loop (λq=>RZ q.1/\∃ i:Nat,q.2=(i:Int)/\i<=8/\∀ j,j<i->Um q.1 j=((g (Um s j).toNat (Um t j).toNat:Nat):Int)) (λq=>8-q.2.toNat) ⟨RZ.zero,0,rfl,by omega,λj hj=>by omega⟩ ?_
 rintro⟨x,i'⟩ ⟨hx,i,hi',hi,hall⟩;subst hi'
 by_cases hlt:i<8
 ·refine⟨_,hstep x i hlt,⟨hx.set (WW.nat (hg _ _ (hs.word hlt).toNat_lt (ht.word hlt).toNat_lt)),i+1,rfl,hlt,λj hj=>?_⟩,by grind⟩
  simp only;rw[ApL hlt]
  grind
 ·obtain rfl:i=8:=by omega
  refine⟨_,hend x,hx,λv h0 h1=>?_⟩
  have hv:v.toNat / 64<8:=by omega
  unfold hasB;rw[hall _ hv];unfold Adv;rw[aAD,hp _ _ _ (hs.word hv).toNat_lt (ht.word hv).toNat_lt (by omega)]
theorem AqH {s:BS} (hs:RZ s) (ht:RZ t):Hs (Sb s t) λr=>RZ r.1/\∀ v,0<=v->v<512->hasB r.1 v=(hasB s v||hasB t v):=by
 refine AtG hs ht (· ||| ·) (λx y=>Avu) (· ||·) (λx y j _ _ _=>Nat.testBit_or ..) (λx=>by simp[Rz]) λx i hi=>?_
 have w:=NP (show i<9223372036854775807 by omega)
 simp[Rz,Aac hi,AvX (hs.word hi) (ht.word hi),w,show(i:Int)<8 by omega]
theorem AqG {s:BS} (hs:RZ s) (ht:RZ t):Hs (Sa s t) λr=>RZ r.1/\∀ v,0<=v->v<512->hasB r.1 v=(hasB s v&& !hasB t v):=by
 refine AtG hs ht Arf (λx y hx _=>Aoq hx) (λa b=>a&& !b) (λx y j hx hy _=>Arh hx hy) (λx=>by simp[Ry]) λx i hi=>?_
 have w:=NP (show i<9223372036854775807 by omega)
 simp[Ry,Aac hi,Avr (hs.word hi) (ht.word hi),w,show(i:Int)<8 by omega]
theorem AqY (l:List Int) (hl:l.length<=9000000000000000000):Hs (Zz l) λr=>Ug r (· ∈l):=by
 exact(AfD l hl).bind λr hr=>(AcA hr.1).bind λq hq=>.pure (hq.2.mono λv h0 h1=>by simp_all)
theorem Ara (l:List Int) (n:Int) (hl:l.length<=9000000000000000000):Hs (Wf l n) λr=>Ug r (λv=>v∈l/\v≠n):=by
 unfold Wf;refine(AfD l hl).bind λr hr=>(ArH hr.1 n false).bind λu hu=>(AcA hu.1).bind λq hq=>.pure (hq.2.mono λv h0 h1=>?_)
 grind
theorem AsF (a b:List Int) (ha:a.length<=9000000000000000000) (hb:b.length<=9000000000000000000):Hs (Un a b) λr=>Ug r (λv=>v∈a\/v∈b):=by
 unfold Un;refine(AfD a ha).bind λr hr=>(AfD b hb).bind λu hu=>(AqH hr.1 hu.1).bind λx hx=>(AcA hx.1).bind λq hq=>.pure (hq.2.mono λv h0 h1=>?_)
 simp_all
theorem AsE (a b:List Int) (ha:a.length<=9000000000000000000) (hb:b.length<=9000000000000000000):Hs (XI a b) λr=>Ug r (λv=>v∈a/\v∉b):=by
 unfold XI;refine(AfD a ha).bind λr hr=>(AfD b hb).bind λu hu=>(AqG hr.1 hu.1).bind λx hx=>(AcA hx.1).bind λq hq=>.pure (hq.2.mono λv h0 h1=>?_)
 simp_all
theorem AqZ (hs:OM s) (n:Int):Wf s n=some (s.filter (· != n)):=by
 obtain⟨r,h1,h2⟩:=Ara s n (by have:=hs.length_le;omega)
 rw[h1,h2.eq (Ug.AnI (hs.filter (· != n))) λv _ _=>by simp_all]
theorem Ahu {a b:List Int} (ha:OM a) (hb:∀ x∈b,0<=x/\x<512) (hl:b.length<=1000):Un a b=some (QQ a b):=by
 obtain⟨r,h1,h2⟩:=AsF a b (by have:=ha.length_le;omega) (by omega)
 obtain⟨h3,h4⟩:=Vo (n:=512) (by omega) (b:=b) ⟨ha,λx hx=>(ha.2 x hx).2⟩ hb
 rw[h1,h2.eq (Ug.AnI h3.1) λv _ _=>by rw[h4]]
theorem Awl {b:List Int} (hb:∀ x∈b,0<=x/\x<512) (hl:b.length<=1000):Zz b=some (QQ [] b):=by
 obtain⟨r,h1,h2⟩:=AqY b (by omega)
 obtain⟨h3,h4⟩:=Vo (n:=512) (by omega) (b:=b) ⟨OM.nil,λx hx=>by cases hx⟩ hb
 rw[h1,h2.eq (Ug.AnI h3.1) λv _ _=>by simp_all]
def okC (c:NL):Prop:=0<=c.at_/\c.at_<=c.list.length/\c.list.length<=1000/\∀ v∈c.list,0<=v/\v<=255
theorem AyU (l:List Int) (n:Int) (hl:qL (Pq .u8) l) (h0:0<=n) (h1:n<=1000):∃ c,AfZ l n=some c/\okC c:=by
 unfold AfZ;have e:SF (l.length:Int) n=min (l.length:Int) n:=AxS _ _;refine⟨_,by rw[Ou (by omega)],by simp,?_,?_,?_⟩
 ·simp
 ·grind
 ·intro v hv;have:=hl.2 v (List.mem_of_mem_take hv)
  grind [Pq,IntKind.min,IntKind.max,IntKind.signed,IntKind.bits]
theorem AxU (c:NL) (h:okC c) (n:Int) (h1:n<=1099511627776):∃ r c',Oc c n=some (r,c')/\okC c'/\0<=r/\(r<n\/r=0):=by
 obtain⟨ha,hb,hc,hd⟩:=h;unfold Oc Ze
 by_cases hl:c.at_<c.list.length
 ·by_cases hn:n<1
  ·exact⟨0,c,by simp_all,⟨ha,hb,hc,hd⟩,by omega,.inr rfl⟩
  ·have hx:c.list[c.at_.toNat]? =some (c.list[c.at_.toNat]'(by omega)):=aAA _
   have hv:=hd _ (aAF (show c.at_.toNat<c.list.length by omega))
   generalize hq:c.list[c.at_.toNat]'(by omega)=v at hx hv
   have e1:IntKind.i64.wrap v=v:=wrap64 (by omega) (by omega)
   have hm0:0<=v*n:=Int.mul_nonneg hv.1 (by omega)
   have hm1:v*n<=255*n:=Int.mul_le_mul_of_nonneg_right hv.2 (by omega)
   have e2:IntKind.i64.wrap (v*n)=v*n:=wrap64 (by omega) (by omega)
   have e3:(v*n).tdiv 256=v*n / 256:=Int.tdiv_eq_ediv_of_nonneg hm0;have e4:IntKind.i64.wrap (v*n / 256)=v*n / 256:=wrap64 (by omega) (by omega)
   have e5:IntKind.i64.wrap (c.at_+1)=c.at_+1:=wrap64 (by omega) (by omega)
   refine⟨v*n / 256,⟨c.list,c.at_+1⟩,?_,⟨by grind,by grind,hc,hd⟩,by omega,.inl (by omega)⟩
   grind [WD,Ps]
 ·exact⟨0,c,by simp[hl],⟨ha,hb,hc,hd⟩,by omega,.inr rfl⟩
theorem AxT (h:okC c) {n:Int} (h1:n<=1099511627776):Hs (Oc c n) λp=>okC p.2/\0<=p.1/\(p.1<n\/p.1=0):=by
 obtain⟨r,c',e,h2,h3,h4⟩:=AxU c h n h1;exact⟨(r,c'),e,h2,h3,h4⟩
theorem Pf (h:okC c) {n:Int} (h0:1<=n) (h1:n<=1099511627776):Hs (Oc c n) λp=>okC p.2/\0<=p.1/\p.1<n :=
 (AxT h h1).mono λr hr=>⟨hr.1,hr.2.1,by omega⟩
def TJ (s:NS):Prop:=s.Size∈([8,4,8,1,2,16,8]:List Int)/\s.Align∈([8,4,1,8,16,2,32,64]:List Int)
def W64 (w:Int):Prop:=0<=w/\w<18446744073709551616
def Reg (a:Int):Prop:=0<=a/\a<4
theorem Aye (h:okC c):Hs (Zf c) λp=>okC p.2/\TJ p.1:=by
 refine(Pf h (by omega) (by omega)).bind λr hr=>.chk (by simp;omega) ?_
 refine(Hs.get hr.2.1 (by simp;omega) λx hx=>aAC hx).bind λx hx=>?_
 refine(Pf hr.1 (by omega) (by omega)).bind λr' hr'=>.chk (by simp;omega) ?_
 refine(Hs.get hr'.2.1 (by simp;omega) λx hx=>aAC hx).bind λy hy=>?_
 exact .pure ⟨hr'.1,hx,hy⟩
theorem Axd (h:okC c) {m:Int} (hm:0<=m) (hm':m<=1000):Hs (VA c m) λp=>okC p.2/\(p.1.length:Int)<=m/\∀ s∈p.1,TJ s:=by
 unfold VA;have w:IntKind.i64.wrap (m+1)=m+1:=wrap64 (by omega) (by omega)
 refine(Pf h (by omega) (by omega)).bind λr hr=>?_
 refine Hs.loop (λs=>okC ⟨s.1,s.2.1⟩/\(s.2.2.1.length:Int)+s.2.2.2<=m/\(∀ x∈s.2.2.1,TJ x)/\0<=s.2.2.2) (λs=>s.2.2.2.toNat) ⟨hr.1,by simp;omega,by simp,hr.2.1⟩ ?_
 rintro⟨l,a,sl,n⟩ ⟨hc,hl,hs,hn⟩;simp only at hc hl hs hn;refine .dec (λhlt=>?_) λhlt=>?_
 ·have hlt:0<n:=hlt;have w:IntKind.i64.wrap (n-1)=n-1:=wrap64 (by omega) (by omega)
  refine(Aye hc).bind λx hx=>.chk (by simp;omega) (.cnt ⟨⟨hx.1,?_,?_,?_⟩,?_⟩)
  all_goals grind
 ·exact .lft (.pure ⟨hc,by grind,hs⟩)
theorem AtH (h:okC c):Hs (WG c) λp=>okC p.2/\W64 p.1:=by
 refine(Pf h (by omega) (by omega)).bind λr hr=>.beq (λ_=>?_) λ_=>.beq (λ_=>?_) λ_=>.beq (λ_=>?_) λ_=>?_
 ·exact(Pf hr.1 (by omega) (by omega)).bind λr' hr'=>.pure ⟨hr'.1,Alx _⟩
 ·exact(Pf hr.1 (by omega) (by omega)).bind λr' hr'=>.chk hr'.2.1 (.pure ⟨hr'.1,Alx _⟩)
 ·exact .pure ⟨hr.1,by grind [W64]⟩
 ·exact(Pf hr.1 (by omega) (by omega)).bind λr' hr'=>.pure ⟨hr'.1,Alx _⟩
def AqQ (sl:List NS) (a b:Int):Prop:=0<=a/\a<sl.length/\∃ x y,sl[a.toNat]? =some x/\sl[b.toNat]? =some y/\x.Size=y.Size
theorem AxR (h:okC c) {s:Int} (h0:0<=s) (h1:s<f.Slots.length) (hl:f.Slots.length<=1000):Hs (Zg c f s) λp=>okC p.2/\AqQ f.Slots p.1 s:=by
 refine Hs.loop (λst=>0<=st.2/\st.2<=f.Slots.length/\(st.1.length:Int)<=st.2/\(∀ v∈st.1,AqQ f.Slots v s)/\(s<st.2->0<st.1.length)) (λst=>f.Slots.length-st.2.toNat) ⟨by simp,by simp,by simp,by simp,λh=>by omega⟩ ?_
 rintro⟨l,k⟩ ⟨hk0,hk1,hll,hv,hne⟩;simp only at hk0 hk1 hll hv hne;refine .dec (λhlt=>?_) λhlt=>.lft ?_
 ·have w:IntKind.i64.wrap (k+1)=k+1:=wrap64 (by omega) (by omega)
  refine(Hs.ix hk0 hlt λx hx=>hx).bind λx hx=>(Hs.ix h0 h1 λx hx=>hx).bind λy hy=>.beq (λhe=>?_) λhe=>?_
  ·refine .chk (by simp;omega) (.cnt ⟨⟨by grind,by grind,by simp_all,?_,by simp⟩,by grind⟩)
   intro v hv';rcases aAM.1 hv' with h2|h2
   ·simp_all
   ·rw[aAN]at h2;subst h2;exact⟨hk0,hlt,x,y,hx,hy,he⟩
  ·refine .cnt ⟨⟨by grind,by grind,by grind,hv,λh3=>?_⟩,by grind⟩
   grind
 ·refine(Pf h (n:=(l.length:Int)) (by omega) (by omega)).bind λr hr=>.chk ⟨hr.2.1,hr.2.2⟩ ?_
  exact(Hs.get hr.2.1 hr.2.2 λx hx=>hv x (aAC hx)).bind λx hx=>.pure ⟨hr.1,hx⟩
inductive Qc (sl:List NS) (np i:Int) (ps:List Int) (T:Int->Prop):Mk->Prop
 | store (a b:Int):0<=a->a<sl.length->Reg b->Qc sl np i ps T ⟨16,a,b,0,0⟩
 | load (a b:Int):Reg a->0<=b->b<sl.length->Qc sl np i ps T ⟨15,a,b,0,0⟩
 | move (a b:Int):AqQ sl a b->0<=b->b<sl.length->Qc sl np i ps T ⟨17,a,b,0,0⟩
 | const (a w:Int):Reg a->W64 w->Qc sl np i ps T ⟨0,a,0,0,w⟩
 | bin (op a b c:Int):2<=op->op<12->Reg a->Reg b->0<=c->c<8->Qc sl np i ps T ⟨op,a,b,c,0⟩
 | out (a:Int):Reg a->Qc sl np i ps T ⟨14,a,0,0,0⟩
 | un (op a:Int):(op=13\/op=12\/op=1)->Reg a->Qc sl np i ps T ⟨op,a,0,0,0⟩
 | param (a b:Int):Reg a->0<=b->b<np->Qc sl np i ps T ⟨19,a,b,0,0⟩
 | arg (a b:Int):0<=a->a<4->Reg b->Qc sl np i ps T ⟨18,a,b,0,0⟩
 | call (j:Int):i<j->j<ps.length->Qc sl np i ps T ⟨22,j,0,0,0⟩
 | jump (t:Int):T t->Qc sl np i ps T ⟨20,t,0,0,0⟩
 | branch (a t:Int):Reg a->T t->Qc sl np i ps T ⟨21,a,t,0,0⟩
def Aln (ps:List Int):Prop:=(∀ v∈ps,0<=v/\v<4)/\ps.length<=1000
theorem AxC (h:okC c) {i:Int} (T:Int->Prop) (hf:f.Slots.length<=1000) (hp:f.Params<4) (hi:0<=i) (hi':i<ps.length) (hps:Aln ps) :
  Hs (WH c f i ps) λp=>okC p.2/\p.1.length<=4/\∀ x∈p.1,Qc f.Slots f.Params i ps T x:=by
 unfold WH;refine(Pf h (by omega) (by omega)).bind λr hr=>(Pf hr.1 (by omega) (by omega)).bind λk hk=>?_
 have hreg:Reg r.1:=hr.2;have one:∀ {x:Mk} {c':NL},okC c'->Qc f.Slots f.Params i ps T x->Hs (some (([x]:List Mk),c')) λp=>okC p.2/\p.1.length<=4/\∀ x∈p.1,Qc f.Slots f.Params i ps T x:=λhc hx=>.pure ⟨hc,by simp,by simp_all⟩
 have j6:∀ b,(b=true->i+1<ps.length)->Hs (Ut k ps i r b) λp=>okC p.2/\p.1.length<=4/\∀ x∈p.1,Qc f.Slots f.Params i ps T x:=by
  intro b hb;refine .cond (λhb'=>?_) λ_=>one hk.1 (.out _ hreg)
  have hil:=hb hb';have hlen:=hps.2;have w1:IntKind.i64.wrap ((ps.length:Int)-i)=(ps.length:Int)-i:=wrap64 (by omega) (by omega)
  have w2:IntKind.i64.wrap ((ps.length:Int)-i-1)=(ps.length:Int)-i-1:=wrap64 (by omega) (by omega)
  have w3:IntKind.i64.wrap (i+1)=i+1:=wrap64 (by omega) (by omega)
  rw[w1,w2];refine(Pf hk.1 (by omega) (by omega)).bind λq hq=>?_
  have w4:IntKind.i64.wrap (i+1+q.1)=i+1+q.1:=wrap64 (by omega) (by omega)
  refine Hs.loop (λs=>okC ⟨s.1,s.2.1⟩/\(s.2.2.1.length:Int)<=s.2.2.2/\0<=s.2.2.2/\s.2.2.2<=3/\∀ x∈s.2.2.1,Qc f.Slots f.Params i ps T x) (λs=>(3-s.2.2.2).toNat) ⟨hq.1,by simp,by simp,by simp,by simp⟩ ?_
  rintro⟨l,a,out,n⟩ ⟨hc,ho,hn0,hn3,hall⟩;simp only at hc ho hn0 hn3 hall;unfold ZD;simp only[w3,w4];refine(Hs.ix (by omega) (by omega) λx hx=>hps.1 x (aAC hx)).bind λx hx=>.dec (λhlt=>?_) λhlt=>.lft ?_
  ·have w5:IntKind.i64.wrap (n+1)=n+1:=wrap64 (by omega) (by omega)
   refine(Pf hc (by omega) (by omega)).bind λu hu=>.dec (λ_=>?_) λ_=>?_
   ·refine(Pf hu.1 (by omega) (by omega)).bind λv hv=>.chk (by simp;omega) (.cnt ⟨⟨hv.1,by simp_all,by grind,by grind,?_⟩,by grind⟩)
    intro y hy;rcases aAM.1 hy with h2|h2
    ·simp_all
    ·rw[aAN]at h2;subst h2;exact .arg _ _ hn0 (by omega) hv.2
   ·exact .cnt ⟨⟨hu.1,by grind,by grind,by grind,hall⟩,by grind⟩
  ·refine .chk (by simp;omega) (.pure ⟨hc,by grind,?_⟩)
   intro y hy;rcases aAM.1 hy with h2|h2
   ·simp_all
   ·rw[aAN]at h2;subst h2;exact .call _ (by omega) (by omega)
 have j5:∀ b,(b=true->0<f.Params)->Hs (Us k f r ps i b) λp=>okC p.2/\p.1.length<=4/\∀ x∈p.1,Qc f.Slots f.Params i ps T x:=by
  intro b hb;refine .cond (λhb'=>?_) λ_=>.dec (λ_=>j6 _ λhd=>?_) λ_=>j6 _ λhd=>(by cases hd)
  ·have:=hb hb';exact(Pf hk.1 (by omega) (by omega)).bind λu hu=>one hu.1 (.param _ _ hreg hu.2.1 hu.2.2)
  ·have hlen:=hps.2;have:=of_decide_eq_true hd
   grind [wrap64]
 have j4:∀ b,(b=true->0<f.Slots.length)->Hs (Ur k f r ps i b) λp=>okC p.2/\p.1.length<=4/\∀ x∈p.1,Qc f.Slots f.Params i ps T x:=by
  intro b hb;refine .cond (λhb'=>?_) λ_=>.dec (λ_=>?_) λ_=>.dec (λ_=>?_) λ_=>.dec (λ_=>one hk.1 (.out _ hreg)) λ_=>.beq (λ_=>?_) λ_=>.beq (λ_=>j5 _ λhd=>of_decide_eq_true hd) λ_=>j5 _ λhd=>(by cases hd)
  ·have:=hb hb';exact(Pf hk.1 (by omega) (by omega)).bind λu hu=>(AxR hu.1 hu.2.1 hu.2.2 hf).bind λv hv=>one hv.1 (.move _ _ hv.2 hu.2.1 hu.2.2)
  ·exact(AtH hk.1).bind λu hu=>one hu.1 (.const _ _ hreg hu.2)
  ·refine(Pf hk.1 (by omega) (by omega)).bind λu hu=>(Pf hu.1 (by omega) (by omega)).bind λv hv=>(Pf hv.1 (by omega) (by omega)).bind λz hz=>one hz.1 ?_
   rw[wrap64 (by omega) (by omega)]
   exact .bin _ _ _ _ (by omega) (by omega) hreg hv.2 hz.2.1 hz.2.2
  ·refine(Pf hk.1 (by omega) (by omega)).bind λu hu=>.chk (by simp;omega) ?_
   refine(Hs.get hu.2.1 (by simp;omega) λx hx=>aAC hx).bind λx hx=>one hu.1 (.un _ _ (by simp_all) hreg)
 have j3:∀ b,(b=true->0<f.Slots.length)->Hs (Uq k f r ps i b) λp=>okC p.2/\p.1.length<=4/\∀ x∈p.1,Qc f.Slots f.Params i ps T x:=by
  intro b hb;refine .cond (λhb'=>?_) λ_=>.dec (λ_=>j4 _ λhd=>by simp_all) λ_=>j4 _ λhd=>(by cases hd)
  have:=hb hb';exact(Pf hk.1 (by omega) (by omega)).bind λu hu=>one hu.1 (.load _ _ hreg hu.2.1 hu.2.2)
 have j2:∀ b,(b=true->0<f.Slots.length)->Hs (Up k f r ps i b) λp=>okC p.2/\p.1.length<=4/\∀ x∈p.1,Qc f.Slots f.Params i ps T x:=by
  intro b hb;refine .cond (λhb'=>?_) λ_=>.dec (λ_=>j3 _ λhd=>by simp_all) λ_=>j3 _ λhd=>(by cases hd)
  have:=hb hb';exact(Pf hk.1 (by omega) (by omega)).bind λu hu=>one hu.1 (.store _ _ hu.2.1 hu.2.2 hreg)
 grind
theorem Qc.mono {np i:Int} {T T':Int->Prop} (h:Qc sl np i ps T x) (hT:∀ t,T t->T' t):Qc sl np i ps T' x:=by
 cases h with
 | store a b h1 h2 h3=>exact .store a b h1 h2 h3
 | load a b h1 h2 h3=>exact .load a b h1 h2 h3
 | move a b h1 h2 h3=>exact .move a b h1 h2 h3
 | const a w h1 h2=>exact .const a w h1 h2
 | bin op a b c h1 h2 h3 h4 h5 h6=>exact .bin op a b c h1 h2 h3 h4 h5 h6
 | out a h1=>exact .out a h1
 | un op a h1 h2=>exact .un op a h1 h2
 | param a b h1 h2 h3=>exact .param a b h1 h2 h3
 | arg a b h1 h2 h3=>exact .arg a b h1 h2 h3
 | call j h1 h2=>exact .call j h1 h2
 | jump t h1=>exact .jump t (hT t h1)
 | branch a t h1 h2=>exact .branch a t h1 (hT t h2)
def Afy (x:Mk):Prop:=x=⟨23,0,0,0,0⟩\/∃ w,W64 w/\x=⟨24,0,0,0,w⟩
def AdA (x:Mk) (t:Int):Mk :=
 if x.Op=20/\x.A<0 then⟨x.Op,t,x.B,x.C,x.Imm⟩else if x.Op=21/\x.B<0 then⟨x.Op,x.A,t,x.C,x.Imm⟩else x
theorem Afy.fix (h:Afy x) (t:Int):AdA x t=x:=by
 rcases h with rfl|⟨w,_,rfl⟩<;>simp[AdA]
theorem Qc.fix {np i:Int} {T:Int->Prop} (h:Qc sl np i ps (· = -1) x) {t:Int} (ht:T t):Qc sl np i ps T (AdA x t):=by
 cases h with
 | store a b h1 h2 h3=>exact .store a b h1 h2 h3
 | load a b h1 h2 h3=>exact .load a b h1 h2 h3
 | move a b h1 h2 h3=>exact .move a b h1 h2 h3
 | const a w h1 h2=>exact .const a w h1 h2
 | bin op a b c h1 h2 h3 h4 h5 h6 =>
  have:AdA ⟨op,a,b,c,0⟩ t=⟨op,a,b,c,0⟩:=by grind [AdA]
  rw[this];exact .bin op a b c h1 h2 h3 h4 h5 h6
 | out a h1=>exact .out a h1
 | un op a h1 h2 =>
  have:AdA ⟨op,a,0,0,0⟩ t=⟨op,a,0,0,0⟩:=by grind [AdA]
  rw[this];exact .un op a h1 h2
 | param a b h1 h2 h3=>exact .param a b h1 h2 h3
 | arg a b h1 h2 h3=>exact .arg a b h1 h2 h3
 | call j h1 h2=>exact .call j h1 h2
 | jump q h1=>subst h1;exact .jump t ht
 | branch a q h1 h2=>subst h2;exact .branch a t h1 ht
theorem Azj (h:code[k]? =some x) (r:Int×NL) (t:Int):Qg (k:Int) code r t=some (.inl (r.2.list,r.2.at_,code.set k (AdA x t),IntKind.i64.wrap ((k:Int)+1))):=by
 obtain⟨hl,hx⟩:=aAB.1 h;have hset:code.set k x=code:=by grind [aAu]
 obtain⟨op,a,b,c,w⟩:=x;unfold Qg Sp
 by_cases h20:op=20
 ·subst h20
  by_cases ha:a<0
  ·simp_all[Ou,AdA]
  ·simp[Ou,hl,hx,AdA,ha,hset]
 ·by_cases h21:op=21
  ·subst h21
   by_cases hb:b<0
   ·simp_all[Ou,AdA]
   ·simp[Ou,hl,hx,AdA,hb,hset]
  ·have e20:(op==20)=false:=by simp_all
   have e21:(op==21)=false:=by simp_all
   simp[Ou,hl,hx,AdA,h20,h21,hset]
structure Sm (ps:List Int) (i most:Int) (f:Lo):Prop where
 par:ps[i.toNat]? =some f.Params
 slots:f.Slots.length<=6
 slot:∀ s∈f.Slots,TJ s
 len:1<=f.Code.length
 len':(f.Code.length:Int)<=7+5*most
 body:∀ (k:Nat) x,f.Code[k]? =some x->k+1<f.Code.length->Qc f.Slots f.Params i ps (λt=>0<=t/\t<f.Code.length) x
 last:∀ x,f.Code[f.Code.length-1]? =some x->Afy x
theorem AyO {a:Int} (h:okC ⟨l,a⟩) {np i:Int} (hpar:ps[i.toNat]? =some np) (hsl:sl.length<=6) (hsl':∀ s∈sl,TJ s) (hlen:1<=code.length) (hlen':(code.length:Int)<=7+5*most) (hm:most<=1000) (hb:∀ (k:Nat) x,code[k]? =some x->k+1<code.length->Qc sl np i ps (· = -1) x) (he:∀ x,code[code.length-1]? =some x->Afy x) :
  Hs (NW (λs:List Int×Int×List Mk×Int=>Xp np sl s.1 s.2.1 s.2.2.1 s.2.2.2) (l,a,code,0)) λp=>okC p.2/\Sm ps i most p.1:=by
 refine Hs.loop (λs=>okC ⟨s.1,s.2.1⟩/\s.2.2.1.length=code.length/\∃ k:Nat,s.2.2.2=(k:Int)/\k<=code.length/\(∀ x,s.2.2.1[code.length-1]? =some x->Afy x) /\
  ∀ (j:Nat) x,s.2.2.1[j]? =some x->j+1<code.length->Qc sl np i ps (λt=>if j<k then 0<=t/\t<code.length else t= -1) x) (λs=>code.length-s.2.2.2.toNat) ⟨h,rfl,0,rfl,aAE _,he,λj x hj hj'=>(hb j x hj hj').mono λt ht=>by simp_all⟩ ?_
 rintro⟨l,a,code',k⟩ ⟨hc,hl,k,rfl,hk,he',hall⟩;simp only at hc hl he' hall;refine .dec (λhlt=>?_) λhlt=>?_
 ·have hlt:k<code.length:=by simp_all
  have w:=NP (show k<9223372036854775807 by omega)
  have hx:code'[k]? =some (code'[k]'(by omega)):=aAA _
  generalize code'[k]'(by omega)=x at hx
  have step:∀ (r:Int×NL) (t:Int),okC r.2->0<=t->t<code.length->Hs (Qg (k:Int) code' r t) (Rnd (λs:List Int×Int×List Mk×Int=>okC ⟨s.1,s.2.1⟩/\s.2.2.1.length=code.length/\∃ k:Nat,s.2.2.2=(k:Int)/\k<=code.length/\(∀ x,s.2.2.1[code.length-1]? =some x->Afy x) /\
    ∀ (j:Nat) x,s.2.2.1[j]? =some x->j+1<code.length->Qc sl np i ps (λt=>if j<k then 0<=t/\t<code.length else t= -1) x) (λs=>code.length-s.2.2.2.toNat) (l,a,code',(k:Int)) (λp:Lo×NL=>okC p.2/\Sm ps i most p.1)):=by
   intro r t hr ht0 ht1;rw[Azj hx];refine .pure ⟨⟨hr,by simp[hl],k+1,w,hlt,?_,?_⟩,by grind⟩
   ·intro y hy;simp only at hy
    by_cases e:k=code.length-1
    ·rw[<- e,aAr (by omega)]at hy
     obtain rfl:=Option.some.inj hy;have hex:=he' x (by simp_all)
     rw[hex.fix];exact hex
    simp_all
   ·intro j y hy hj;simp only at hy
    by_cases e:k=j
    ·subst e;rw[aAr (by omega)]at hy
     obtain rfl:=Option.some.inj hy;exact((hall k x hx hj).mono λt ht=>by simp_all).fix (by simp_all)
    grind
  refine(Pf hc (by omega) (by omega)).bind λr hr=>?_
  have w1:IntKind.i64.wrap ((k:Int)+r.1)=(k:Int)+r.1:=wrap64 (by omega) (by omega)
  grind [wrap64]
 ·have hlt:¬ k<code'.length:=λh=>hlt (Int.ofNat_lt.2 h)
  have hkl:k=code.length:=by omega
  refine .lft (.pure ⟨hc,hpar,hsl,hsl',by simp_all,by simp_all,?_,?_⟩)
  all_goals grind
theorem Axs {a:Int} (h:okC ⟨l,a⟩) {np i:Int} (hpar:ps[i.toNat]? =some np) (hsl:sl.length<=6) (hsl':∀ s∈sl,TJ s) (hlen:(code.length:Int)<=6+5*most) (hm:most<=1000) (hb:∀ x∈code,Qc sl np i ps (· = -1) x) {e1 e2:Int} (he:Afy ⟨e1,0,0,0,e2⟩) :
  Hs (Rn code np sl l a e1 e2) λp=>okC p.2/\Sm ps i most p.1:=by
 unfold Rn;refine .chk (by simp;omega) (AyO h hpar hsl hsl' (by simp) (by simp;omega) hm ?_ ?_)
 all_goals grind
theorem AsQ (h:okC c) {i:Int} (hi:0<=i) (hi':i<ps.length) (hps:Aln ps) (hm0:0<=most) (hm:most<=1000) :
  Hs (VR c i ps most) λp=>okC p.2/\Sm ps i most p.1:=by
 refine(Hs.ix hi hi' λx hx=>hx).bind λnp hnp=>(Axd h (by omega) (by omega)).bind λsl hsl=>?_
 obtain⟨hc0,hsl1,hsl2⟩:=hsl;have hnp4:=hps.1 np (aAC hnp);refine Hs.loop (λs=>okC ⟨s.1,s.2.1⟩/\0<=s.2.2.2/\s.2.2.2<=sl.1.length/\(s.2.2.1.length:Int)<=s.2.2.2/\∀ x∈s.2.2.1,Qc sl.1 np i ps (· = -1) x) (λs=>sl.1.length-s.2.2.2.toNat) ⟨hc0,by simp,by simp,by simp,by simp⟩ ?_
 rintro⟨l,a,code,s⟩ ⟨hc,hs0,hs1,hcl,hall⟩;simp only at hc hs0 hs1 hcl hall;refine .dec (λhlt=>?_) λhlt=>?_
 ·have hlt:s<sl.1.length:=hlt;have w:IntKind.i64.wrap (s+1)=s+1:=wrap64 (by omega) (by omega)
  refine(Pf hc (by omega) (by omega)).bind λr hr=>.dec (λ_=>?_) λ_=>?_
  ·refine(Pf hr.1 (by omega) (by omega)).bind λq hq=>.chk (by simp;omega) (.cnt ⟨⟨hq.1,by grind,by grind,by simp_all,?_⟩,by grind⟩)
   intro y hy;rcases aAM.1 hy with h2|h2
   ·simp_all
   ·rw[aAN]at h2;subst h2;exact .store _ _ hs0 hlt hq.2
  ·exact .cnt ⟨⟨hr.1,by grind,by grind,by grind,hall⟩,by grind⟩
 ·have w:IntKind.i64.wrap (most+1)=most+1:=wrap64 (by omega) (by omega)
  refine .lft ((Pf hc (by omega) (by omega)).bind λr hr=>?_)
  refine Hs.loop (λs=>okC ⟨s.1,s.2.1⟩/\s.2.2.2.1=sl.1/\0<=s.2.2.2.2/\s.2.2.2.2<=most/\(s.2.2.1.length:Int)<=6+5*(most-s.2.2.2.2)/\∀ x∈s.2.2.1,Qc sl.1 np i ps (· = -1) x) (λs=>s.2.2.2.2.toNat) ⟨hr.1,rfl,hr.2.1,by grind,by grind,hall⟩ ?_
  rintro⟨l,a,code,sl',n⟩ ⟨hc,rfl,hn0,hn1,hcl,hall⟩;simp only at hc hn0 hn1 hcl hall;refine .dec (λhlt=>?_) λhlt=>.lft ?_
  ·have hlt:0<n:=hlt;have w:IntKind.i64.wrap (n-1)=n-1:=wrap64 (by omega) (by omega)
   refine(AxC hc (· = -1) (by grind) hnp4.2 hi hi' hps).bind λb hb=>.chk (by simp;omega) ?_
   have hall2:∀ x∈code++b.1,Qc sl.1 np i ps (· = -1) x:=by
    grind
   have hall3:∀ x,Qc sl.1 np i ps (· = -1) x->∀ y∈(code++b.1)++[x],Qc sl.1 np i ps (· = -1) y:=by
    grind
   refine(Pf hb.1 (by omega) (by omega)).bind λr hr=>.beq (λ_=>?_) λ_=>.beq (λ_=>?_) λ_=>?_
   ·refine(Pf hr.1 (by omega) (by omega)).bind λq hq=>.chk (by simp;omega) (.cnt ⟨⟨hq.1,rfl,by grind,by grind,by grind,hall3 _ (.branch _ _ hq.2 rfl)⟩,by grind⟩)
   ·refine(Pf hr.1 (by omega) (by omega)).bind λq hq=>.beq (λ_=>?_) λ_=>?_
    ·exact .chk (by simp;omega) (.cnt ⟨⟨hq.1,rfl,by grind,by grind,by grind,hall3 _ (.jump _ rfl)⟩,by grind⟩)
    ·exact .cnt ⟨⟨hq.1,rfl,by grind,by grind,by grind,hall2⟩,by grind⟩
   ·exact .cnt ⟨⟨hr.1,rfl,by grind,by grind,by grind,hall2⟩,by grind⟩
  ·refine(Pf hc (by omega) (by omega)).bind λr hr=>.beq (λ_=>?_) λ_=>?_
   ·exact(AtH hr.1).bind λq hq=>Axs hq.1 hnp (by omega) hsl2 (by omega) hm hall (.inr ⟨_,hq.2,rfl⟩)
   ·exact Axs hr.1 hnp (by omega) hsl2 (by omega) hm hall (.inl rfl)
def AhV (funcs most:Int) (p:NM):Prop :=
 ∃ ps,Aln ps/\ps[0]? =some 0/\1<=ps.length/\(ps.length:Int)<=funcs/\p.Funcs.length=ps.length/\∀ (j:Nat) f,p.Funcs[j]? =some f->Sm ps j most f
theorem Aut (h:okC c) {funcs:Int} (hf:1<=funcs) (hf':funcs<=1000) (hm0:0<=most) (hm:most<=1000) :
  Hs (WE c funcs most) λp=>okC p.2/\AhV funcs most p.1:=by
 refine(Pf h hf (by omega)).bind λr hr=>?_
 refine Hs.loop (λs=>okC ⟨s.1,s.2.1⟩/\(∀ v∈s.2.2.1,0<=v/\v<4)/\s.2.2.1[0]? =some 0/\0<=s.2.2.2/\(s.2.2.1.length:Int)+s.2.2.2<=funcs) (λs=>s.2.2.2.toNat) ⟨hr.1,by simp,by simp,hr.2.1,by simp;omega⟩ ?_
 rintro⟨l,a,ps,n⟩ ⟨hc,hv,hz,hn0,hn1⟩;simp only at hc hv hz hn0 hn1;have hp1:1<=ps.length:=by grind
 refine .dec (λhlt=>?_) λhlt=>.lft ?_
 ·have hlt:0<n:=hlt;have w:IntKind.i64.wrap (n-1)=n-1:=wrap64 (by omega) (by omega)
  refine(Pf hc (by omega) (by omega)).bind λq hq=>.chk (by simp;omega) (.cnt ⟨⟨hq.1,?_,by grind,by grind,by grind⟩,by grind⟩)
  grind
 ·have hps:Aln ps:=⟨hv,by omega⟩
  refine Hs.loop (λs=>okC ⟨s.1,s.2.1⟩/\s.2.2.2.2=ps/\∃ i:Nat,s.2.2.2.1=(i:Int)/\i<=ps.length/\s.2.2.1.length=i/\∀ (j:Nat) f,s.2.2.1[j]? =some f->Sm ps j most f) (λs=>ps.length-s.2.2.2.1.toNat) ⟨hc,rfl,0,rfl,aAE _,rfl,λj f hj=>by simp at hj⟩ ?_
  rintro⟨l,a,fs,i',ps'⟩ ⟨hc,hpe,i,hie,hi,hfl,hall⟩;simp only at hc hpe hie hi hfl hall;subst hpe hie;unfold XO;refine .dec (λhlt=>?_) λhlt=>.lft (.pure ⟨hc,ps',hps,hz,hp1,by omega,?_,hall⟩)
  ·have hlt:i<ps'.length:=Int.ofNat_lt.1 hlt;have w:=NP (show i<9223372036854775807 by omega)
   have hpl:=hps.2;refine .chk (by simp;omega) ((AsQ hc (i:=(i:Int)) (ps:=ps') (by omega) (by omega) hps hm0 hm).bind λf hf=>.chk (by simp;omega) (.cnt ⟨⟨hf.1,rfl,i+1,w,hlt,by simp;omega,?_⟩,by grind⟩))
   grind
  grind
def Ri (x:Mk) (k:Int):List Int :=
 if x.Op=20 then[x.A]else if x.Op=23\/x.Op=24 then[]else
 if x.Op=21 then(if x.B<k+1 then[x.B,k+1]else if k+1<x.B then[k+1,x.B]else[k+1])else[k+1]
theorem Asb (h:f.Code[k]? =some x) (hk:k<9223372036854775807):Aap f (k:Int)=some (Ri x k):=by
 obtain⟨hl,hx⟩:=aAB.1 h;have hnl:¬ f.Code.length<=k:=by omega
 have w:IntKind.i64.wrap ((k:Int)+1)=(k:Int)+1:=wrap64 (by omega) (by omega)
 unfold Aap Abv Ri;obtain⟨op,a,b,c,i⟩:=x
 by_cases h20:op=20
 ·subst h20;simp[hx,hl,hnl,show ¬ (k:Int)<0 by omega]
 ·by_cases h23:op=23
  ·simp_all[RM]
  ·by_cases h24:op=24
   ·simp_all[RM]
   ·by_cases h21:op=21
    ·subst h21
     by_cases hb:b<(k:Int)+1
     ·simp[hx,hl,hnl,show ¬ (k:Int)<0 by omega,RM,w,hb]
     ·by_cases hb':(k:Int)+1<b
      ·simp[hx,hl,hnl,show ¬ (k:Int)<0 by omega,RM,w,hb,hb']
      ·simp[hx,hl,hnl,show ¬ (k:Int)<0 by omega,RM,w,hb,hb']
    ·simp[hx,hl,hnl,show ¬ (k:Int)<0 by omega,RM,w,h20,h23,h24,h21]
def Pr (x:Mk):List Int:=if x.Op=15\/x.Op=17 then[x.B]else[]
structure Ot (f:Lo):Prop where
 len:1<=f.Code.length
 len':f.Code.length<=10000
 slots:f.Slots.length<=500
 next:∀ (k:Nat) x,f.Code[k]? =some x->∀ j∈Ri x k,0<=j/\j<f.Code.length
 uses:∀ x∈f.Code,∀ v∈Pr x,0<=v/\v<f.Slots.length
theorem Sm.RX {i:Int} (h:Sm ps i most f) (hm:most<=1000):Ot f:=by
 have hl:=h.len;have hl':=h.len';have hs:=h.slots;refine⟨hl,by omega,by omega,λk x hx j hj=>?_,λx hx v hv=>?_⟩
 ·have hkl:=(aAB.1 hx).1
  by_cases hk:k+1<f.Code.length
  ·have hins:=h.body k x hx hk;cases hins<;>grind [Ri]
  ·have he:=h.last x (by grind)
   rcases he with rfl|⟨w,_,rfl⟩<;>simp[Ri]at hj
 ·obtain⟨k,hk⟩:=aAH hx;have hkl:=(aAB.1 hk).1
  by_cases hk1:k+1<f.Code.length
  ·have hins:=h.body k x hk hk1;cases hins<;>grind [Pr]
  ·have he:=h.last x (by grind)
   rcases he with rfl|⟨w,_,rfl⟩<;>simp[Pr]at hv
def Ow (n:Int) (s:List Int):Prop:=OM s/\∀ x∈s,x<n
theorem Ow.nil (n:Int):Ow n []:=⟨OM.nil,λx hx=>by cases hx⟩
theorem Ow.add {n m:Int} (h:Ow n s) (hm:0<=m/\m<n) (hn:n<=512):Ow n (QM m s)/\WQ s m=some (QM m s):=by
 have hl:=h.1.length_le;refine⟨?_,add_eq s m (by omega)⟩
 unfold QM;rw[if_pos (by omega)]
 refine⟨h.1.TE (by omega),λx hx=>?_⟩
 rw[AdF]at hx;rcases hx with rfl|hx
 ·exact hm.2
 ·exact h.2 x hx
def RowsIn (n:Int) (g:List (List Int)):Prop:=∀ s∈g,Ow n s
theorem RowsIn.set {n:Int} (h:RowsIn n g) (hs:Ow n s):RowsIn n (g.set i s):=by
 intro x hx;rcases aAc hx with h1|rfl
 ·exact h x h1
 ·exact hs
def inN (x:Mk) (s:List Int):List Int:=QQ (if x.Op=16\/x.Op=17 then s.filter (· != x.A)else s) (Pr x)
theorem Axr (x:Mk) (s:List Int) (h:s.length<=900000):AdR x s=some (inN x s):=by
 obtain⟨op,a,b,c,i⟩:=x;have hu:Vm ⟨op,a,b,c,i⟩=some (Pr ⟨op,a,b,c,i⟩):=by
  grind [Vm,Pr]
 have hul:(Pr ⟨op,a,b,c,i⟩).length<=1:=by grind [Pr]
 have hfl:(s.filter (· != a)).length<=s.length:=List.length_filter_le ..;have hr:=AvE s a (by omega)
 grind [union_eq,AdR,Sy,Sg,inN]
theorem AdC (hf:Ot f) (hx:x∈f.Code) (hs:Ow f.Slots.length s) :
  Ow f.Slots.length (inN x s)/\∀ v,v∈inN x s↔(v∈s/\¬ ((x.Op=16\/x.Op=17)/\x.A=v))\/v∈Pr x:=by
 have hsl:=hf.slots;have h0:Ow f.Slots.length (if x.Op=16\/x.Op=17 then s.filter (· != x.A)else s):=by
  split
  ·exact⟨hs.1.filter _,λv hv=>hs.2 v (aAb.1 hv).1⟩
  ·exact hs
 obtain⟨h1,h2⟩:=Vo (n:=f.Slots.length) (by omega) (b:=Pr x) h0 (hf.uses x hx)
 refine⟨h1,λv=>?_⟩
 unfold inN
 grind
def NI (f:Lo) (j:Int):Mk:=(f.Code[j.toNat]?).getD default
def Oe (l:List (List Int)) (j:Int):List Int:=(l[j.toNat]?).getD []
def YS (f:Lo) (l:List (List Int)) (k:Int):List Int:=(Ri (NI f k) k).foldl (λo j=>QQ o (inN (NI f j) (Oe l j))) []
def Ul (f:Lo) (l:List (List Int)):List (List Int):=(List.range f.Code.length).map λk=>YS f l (k:Nat)
def RO (f:Lo) (l:List (List Int)):Prop:=l.length=f.Code.length/\∀ s∈l,Ow f.Slots.length s
theorem Arp {f:Lo} (hf:Ot f) {l:List (List Int)} (hl:RO f l):∀ {js:List Int} {o:List Int},(∀ j∈js,0<=j/\j<f.Code.length)->Ow f.Slots.length o ->
  Ow f.Slots.length (js.foldl (λo j=>QQ o (inN (NI f j) (Oe l j))) o)/\∀ v,v∈js.foldl (λo j=>QQ o (inN (NI f j) (Oe l j))) o↔v∈o\/∃ j∈js,v∈inN (NI f j) (Oe l j)
 | [],o,_,ho=>⟨ho,λv=>by simp⟩
 | j::js,o,hj,ho=>by
  have hsl:=hf.slots;have h0:=hj j (aAJ ..);have hc:NI f j∈f.Code:=by
   grind [NI]
  have ho':Ow f.Slots.length (Oe l j):=by
   unfold Oe;rw[aAA (show j.toNat<l.length by have:=hl.1;omega)]
   exact hl.2 _ (aAF _)
  obtain⟨h1,h2⟩:=AdC hf hc ho';obtain⟨h3,h4⟩:=Vo (n:=f.Slots.length) (by omega) (b:=inN (NI f j) (Oe l j)) ho λx hx=>⟨(h1.1.2 x hx).1,h1.2 x hx⟩
  obtain⟨h5,h6⟩:=Arp hf hl (λq hq=>hj q (aAK _ hq)) h3
  grind
theorem Abq (hf:Ot f) {l:List (List Int)} (hl:RO f l) (hk:k<f.Code.length) :
  Ow f.Slots.length (YS f l k)/\∀ v,v∈YS f l k↔∃ j∈Ri (NI f k) k,v∈inN (NI f j) (Oe l j):=by
 have hx:f.Code[k]? =some (NI f k):=by grind [NI]
 obtain⟨h1,h2⟩:=Arp hf hl (js:=Ri (NI f k) k) (hf.next k _ hx) (Ow.nil _)
 grind [YS]
theorem Ass (hf:Ot f) {l:List (List Int)} (hl:RO f l):RO f (Ul f l):=by
 refine⟨by simp[Ul],λs hs=>?_⟩
 obtain⟨k,hk,rfl⟩:=List.mem_map.1 hs
 grind [Abq]
theorem step_eq (hf:Ot f) {l:List (List Int)} (hl:RO f l):AcQ f ⟨l⟩=some ⟨Ul f l⟩:=by
 have hlen:=hf.len';unfold AcQ;rw[Ou (by omega)]
 have key:Hs (NW (λs:List (List Int)×Int=>YG f ⟨l⟩ s.1 s.2) (List.replicate (f.Code.length:Int).toNat ([]:List Int),0)) λr=>r=⟨Ul f l⟩:=by
  refine Hs.loop (λs=>s.1.length=f.Code.length/\∃ k:Nat,s.2=(k:Int)/\k<=f.Code.length/\∀ (j:Nat) r,s.1[j]? =some r->r=if j<k then YS f l j else[]) (λs=>f.Code.length-s.2.toNat) ⟨by simp,0,rfl,aAE _,λj r hj=>?_⟩ ?_
  ·grind
  rintro⟨x,k'⟩ ⟨hxl,k,hke,hk,hall⟩;simp only at hxl hke hall;subst hke
  by_cases hlt:k<f.Code.length
  ·have w:=NP (show k<9223372036854775807 by omega)
   have hx:f.Code[k]? =some (NI f k):=by grind [NI]
   have hxk:x[k]? =some []:=by
    grind
   have hset:x.set k []=x:=by
    grind [aAu]
   have inner:=Sf (body:=λs:List (List Int)×Int=>YH (Ri (NI f k) k) k f ⟨l⟩ s.1 s.2) (Ri (NI f k) k) (λ(o:List Int) i=>(x.set k o,i)) (λo _=>Ow f.Slots.length o)
    (λo js=>some (.inl (x.set k (js.foldl (λo j=>QQ o (inN (NI f j) (Oe l j))) o),((k+1:Nat):Int))))
    (λo _=>⟨_,by simp[YH,Abw,w];rfl,by simp⟩) (λo i j r ho hd hi hj=>by
     left
     have wi:=NP (show i<9223372036854775807 by
      grind [Ri])
     have hjm:=hf.next k _ hx j (aAC hj);have hjc:f.Code[j.toNat]? =some (NI f j):=by grind [NI]
     have hjl:j.toNat<l.length:=by have:=hl.1;omega
     have hjo:l[j.toNat]? =some (Oe l j):=by grind [Oe]
     have hos:Ow f.Slots.length (Oe l j):=hl.2 _ (aAC hjo);have hsl:=hf.slots;obtain⟨g1,g2⟩:=AdC hf (aAC hjc) hos;obtain⟨g3,g4⟩:=Vo (n:=f.Slots.length) (by omega) (b:=inN (NI f j) (Oe l j)) ho λx hx=>⟨(g1.1.2 x hx).1,g1.2 x hx⟩
     have e1:=Axr (NI f j) (Oe l j) (by have:=hos.1.length_le;omega)
     have e2:=union_eq o (inN (NI f j) (Oe l j)) (by have:=ho.1.length_le;have:=g1.1.length_le;omega)
     obtain⟨_,hje⟩:=aAB.1 hj;refine⟨QQ o (inN (NI f j) (Oe l j)),g3,?_,by simp⟩
     simp_all[YH,Ps]) [] (Ow.nil _)
   simp only[hset]at inner;refine⟨.inl (x.set k (YS f l k),((k+1:Nat):Int)),?_,⟨by simp_all,k+1,rfl,hlt,λj r hj=>?_⟩,by grind⟩
   ·simp only[YG,decide_eq_true (Int.ofNat_lt.2 hlt),cond_true,Asb hx (by omega),aA]
    exact inner
   grind
  ·refine⟨.inr ⟨x⟩,by simp[YG,hlt],?_⟩
   congr 1;refine List.ext_getElem (by grind [Ul]) λj h1 h2=>?_
   have:=hall j _ (aAA h1);rw[this,if_pos (by omega)]
   simp[Ul]
 obtain⟨r,h1,rfl⟩:=key;exact h1
def LE (a b:List (List Int)):Prop:=∀ (k:Nat) s t,a[k]? =some s->b[k]? =some t->∀ v∈s,v∈t
theorem LE.trans {a b c:List (List Int)} (h1:LE a b) (h2:LE b c) (hl:a.length=b.length):LE a c:=by
 intro k s t hs ht v hv;have hk:=(aAB.1 hs).1;have hb:b[k]? =some (b[k]'(by omega)):=aAA _
 exact h2 k _ t hb ht v (h1 k s _ hs hb v hv)
theorem AvQ:∀ {a b:List (List Int)},a.length=b.length->(∀ s∈a,OM s)->(∀ s∈b,OM s)->LE a b->(a.map List.length).sum<=(b.map List.length).sum/\((a.map List.length).sum=(b.map List.length).sum->a=b)
 | [],[],_,_,_,_=>⟨aAQ _,λ_=>rfl⟩
 | [],y::b,h,_,_,_=>by simp at h
 | x::a,[],h,_,_,_=>by simp at h
 | x::a,y::b,h,ha,hb,hle=>by
  have hsub:=(ha x (aAJ ..)).sub (hb y (aAJ ..)) (hle 0 x y rfl rfl);obtain⟨h1,h2⟩:=AvQ (a:=a) (b:=b) (by simp_all) (λs hs=>ha s (aAK _ hs)) (λs hs=>hb s (aAK _ hs)) λk s t hs ht=>hle (k+1) s t (by simp_all) (by simp_all)
  grind
theorem ApJ:∀ {a:List (List Int)},(∀ s∈a,OM s)->(a.map List.length).sum<=512*a.length
 | [],_=>by simp
 | x::a,ha=>by
  have h1:=(ha x (aAJ ..)).length_le;have h2:=ApJ (a:=a) λs hs=>ha s (aAK _ hs)
  grind
theorem AwC (hf:Ot f) (hx:x∈f.Code) {t:List Int} (hs:Ow f.Slots.length s) (ht:Ow f.Slots.length t) (h:∀ v∈s,v∈t):∀ v∈inN x s,v∈inN x t:=by
 intro v hv;rw[(AdC hf hx hs).2]at hv;rw[(AdC hf hx ht).2]
 grind
theorem ApH (hf:Ot f) {a b:List (List Int)} (ha:RO f a) (hb:RO f b) (h:LE a b):LE (Ul f a) (Ul f b):=by
 intro k s t hs ht v hv;have hk:k<f.Code.length:=by grind [Ul]
 have e1:s=YS f a k:=by grind [Ul]
 have e2:t=YS f b k:=by grind [Ul]
 subst e1 e2;rw[(Abq hf ha hk).2]at hv;rw[(Abq hf hb hk).2];obtain⟨j,hj,hv⟩:=hv;have hx:f.Code[k]? =some (NI f k):=by grind [NI]
 have hjm:=hf.next k _ hx j hj;have hjc:f.Code[j.toNat]? =some (NI f j):=by grind [NI]
 have hja:a[j.toNat]? =some (Oe a j):=by simp[Oe,show j.toNat<a.length by have:=ha.1;omega]
 have hjb:b[j.toNat]? =some (Oe b j):=by simp[Oe,show j.toNat<b.length by have:=hb.1;omega]
 exact⟨j,hj,AwC hf (aAC hjc) (ha.2 _ (aAC hja)) (hb.2 _ (aAC hjb)) (h _ _ _ hja hjb) v hv⟩
structure Aom (f:Lo) (l:List (List Int)):Prop where
 ok:RO f l
 fix:Ul f l=l
 least:∀ b,RO f b->LE (Ul f b) b->LE l b
theorem Asn (hf:Ot f):Hs (Abk f) λl=>Aom f l.Out:=by
 have hlen:=hf.len';refine .chk (by omega) ?_
 refine Hs.loop (λl=>RO f l/\LE l (Ul f l)/\∀ b,RO f b->LE (Ul f b) b->LE l b) (λl=>512*f.Code.length-(l.map List.length).sum) ⟨⟨by simp,λs hs=>?_⟩,λk s t hs ht v hv=>?_,λb _ _ k s t hs ht v hv=>?_⟩ ?_
 ·grind [Ow.nil]
 ·grind
 ·grind
 ·rintro l ⟨hl,hle,hleast⟩;have hl':=Ass hf hl;have e1:=step_eq hf hl;have e2:AcP ⟨Ul f l⟩ ⟨l⟩=some (decide (Ul f l=l)):=by
   unfold AcP;rw[Aux _ _ (by have:=hl'.1;grind) (λs hs=>by have:=(hl'.2 s hs).1.length_le;omega)]
   rfl
  obtain⟨s1,s2⟩:=AvQ (by rw[hl.1,hl'.1]) (λs hs=>(hl.2 s hs).1) (λs hs=>(hl'.2 s hs).1) hle
  have s3:=ApJ λs hs=>(hl'.2 s hs).1
  rw[hl'.1]at s3;unfold AdU;rw[e1,aA,e2,aA]
  by_cases he:Ul f l=l
  ·simp only[he,decide_true,cond_true];exact .lft (.pure ⟨hl,he,hleast⟩)
  ·simp only[he,decide_false,cond_false];refine .cnt ⟨⟨hl',ApH hf hl hl' hle,λb hb hb'=>(ApH hf hl hb (hleast b hb hb')).trans hb' (by rw[hl'.1,(Ass hf hb).1])⟩,?_⟩
   grind
theorem Arl (x:Mk):Xq x=some (Pr x):=by
 grind [Xq,Pr]
theorem Aij (x:Mk):RT x=some (if x.Op=16\/x.Op=17 then(x.A,true)else(0,false)):=by
 grind [RT]
theorem AtE (x:Mk):(Pr x).length<=1:=by grind [Pr]
theorem AvY (x:Mk) (hu:∀ v∈Pr x,0<=v/\v<512):QQ [] (Pr x)=Pr x:=by
 unfold Pr at hu ⊢;split
 all_goals simp_all[QQ,QM,TE]
theorem AyL (hs:OM s) (hu:∀ v∈Pr x,0<=v/\v<512):AeD x s=some (inN x s):=by
 have hl:=AtE x;have h1:=Awl hu (by omega)
 rw[AvY x hu]at h1;have h2:=AqZ hs x.A;have h3:=Ahu (hs.filter (· != x.A)) hu (by omega)
 have h4:=Ahu hs hu (by omega)
 unfold AeD inN;rw[Aij,aA,Arl]
 grind
theorem AsD {a b:List Int} (ha:OM a) (hb:OM b):XI a b=some (a.filter λv=>!decide (v∈b)):=by
 obtain⟨r,h1,h2⟩:=AsE a b (by have:=ha.length_le;omega) (by have:=hb.length_le;omega)
 rw[h1,h2.eq (Ug.AnI (ha.filter λv=>!decide (v∈b))) λv _ _=>by simp_all]
theorem AvG (a b:List Int) (ha:a.length<=16777215) (hb:b.length<=9223372036854775807):Abj a b=some (a.filter λv=>!decide (v∈b)):=by
 unfold Abj;have:=Sf (body:=λp:List Int×Int=>Vv a b p.1 p.2) a (λ(out:List Int) i=>(out,i)) (λout i=>out.length<=i) (λout l=>some (out++l.filter λv=>!decide (v∈b)))
  (λout _=>⟨out,by simp[Vv],by simp⟩) (λout i x r ho hd hi hx=>by
   have w:=NP (show i<9223372036854775807 by omega)
   obtain⟨_,rfl⟩:=aAB.1 hx;left
   by_cases h:a[i]∈b
   ·exact⟨out,by omega,by simp_all[Vv,AcH],by simp[h]⟩
   ·exact⟨out++[a[i]],by simp;omega,by simp[Vv,hi,AcH b _ hb,h,w,show out.length<=16777215 by omega],by simp[h]⟩)
  [] (by simp)
 simp_all
theorem AtI (ht:RZ t) (n:Int):RE t n=some (decide (0<=n/\n<512)&&hasB t n,t):=by
 unfold RE;rw[Ahp,aA]
 by_cases h:0<=n/\n<512
 ·rw[decide_eq_true h];obtain⟨h0,h1⟩:=h;have hi:n.toNat / 64<8:=by omega
  have hw:=ht.word hi;simp only[cond_true,Bool.true_and];rw[Auu h0 h1,Ou (by omega),aAD,Aac hi,aA,Ou (AqL n).1,(AqL n).2 h0 h1]
  have e:Nat.min (n.toNat % 64) IntKind.u64.bits=n.toNat % 64:=Nat.min_eq_left (by show n.toNat % 64<=64;omega)
  have e2:(Um t (n.toNat / 64)).fdiv (2 ^ (n.toNat % 64))=(((Um t (n.toNat / 64)).toNat / 2 ^ (n.toNat % 64):Nat):Int):=by
   rw[Int.fdiv_eq_ediv_of_nonneg _ (Int.pow_nonneg (by omega))]
   have:Um t (n.toNat / 64)=(((Um t (n.toNat / 64)).toNat:Nat):Int):=by have:=hw.1;omega
   grind
  have hlt:(Um t (n.toNat / 64)).toNat / 2 ^ (n.toNat % 64)<18446744073709551616:=Nat.lt_of_le_of_lt (Nat.div_le_self ..) hw.toNat_lt;rw[e,e2,Axp (WW.nat hlt) ⟨by omega,by omega⟩]
  congr 2;unfold hasB Adv
  grind
 grind
theorem Ayp (t:BS) (n:Int):SG t n=(RE t n).map (·.1):=by
 unfold SG RE;rw[Option.map_bind];congr 1;funext b;cases b
 ·rfl
 ·simp only[cond_true,Function.comp]
  by_cases h:0<=IntKind.i64.wrap (n.tdiv 64)/\IntKind.i64.wrap (n.tdiv 64)<8
  ·rw[Ou h,Ou h,Option.map_bind];congr 1;funext e;simp_all[chk]
  grind [chk]
theorem Ayo (hl:l.length<=9000000000000000000) {n:Int} (h0:0<=n) (h1:n<512):Acv l n=some (decide (n∈l)):=by
 unfold Acv;obtain⟨r,e1,e2,e3⟩:=AfD l hl
 grind [AtI]
theorem AuC {a b:List Int} (ha:∀ v∈a,0<=v/\v<512) (hla:a.length<=1000000) (hb:b.length<=9000000000000000000):Yz a b=some (decide (∀ v∈a,v∈b)):=by
 unfold Yz;obtain⟨r,e1,e2,e3⟩:=AfD b hb;rw[e1,aA];unfold Qm;have key:∃ k:Int,QC a r=some k/\(0<=k↔¬ ∀ v∈a,v∈b):=by
  have h1:∀ v,0<=v->v<512->Uo v r=some (!decide (v∈b)):=by
   grind [Uo,Ayp,AtI]
  refine Hs.loop (λi=>0<=i/\i<=a.length/\∀ v∈a.take i.toNat,v∈b) (λi=>a.length-i.toNat) ⟨by omega,by omega,by simp⟩ λi ⟨h0,h2,h3⟩=>?_
  refine .dec (λh=>?_) λh=>?_
  ·refine Hs.bind (P:=λx=>a[i.toNat]? =some x) (.ix h0 h λx hx=>hx) λx hx=>?_
   have hm:=aAC hx;rw[h1 x (ha x hm).1 (ha x hm).2,aA];refine .cond (λe=>.lft (.pure ?_)) λe=>.cnt ⟨⟨?_,?_,?_⟩,?_⟩
   ·refine⟨λ_ hall=>?_,λ_=>h0⟩
    simp_all
   all_goals rw[Alz (by omega) (by omega)]
   ·omega
   ·omega
   ·rw[show(i+1).toNat=i.toNat+1 by omega,aAX,hx]
    grind
   grind
  ·refine .lft (.pure ⟨λk=>absurd k (by decide),λk=>absurd (λv hv=>h3 v ?_) k⟩)
   grind [aAs]
 grind
theorem Apk (hs:OM s) {n:Int} (h:0<=n/\n<512):Acu s n=some (QM n s):=by
 unfold Acu;obtain⟨r,e1,e2,e3⟩:=AfD s (by have:=hs.length_le;omega)
 obtain⟨u,f1,f2,f3⟩:=ArH e2 n true;obtain⟨q,g1,g2,g3⟩:=AcA f2;rw[e1,aA,f1,aA,g1,aA];congr 1;have hk:=Ow.AfT (n:=512) (m:=n) (s:=s) ⟨hs,λx hx=>(hs.2 x hx).2⟩ h (aAW _)
 refine g3.1.ext hk.1 λv=>?_
 rw[g3.2,hk.2.2];constructor
 ·simp_all
 ·intro hv;have hr:0<=v/\v<512:=hv.elim (λe=>e▸h) (hs.2 v)
  simp_all
structure GrY (g:List (List Int)):Prop where
 len:g.length<=500
 row:∀ s∈g,OM s/\∀ x∈s,x<g.length
theorem GrY.at_ (h:GrY g) (hi:g[i]? =some s):OM s/\∀ x∈s,x<g.length:=h.row s (aAC hi)
theorem Ats {ι R:Type} {body:ι->Option (ι⊕R)} {s:ι} {m:Option R} (h:body s=lft m):NW body s=m:=by
 rw[Vy,h];cases m<;>rfl
def nxY (g:List (List Int)) (done:List Int):Nat->Nat->Int
 | 0,_=>-1
 | d+1,k=>if ¬ (k:Int)∈done/\∀ v∈g.getD k [],v∈done then k else nxY g done d (k+1)
theorem ArC {g:List (List Int)} {done:List Int}:∀ (d k:Nat),nxY g done d k= -1\/∃ j:Nat,nxY g done d k=j/\k<=j/\j<k+d/\¬ (j:Int)∈done/\∀ v∈g.getD j [],v∈done
 | 0,_=>.inl rfl
 | d+1,k=>by
  unfold nxY;split
  ·grind
  ·rcases ArC (g:=g) (done:=done) d (k+1)with h|⟨j,h1,h2,h3,h4⟩
   all_goals grind
section
variable {g:List (List Int)} (hg:GrY g) {done:List Int} (hd:OM done)
 include hg hd
theorem Apt (order:List Int):∀ (d k:Nat),k+d=g.length->NW (λs=>SJ g done order s) (k:Int)=Vu order done (nxY g done d k)
 | 0,k,hk=>Ats (by
  grind [SJ,nxY])
 | d+1,k,hk=>by
  have hl:=hg.len;have hk':(k:Int)<g.length:=by omega
  have hkl:k<g.length:=by omega
  have hx:g[k]? =some g[k]:=aAA hkl;have hgd:g.getD k []=g[k]:=by simp_all
  obtain⟨h1,h2⟩:=hg.at_ hx;have hdl:=hd.length_le;have h1l:=h1.length_le;have w:IntKind.i64.wrap ((k:Int)+1)=((k+1:Nat):Int):=by grind [Alz]
  have hH:=Ayo (l:=done) (by omega) (n:=(k:Int)) (by omega) (by omega)
  have hW:=AuC (a:=g[k]) (b:=done) h1.2 (by omega) (by omega)
  have ih:=Apt order d (k+1) (by omega)
  by_cases hc:¬ (k:Int)∈done/\∀ v∈g.getD k [],v∈done
  ·have hc2:∀ v∈g[k],v∈done:=hgd▸hc.2;refine Ats ?_;simp_all[nxY,SJ]
  ·unfold nxY;rw[if_neg hc,<- ih,Vy];have hb:SJ g done order (k:Int)=some (.inl ((k+1:Nat):Int)):=by
    by_cases e:(k:Int)∈done
    ·simp_all[SJ]
    simp_all[SJ,decide_eq_false]
   rw[hb]
end
structure UK (g:List (List Int)) (order done:List Int):Prop where
 set:OM done
 mem:∀ v,v∈done↔v∈order
 nodup:order.Nodup
 rng:∀ x∈order,0<=x/\x<g.length
 top:∀ (j:Nat) x,order[j]? =some x->∀ v∈g.getD x.toNat [],v∈order.take j
theorem UK.nil (g:List (List Int)):UK g [] []:=⟨⟨by simp,by simp⟩,by simp,by simp,by simp,by simp⟩
theorem UK.snoc (hg:GrY g) {order done:List Int} (h:UK g order done) {j:Nat} (hj:j<g.length) (hn:¬ (j:Int)∈done) (hc:∀ v∈g.getD j [],v∈done):UK g (order++[(j:Int)]) (QM (j:Int) done):=by
 have hl:=hg.len;have hk:=Ow.AfT (n:=512) (m:=(j:Int)) (s:=done) ⟨h.set,λx hx=>(h.set.2 x hx).2⟩ (by omega) (aAW _)
 refine⟨hk.1,λv=>by rw[hk.2.2,h.mem];grind,?_,?_,?_⟩
 ·refine List.nodup_append.2 ⟨h.nodup,by simp,λa ha b hb e=>?_⟩
  simp at hb;subst hb;subst e;exact hn ((h.mem _).2 ha)
 ·intro x hx;rcases aAM.1 hx with hx|hx
  ·exact h.rng x hx
  simp_all
 ·intro i x hi v hv
  by_cases e:i<order.length
  ·rw[aAP e]at hi;rw[List.take_append_of_le_length (by omega)]
   exact h.top i x hi v hv
  ·rw[List.getElem?_append_right (by omega)]at hi
   have hi0:i-order.length=0:=by
    grind
   rw[hi0]at hi;simp at hi;subst hi;have:i=order.length:=by omega
   subst this;rw[List.take_left];exact(h.mem v).1 (hc v hv)
def Aep (g:List (List Int)) (order done:List Int):(List Int×List Int)⊕(List Int×Int) :=
 if order.length<g.length then(if nxY g done g.length 0<0 then .inr ([],8)else .inl (order++[nxY g done g.length 0],QM (nxY g done g.length 0) done))else .inr (order,0)
theorem Ast (hg:GrY g) {order done:List Int} (h:UK g order done) {s:List Int×List Int} (hs:Aep g order done= .inl s):UK g s.1 s.2/\s.1.length=order.length+1/\order.length<g.length:=by
 unfold Aep at hs;split at hs
 ·rename_i hlt;split at hs
  all_goals grind [ArC,UK.snoc]
 ·cases hs
end Go.Proofs.YtcaoepecbgggcaaGreatDoor
namespace Go.Dw
open Go
section
variable {α β ι R:Type}
def Le (x y:Option α):Prop:=∀ z,x=some z->y=some z
theorem Le.refl (x:Option α):Le x x:=λ_ h=>h
theorem Le.none (y:Option α):Le none y:=λ_ h=>nomatch h
theorem Le.trans {x y z:Option α} (h:Le x y) (h':Le y z):Le x z:=λr hr=>h' r (h r hr)
theorem Le.bind {x y:Option α} {f g:α->Option β} (h:Le x y) (hf:∀ a,Le (f a) (g a)):Le (x.bind f) (y.bind g):=by
 intro z hz;obtain⟨a,h1,h2⟩:=aAL.1 hz;exact aAL.2 ⟨a,h a h1,hf a z h2⟩
theorem Le.chk {p:Prop} [Decidable p] {x y:Option α} (h:Le x y):Le (chk p x) (Go.Dw.chk p y):=by
 intro z hz;unfold Go.Dw.chk at hz ⊢;split at hz
 ·rename_i hp;rw[if_pos hp];exact h z hz
 ·cases hz
theorem Le.cond {b:Bool} {x y x' y':Option α} (h:Le x y) (h':Le x' y'):Le (bif b then x else x') (bif b then y else y'):=by
 grind
theorem Le.loop {body body':ι->Option (ι⊕R)} {s:ι} (h:∀ s,Le (body s) (body' s)):Le (NW body s) (NW body' s):=by
 intro r hr;obtain⟨n,hn⟩:=Aeu.1 hr;clear hr
 induction n generalizing s with
 | zero=>cases hn
 | succ n ih =>
  rw[Vy];unfold AcI at hn;cases e:body s with
  | none=>simp_all
  | some z =>
   rw[e]at hn;rw[h s z e]
   grind
theorem AxO {m:Nat->Option α} (hm:∀ n,Le (m n) (m (n+1))) {n:Nat} {r:α} (h:m n=some r):AkK m=some r:=by
 have up:∀ k n,Le (m n) (m (n+k)):=by
  intro k
  induction k with
  | zero=>intro n;exact .refl _
  | succ k ih=>intro n;exact(ih n).trans (hm (n+k))
 obtain⟨r',h1,h2⟩:=AxP (P:=λr'=>r'=r) h λn' r' h'=>by
  have a:=up n' n r h;have b:=up n n' r' h'
  grind
 rw[h1,h2]
end
end Go.Dw
namespace Go.Proofs.YtcaoepecbgggcaaGreatDoor
open Go Go.Dw Go.Proofs
attribute [local simp] Ou aAG
variable {p:NM} {i k:Nat} {s ps to used:List Int} {j a v u:Int} {x:Mk} {g l:List (List Int)} {m:List (List Bool)} {r:NV} {f:Lo} {mv:Mk->Int->Bool} {Q:Nat->Int->Prop} {I:List NS×Int->Prop} {μ:List NS×Int->Nat} {s0:List NS×Int}
def bF (g:List (List Int)) (w:List Int):Nat->Nat->Option Int
 | 0,_=>none
 | n+1,i=>(g[i]?).bind λs=>(w[i]?).bind λx=>(s.foldlM (λa j=>(bF g w n j.toNat).map (OI a)) 0).bind λm=>if x+m<=2147483647 then some (x+m)else none
def vB (g:List (List Int)) (w:List Int) (i:Nat):Option Int:=bF g w g.length i
def mB (g:List (List Int)) (w:List Int) (s:List Int):Option Int:=s.foldlM (λa j=>(vB g w j.toNat).map (OI a)) 0
theorem foldlM_congr {α β:Type} {f h:β->α->Option β}:∀ {s:List α} {b:β},(∀ a x,x∈s->f a x=h a x)->s.foldlM f b=s.foldlM h b
 | [],_,_=>rfl
 | x::s,b,hx=>by
  simp only[aAm];rw[hx b x (by simp)]
  congr 1;funext c;exact foldlM_congr λa y hy=>hx a y (by simp[hy])
section
variable {g:List (List Int)} {w order done:List Int} (hg:GrY g) (ho:UK g order done)
 include hg ho
theorem AmR {p:Nat} (hp:order[p]? =some (i:Int)) (hs:g[i]? =some s) (hj:j∈s):∃ q:Nat,q<p/\order[q]? =some ((j.toNat:Nat):Int)/\0<=j:=by
 have h:=ho.top p i hp j (by simp_all)
 obtain⟨q,hq⟩:=aAH h;rw[List.getElem?_take]at hq;split at hq
 ·have h0:=((hg.at_ hs).1.2 j hj).1
  grind
 ·cases hq
theorem AxB:∀ (p n m i:Nat),order[p]? =some (i:Int)->p<n->p<m->bF g w n i=bF g w m i:=by
 intro p
 induction p using Nat.strongRecOn with
 | ind p ih =>
  intro n m i hp hn hm;obtain⟨n,rfl⟩:∃ n',n=n'+1:=⟨n-1,by omega⟩
  obtain⟨m,rfl⟩:∃ m',m=m'+1:=⟨m-1,by omega⟩
  unfold bF;cases hs:g[i]? with
  | none=>rfl
  | some s =>
   simp only[aA]
   grind [foldlM_congr,AmR]
theorem AuB (hl:order.length=g.length) {p:Nat} {x:Int} (hp:order[p]? =some (i:Int)) (hs:g[i]? =some s) (hx:w[i]? =some x) :
  vB g w i=(mB g w s).bind λm=>if x+m<=2147483647 then some (x+m)else none:=by
 have hpl:p<g.length:=hl▸(aAB.1 hp).1;unfold vB mB;obtain⟨k,hk⟩:∃ k,g.length=k+1:=⟨g.length-1,by omega⟩
 rw[hk]
 conv=>lhs;unfold bF
 rw[hs,aA,hx,aA]
 grind [foldlM_congr,AmR,vB,AxB]
end
theorem AvZ {b:Int} (ha:0<=a/\a<=2147483647) (hb:0<=b/\b<=2147483647):0<=OI a b/\OI a b<=2147483647:=by
 grind [OI]
def WtY (g:List (List Int)) (w:List Int):Prop:=w.length=g.length/\∀ x∈w,0<=x/\x<=2147483647
theorem AkL {f:Nat->Option Int} (hf:∀ i x,f i=some x->0<=x/\x<=2147483647):∀ {s:List Int} {b m:Int},0<=b/\b<=2147483647->s.foldlM (λa j=>(f j.toNat).map (OI a)) b=some m->0<=m/\m<=2147483647
 | [],b,m,hb,h=>by simp_all
 | x::s,b,m,hb,h=>by
  simp only[aAm,aAv,aAL]at h;obtain⟨c,hc,h⟩:=h;obtain⟨y,hy,rfl⟩:=aAt.1 hc;exact AkL hf (AvZ hb (hf _ _ hy)) h
theorem AuJ {g:List (List Int)} {w:List Int} (hw:WtY g w):∀ (n i:Nat) (x:Int),bF g w n i=some x->0<=x/\x<=2147483647
 | 0,_,_,h=>by cases h
 | n+1,i,x,h=>by
  unfold bF at h;simp only[aAL]at h;obtain⟨s,hs,y,hy,m,hm,h⟩:=h;have h1:=hw.2 y (aAC hy);have h2:=AkL (AuJ hw n) ⟨aAW 0,by decide⟩ hm
  grind
theorem Azb {w:List Int} (hw:WtY g w) {x:Int} (h:vB g w i=some x):0<=x/\x<=2147483647:=AuJ hw _ _ _ h
theorem Avl {w:List Int} (hw:WtY g w) {m:Int} (h:mB g w s=some m):0<=m/\m<=2147483647:=AkL (f:=vB g w) (λ_ _ h=>Azb hw h) ⟨aAW 0,by decide⟩ h
theorem Axn {x y:Int} (hx:0<=x/\x<=2147483647) (hy:0<=y/\y<=2147483647):Va x y=some (if x+y<=2147483647 then(x+y,0)else(0,9)):=by
 grind [Alz,Va,Te,YA,TS]
open Go Go.Dw Go.Proofs
attribute [local simp] Ou aAG
theorem AfC:∀ (n:Nat) (l:List Int),l.Nodup->(∀ x∈l,0<=x/\x<n)->l.length<=n/\(l.length=n->∀ i:Int,0<=i->i<n->i∈l)
 | 0,l,_,hr=>by
  have:l=[]:=by
   cases l with
   | nil=>rfl
   | cons x l=>have:=hr x (by simp);omega
  simp_all
 | n+1,l,hn,hr=>by
  by_cases h:(n:Int)∈l
  ·have h1:=AfC n (l.erase n) (hn.erase _) λx hx=>by
    grind
   grind
  ·have h1:=AfC n l hn λx hx=>by
    grind
   omega
theorem UK.full {order done:List Int} (ho:UK g order done) (hl:order.length=g.length) (hi:i<g.length):∃ p:Nat,order[p]? =some (i:Int) :=
 aAH ((AfC g.length order ho.nodup ho.rng).2 hl i (by omega) (by omega))
theorem Awk {rec0 rec1:Oj->Int->Option (Int×Int×Oj)} (h:∀ a b,Le (rec0 a b) (rec1 a b)) (s:Oj) (k:Int):Le (Rl rec0 s k) (Rl rec1 s k):=by
 refine .chk (.bind (.refl _) λ_=>.cond (.refl _) (.bind (.refl _) λ_=>.loop λs=>?_))
 exact .cond (.bind (.refl _) λ_=>.bind (h _ _) λ_=>.refl _) (.refl _)
theorem Apo:∀ (n:Nat) (s:Oj) (k:Int),Le (Qv n s k) (Qv (n+1) s k)
 | 0,_,_=>.none _
 | n+1,s,k=>Awk (λa b=>Apo n a b) s k
theorem Adj {α:Type} {l:List α} {j:α} (h:l[i]? =some j):l.take (i+1)=l.take i++[j]:=by grind [aAX]
structure BI (g:List (List Int)) (w:List Int) (kn:List Bool) (of:List Int):Prop where
 kl:kn.length=g.length
 ol:of.length=g.length
 eq:∀ i:Nat,kn[i]? =some true->of[i]? =vB g w i
def BR (g:List (List Int)) (w:List Int) (kn0:List Bool) (i:Nat) (r:Int×Int×Oj):Prop:=(∃ x kn of,vB g w i=some x/\r=(x,0,⟨g,w,kn,of⟩)/\BI g w kn of/\kn[i]? =some true/\∀ a:Nat,kn0[a]? =some true->kn[a]? =some true)\/(vB g w i=none/\r.2.1=9)
theorem AsP {α β:Type} {f:β->α->Option β} {s:List α} {b:β} {x:α} (h:s[k]? =some x):(s.take (k+1)).foldlM f b=((s.take k).foldlM f b).bind λa=>f a x:=by
 simp_all[Adj]
section
variable {g:List (List Int)} {w order done:List Int} (hg:GrY g) (ho:UK g order done) (hl:order.length=g.length) (hw:WtY g w)
 include hg ho hl hw
theorem AuL:∀ (p n i:Nat),order[p]? =some (i:Int)->p<n->∀ kn of,BI g w kn of->Hs (Qv n ⟨g,w,kn,of⟩ (i:Int)) (BR g w kn i):=by
 intro p
 induction p using Nat.strongRecOn with
 | ind p ih =>
  intro n i hp hn kn of hb;obtain⟨n,rfl⟩:∃ n',n=n'+1:=⟨n-1,by omega⟩
  have hkl:=hb.kl;have hol:=hb.ol;have hil:i<g.length:=by have:=ho.rng _ (aAC hp);omega
  obtain⟨x,hx⟩:∃ x,w[i]? =some x:=⟨w[i]'(by have:=hw.1;omega),aAA (by have:=hw.1;omega)⟩
  obtain⟨s,hs⟩:∃ s,g[i]? =some s:=⟨g[i],aAA hil⟩;have hv:=AuB hg ho hl hp hs hx;obtain⟨hset,hrow⟩:=hg.at_ hs;have hsl:=hset.length_le;have hxr:=hw.2 x (aAC hx);show Hs (Rl (Qv n) ⟨g,w,kn,of⟩ (i:Int)) _;refine .chk (by simp_all) ((Hs.get (l:=kn) (i:=(i:Int)) (by omega) (by omega) λz hz=>hz).bind λb hkb=>?_)
  refine .cond (λhbt=>?_) λhbt=>?_
  ·subst hbt;refine .chk (by simp_all) ((Hs.get (l:=of) (i:=(i:Int)) (by omega) (by omega) λz hz=>hz).bind λy hy=>.pure (.inl ?_))
   exact⟨y,kn,of,(hb.eq i hkb).symm.trans hy,rfl,hb,hkb,λ_ h=>h⟩
  ·refine(Hs.ix (l:=g) (i:=(i:Int)) (by omega) (by omega) λz hz=>hz).bind λs' hs'=>?_
   simp only[aAD]at hs';rw[hs]at hs';cases hs';refine Hs.loop (λz=>z.1=g/\z.2.1=w/\BI g w z.2.2.1 z.2.2.2.1/\(∀ a:Nat,kn[a]? =some true->z.2.2.1[a]? =some true)/\∃ k:Nat,z.2.2.2.2.1=(k:Int)/\k<=s.length/\mB g w (s.take k)=some z.2.2.2.2.2) (λz=>s.length-z.2.2.2.2.1.toNat) ⟨rfl,rfl,hb,λ_ h=>h,0,rfl,aAE _,rfl⟩ ?_
   rintro⟨b6,b7,b8,b9,x10,m11⟩ ⟨h6,h7,hb8,hmo,k,hk,hkl,hm⟩;simp only at h6 h7 hb8 hmo hk hm;subst h6;subst h7;subst hk;dsimp only;refine .dec (λhlt=>?_) λhlt=>?_
   ·have hlt:k<s.length:=by omega
    refine(Hs.ix (l:=s) (i:=(k:Int)) (by omega) (by omega) λz hz=>hz).bind λj hj=>?_
    obtain⟨q,hq1,hq2,hj0⟩:=AmR hg ho hp hs (aAC hj);have hmt:=AsP (f:=λa j=>(vB b6 b7 (Int.toNat j)).map (OI a)) (b:=0) hj
    change mB b6 b7 (s.take (k+1))=(mB b6 b7 (s.take k)).bind _ at hmt;rw[hm,aA]at hmt;have hih:=ih q hq1 n j.toNat hq2 (by omega) b8 b9 hb8
    rw[show((j.toNat:Nat):Int)=j by omega]at hih
    refine hih.bind λr hr=>?_
    rcases hr with⟨y,kn',of',hy,rfl,hb',_,hmo'⟩|⟨hy,h9⟩
    ·refine .cond (λe=>absurd e (by simp)) λ_=>.cnt ⟨⟨rfl,rfl,hb',λa ha=>hmo' a (hmo a ha),k+1,NP (by omega),hlt,?_⟩,?_⟩
     ·simp_all
     ·simp only[NP (show k<9223372036854775807 by omega)];omega
    ·refine .cond (λ_=>.lft (.pure (.inr ⟨?_,h9⟩))) λe=>absurd e (by simp[h9])
     grind [mB,List.take_append_drop,List.foldlM_append]
   ·have hke:k=s.length:=by omega
    rw[hke,aAg]at hm;have hmr:=Avl hw hm;rw[hm,aA]at hv;refine .lft ((Hs.ix (l:=b7) (i:=(i:Int)) (by omega) (by grind) λz hz=>hz).bind λx' hx'=>?_)
    simp only[aAD]at hx';rw[hx]at hx';cases hx';rw[Axn hxr hmr,aA];have hkl8:=hb8.kl;have hol9:=hb8.ol
    by_cases h:x+m11<=2147483647
    ·rw[if_pos h]at hv ⊢;refine .cond (λe=>absurd e (by simp)) λ_=>.chk (by omega) ((Hs.get (l:=b9) (i:=(i:Int)) (by omega) (by omega) λz hz=>hz).bind λ_ _=>.chk (by omega) ((Hs.get (l:=b8) (i:=(i:Int)) (by omega) (by omega) λz hz=>hz).bind λ_ _=>.pure (.inl ⟨_,_,_,hv,rfl,⟨by simp[hkl8],by simp[hol9],λa ha=>?_⟩,?_,λa ha=>?_⟩)))
     ·simp only[aAD]at ha ⊢
      by_cases e:i=a
      ·simp_all
      ·rw[aAY e]at ha ⊢;exact hb8.eq a ha
     all_goals grind
    ·rw[if_neg h]at hv ⊢;exact .cond (λ_=>.pure (.inr ⟨hv,rfl⟩)) λe=>absurd e (by simp)
theorem Awj (hi:i<g.length) {kn:List Bool} {of:List Int} (hb:BI g w kn of):Hs (ZA ⟨g,w,kn,of⟩ (i:Int)) (BR g w kn i):=by
 obtain⟨p,hp⟩:=ho.full hl hi;obtain⟨r,h1,h2⟩:=AuL hg ho hl hw p (p+1) i hp (by omega) kn of hb
 exact⟨r,AxO (λn=>Apo n _ _) h1,h2⟩
end
open Go Go.Dw Go.Proofs
theorem ApI (hg:GrY g) {order done:List Int} (h:UK g order done):Aaf g order done=some (Aep g order done):=by
 have hl:=hg.len;unfold Aaf Aep
 by_cases hc:order.length<g.length
 ·have e1:=Apt hg h.set order g.length 0 (by omega)
  simp only[Int.natCast_zero]at e1;rw[if_pos hc,decide_eq_true (by omega:(order.length:Int)<g.length),cond_true,e1]
  unfold Vu;rcases ArC (g:=g) (done:=done) g.length 0 with e|⟨j,e,_,h3,h4,h5⟩
  ·rw[e];rfl
  ·rw[e];have hj:¬ (j:Int)<0:=by omega
   rw[if_neg hj,decide_eq_false hj,cond_false,Ou (show order.length+([(j:Int)]:List Int).length<=16777216 by simp;omega),Apk h.set ⟨by omega,by omega⟩]
   rfl
 ·rw[if_neg hc,decide_eq_false (by omega:¬ (order.length:Int)<g.length),cond_false]
  rfl
theorem ApE (hg:GrY g):∃ r,Rm g=some r/\(r=([],8)\/(r.2=0/\r.1.length=g.length/\∃ done,UK g r.1 done)):=by
 show Hs (Rm g) _;unfold Rm;refine Hs.loop (λs:List Int×List Int=>UK g s.1 s.2/\s.1.length<=g.length) (λs=>g.length-s.1.length) ⟨UK.nil g,aAE _⟩ λs ⟨hs,hsl⟩=>?_
 refine⟨Aep g s.1 s.2,ApI hg hs,?_⟩;cases hst:Aep g s.1 s.2 with
 | inl s' =>
  obtain⟨h1,h2,h3⟩:=Ast hg hs hst;exact⟨⟨h1,by omega⟩,by show g.length-s'.1.length<g.length-s.1.length;omega⟩
 | inr r =>
  unfold Aep at hst;split at hst
  ·split at hst
   ·cases hst;exact .inl rfl
   ·cases hst
  ·cases hst;exact .inr ⟨rfl,by show s.1.length=g.length;omega,s.2,hs⟩
attribute [local simp] Ou aAG
def SzY (g:List (List Int)):Prop:=1<=g.length/\g.length<=80
instance (g:List (List Int)):Decidable (SzY g):=inferInstanceAs (Decidable (_/\_))
instance (g:List (List Int)) (w:List Int):Decidable (WtY g w):=inferInstanceAs (Decidable (_/\_))
section
variable {g:List (List Int)} (hg:GrY g)
 include hg
theorem AwX (hs:g[i]? =some s) (h:0<s.length):∃ z,s[s.length-1]? =some z/\z<g.length :=
 ⟨s[s.length-1],aAA (by omega),(hg.at_ hs).2 _ (aAF _)⟩
theorem Anr:UA g=some (decide (SzY g)):=by
 have hgl:=hg.len;have hh:Hs (UA g) λr=>r=decide (SzY g):=by
  refine Hs.loop (λi=>∃ k:Nat,i=(k:Int)/\k<=g.length) (λi=>g.length-i.toNat) ⟨0,rfl,aAE _⟩ λi ⟨k,hi,hk⟩=>?_
  subst hi;refine .dec (λh=>?_) λh=>?_
  ·refine(Hs.ix (l:=g) (i:=(k:Int)) (by omega) h λz hz=>hz).bind λs hs=>?_
   simp only[aAD]at hs;obtain⟨h1,h2⟩:=hg.at_ hs;have hsl:=h1.length_le;rw[Apn s (by omega),(Adu s).2 h1,aA]
   refine .cond (λe=>absurd e (by simp)) λ_=>?_
   have nx:Hs (cnt (R:=Bool) (IntKind.i64.wrap ((k:Int)+1))) (Rnd (λi:Int=>∃ k:Nat,i=(k:Int)/\k<=g.length) (λi:Int=>g.length-i.toNat) (k:Int) λr:Bool=>r=decide (SzY g)):=by
    refine .cnt ⟨⟨k+1,NP (by omega),by omega⟩,?_⟩
    grind [NP]
   refine .dec (λh0=>?_) λ_=>nx
   obtain⟨z,hz,hzl⟩:=AwX hg hs (by omega)
   rw[wrap64 (by omega) (by omega),Ps _ (by omega),show((s.length:Int)-1).toNat=s.length-1 by omega,hz,aA]
   grind
  ·refine .lft ?_;refine .dec (λh=>.pure ?_) λh=>.pure ?_
   ·show _=decide (SzY g);rw[decide_eq_decide];grind [SzY]
   ·show _=decide (SzY g);rw[eq_comm,decide_eq_false_iff_not];grind [SzY]
 obtain⟨r,h1,rfl⟩:=hh;exact h1
end
def YW (g:List (List Int)) (w:List Int) (o:List Int×Int) (z:List Int×Int):Prop :=
 (¬ (SzY g/\WtY g w)/\z=([],4))\/((SzY g/\WtY g w)/\((o.2≠0/\z=([],o.2))\/(o.2=0/\(((∃ i,i<g.length/\vB g w i=none)/\z=([],9))\/(z.2=0/\z.1.length=g.length/\∀ i,i<g.length->∃ x,vB g w i=some x/\z.1[i]? =some x)))))
theorem YW.unique {w:List Int} {o z z':List Int×Int} (h:YW g w o z) (h':YW g w o z'):z=z':=by
 rcases h with⟨h1,rfl⟩|⟨h1,⟨h2,rfl⟩|⟨h2,⟨⟨i,hi,hn⟩,rfl⟩|⟨h3,h4,h5⟩⟩⟩<;>rcases h' with⟨g1,rfl⟩|⟨g1,⟨g2,rfl⟩|⟨g2,⟨⟨j,hj,gn⟩,rfl⟩|⟨g3,g4,g5⟩⟩⟩<;>first|rfl|exact absurd g1 h1|exact absurd h1 g1|exact absurd g2 h2|exact absurd h2 g2|skip
 ·simp_all
 ·simp_all
 ·refine Prod.ext (aAe λi=>?_) (h3.trans g3.symm)
  grind
theorem AuM (hg:GrY g) {w:List Int} {r:List Int×Int} (hr:Rm g=some r):Hs (Wy g w) (YW g w r):=by
 have hgl:=hg.len;obtain⟨r',e1,hO⟩:=ApE hg;rw[hr]at e1;cases e1;unfold Wy;rw[Anr hg,aA];refine .cond (λe=>.pure (.inl ⟨λh=>?_,rfl⟩)) λe=>.bne (λh=>.pure (.inl ⟨λh'=>?_,rfl⟩)) λh=>?_
 ·simp_all
 ·have:=h'.2.1;omega
 have hz:SzY g:=by simp_all
 have hl:w.length=g.length:=by omega
 refine Hs.loop (λi=>∃ k:Nat,i=(k:Int)/\k<=w.length/\∀ x∈w.take k,0<=x/\x<=2147483647) (λi=>w.length-i.toNat) ⟨0,rfl,aAE _,by simp⟩ λi ⟨k,hi,hk,hp⟩=>?_
 subst hi;refine .dec (λh=>?_) λh=>.lft ?_
 ·refine(Hs.ix (l:=w) (i:=(k:Int)) (by omega) h λz hz=>hz).bind λx hx=>?_
  simp only[aAD]at hx;have hm:=aAC hx;refine .dec (λh0=>.lft (.pure (.inl ⟨λhw=>?_,rfl⟩))) λh0=>.dec (λh1=>.lft (.pure (.inl ⟨λhw=>?_,rfl⟩))) λh1=>.cnt ⟨⟨k+1,NP (by omega),by omega,?_⟩,?_⟩
  ·have:=hw.2.2 x hm;omega
  ·have:=hw.2.2 x hm;omega
  ·rw[Adj hx]
   grind
  grind [NP]
 ·rw[aAs (by omega)]at hp
  have hw:WtY g w:=⟨hl,hp⟩;rw[hr,aA];refine .bne (λh=>.pure (.inr ⟨⟨hz,hw⟩,.inl ⟨h,rfl⟩⟩)) λhr0=>?_
  have hO:r.1.length=g.length/\∃ done,UK g r.1 done:=by
   grind
  obtain⟨hol,done,ho⟩:=hO;refine .chk (by omega) (.chk (by omega) ?_)
  refine Hs.loop (λz=>z.1=g/\z.2.1=w/\BI g w z.2.2.1 z.2.2.2.1/\∃ q:Nat,z.2.2.2.2=(q:Int)/\q<=g.length/\∀ i,i<q->z.2.2.1[i]? =some true) (λz=>g.length-z.2.2.2.2.toNat) ⟨rfl,rfl,⟨by simp,by simp,λi hi=>?_⟩,0,rfl,aAE _,λi hi=>by omega⟩ ?_
  ·grind
  rintro⟨x6,x7,x8,x9,x10⟩ ⟨h6,h7,hb,q,hq,hql,hall⟩;simp only at h6 h7 hb hq hall;subst h6;subst h7;subst hq;dsimp only;refine .dec (λhlt=>?_) λhlt=>.lft (.pure (.inr ⟨⟨hz,hw⟩,.inr ⟨hr0,.inr ⟨rfl,hb.ol,λi hi=>?_⟩⟩⟩))
  refine(Awj hg ho hol hw (i:=q) (by omega) hb).bind λr hr=>?_
  rcases hr with⟨y,kn',of',hy,rfl,hb',hki,hmo⟩|⟨hy,h9⟩
  ·refine .cond (λe=>absurd e (by simp)) λ_=>.cnt ⟨⟨rfl,rfl,hb',q+1,NP (by omega),by omega,λi hi=>?_⟩,?_⟩
   all_goals grind [NP]
  ·exact .cond (λ_=>.lft (.pure (.inr ⟨⟨hz,hw⟩,.inr ⟨hr0,.inl ⟨⟨q,by omega,hy⟩,by rw[h9]⟩⟩⟩))) λe=>absurd e (by simp[h9])
  ·have h1:=hb.eq i (hall i (by omega))
   have h2:i<x9.length:=by rw[hb.ol];exact hi
   grind
open Go Go.Dw Go.Proofs
attribute [local simp] Ou aAG
theorem Ait (a b:Int):a<=OI a b/\b<=OI a b:=by grind [OI]
theorem Arq {f:Nat->Option Int}:∀ {s:List Int} {b m:Int},s.foldlM (λa j=>(f j.toNat).map (OI a)) b=some m->b<=m/\∀ j∈s,∃ d,f j.toNat=some d/\d<=m
 | [],b,m,h=>by simp_all
 | x::s,b,m,h=>by
  simp only[aAm,aAv,aAL]at h;obtain⟨c,hc,h⟩:=h;obtain⟨y,hy,rfl⟩:=aAt.1 hc;obtain⟨h1,h2⟩:=Arq h;have:=Ait b y
  grind
structure Aol (g:List (List Int)) (w c:List Int):Prop where
 size:SzY g
 row:∀ s∈g,OM s/\∀ x∈s,x<g.length
 wt:WtY g w
 cl:c.length=g.length
 ge:∀ i,i<g.length->∃ a b s,c[i]? =some a/\w[i]? =some b/\g[i]? =some s/\0<=a/\a<=2147483647/\b<=a/\∀ j∈s,∃ d,c[j.toNat]? =some d/\d<=a-b
theorem YW.AzA (hg:GrY g) {w:List Int} {o r:List Int×Int} (h:YW g w o r) (h0:r.2=0) {done:List Int} (ho:UK g o.1 done) (hl:o.1.length=g.length):Aol g w r.1:=by
 rcases h with⟨_,rfl⟩|⟨⟨hz,hw⟩,⟨h2,rfl⟩|⟨h2,⟨_,rfl⟩|⟨h3,h4,h5⟩⟩⟩
 ·omega
 ·omega
 ·omega
 refine⟨hz,hg.row,hw,h4,λi hi=>?_⟩
 obtain⟨a,ha,hra⟩:=h5 i hi;obtain⟨x,hx⟩:∃ x,w[i]? =some x:=⟨w[i]'(by have:=hw.1;omega),aAA (by have:=hw.1;omega)⟩
 obtain⟨s,hs⟩:∃ s,g[i]? =some s:=⟨g[i],aAA hi⟩;obtain⟨p,hp⟩:=ho.full hl hi;rw[AuB hg ho hl hp hs hx]at ha;obtain⟨m,hm,ha⟩:=aAL.1 ha;have hmr:=Avl hw hm;have hxr:=hw.2 x (aAC hx);split at ha
 ·cases ha;refine⟨_,x,s,hra,hx,hs,by omega,by omega,by omega,λj hj=>?_⟩
  obtain⟨d,hd,hdm⟩:=(Arq hm).2 j hj;have hjr:=((hg.at_ hs).1.2 j hj).1;have hjl:=(hg.at_ hs).2 j hj
  grind
 ·cases ha
theorem AkZ {w c:List Int} (h:Aol g w c):Sl g w c=some true:=by
 have hg:GrY g:=⟨by have:=h.size;grind [SzY],h.row⟩
 have hgl:=hg.len;have hwl:=h.wt.1;have hcl:=h.cl;unfold Sl;rw[Anr hg,decide_eq_true h.size,aA];have e1:((w.length:Int) != (g.length:Int))=false:=by simp[hwl]
 have e2:((c.length:Int) != (g.length:Int))=false:=by simp[hcl]
 rw[e1,e2];have hh:Hs (So w) λr=>r=true:=by
  unfold So;refine Hs.loop (λi=>∃ k:Nat,i=(k:Int)/\k<=w.length) (λi=>w.length-i.toNat) ⟨0,rfl,aAE _⟩ λi ⟨k,hi,hk⟩=>?_
  subst hi;unfold Xm;refine .dec (λhlt=>?_) λhlt=>.lft (.pure rfl)
  refine(Hs.ix (l:=w) (i:=(k:Int)) (by omega) hlt λz hz=>hz).bind λx hx=>?_
  simp only[aAD]at hx;have hr:=h.wt.2 x (aAC hx);have hb:RW x=some true:=by grind [RW]
  rw[hb,aA];refine .cond (λe=>absurd e (by simp)) λe=>.cnt ⟨⟨k+1,NP (by omega),by omega⟩,?_⟩
  grind [NP]
 obtain⟨r,h1,rfl⟩:=hh;exact h1
def Wz (l:List Mk):List Int:=l.foldl (λs x=>if x.Op=22 then QM x.A s else s) []
def cgR (p:NM):List (List Int):=p.Funcs.map λf=>Wz f.Code
def CallsIn (p:NM):Prop:=∀ f∈p.Funcs,∀ x∈f.Code,x.Op=22->0<=x.A/\x.A<p.Funcs.length
theorem AsG {l:List Mk} (h:l[k]? =some x):Wz (l.take (k+1))=if x.Op=22 then QM x.A (Wz (l.take k))else Wz (l.take k):=by
 simp_all[Wz,Adj]
theorem AtT {n:Int} (hn:n<=512):∀ {l:List Mk},(∀ x∈l,x.Op=22->0<=x.A/\x.A<n)->Ow n (Wz l):=by
 intro l hl;have key:∀ k,k<=l.length->Ow n (Wz (l.take k)):=by
  intro k
  induction k with
  | zero=>intro _;exact⟨⟨by simp[Wz],by simp[Wz]⟩,by simp[Wz]⟩
  | succ k ih =>
   intro hk;have hx:l[k]? =some l[k]:=aAA (by omega)
   rw[AsG hx];split
   ·rename_i h;have hr:=hl l[k] (aAF _) h;have:=Ow.AfT (n:=n) (m:=l[k].A) (s:=Wz (l.take k)) (ih (by omega)) hr hn
    exact⟨this.1,this.2.1⟩
   grind
 have:=key l.length (aAQ _);simp_all
theorem Ayx (hn:p.Funcs.length<=500) (hp:CallsIn p):GrY (cgR p):=by
 refine⟨by grind [cgR],λs hs=>?_⟩
 obtain⟨f,hf,rfl⟩:=List.mem_map.1 hs;have:=AtT (n:=p.Funcs.length) (by omega) (hp f hf)
 exact⟨this.1,λx hx=>by have:=this.2 x hx;grind [cgR]⟩
theorem AwK {r:List Mk} {y:NT} {l:List Mk} {x':Mk} (hk:k<r.length) (hl:l[k]? =some x) (ho:0<=x.Op/\x.Op<25) (h:Pt f y x=some x'):XT r f y l (k:Int)=cnt (l.set k x',IntKind.i64.wrap ((k:Int)+1)):=by
 have hkl:=(aAB.1 hl).1;have hd:(decide ((k:Int)<(r.length:Int)))=true:=by simp_all
 have hc:0<=(k:Int)/\(k:Int)<l.length:=by omega
 unfold XT;unfold Pt at h;rw[hd,cond_true,Ou hc,aAD,hl,aA,Ou ho];unfold Vf Vg Vh Vi Vj AfB
 by_cases h15:x.Op=15
 ·simp_all
 rw[show(x.Op==15)=false by simp[h15]]at h ⊢
 rw[cond_false]at h ⊢
 by_cases h16:x.Op=16
 ·simp_all
 rw[show(x.Op==16)=false by simp[h16]]at h ⊢
 rw[cond_false]at h ⊢
 by_cases h17:x.Op=17
 ·simp_all
 rw[show(x.Op==17)=false by simp[h17]]at h ⊢
 rw[cond_false]at h ⊢
 by_cases h18:x.Op=18
 ·simp_all
 rw[show(x.Op==18)=false by simp[h18]]at h ⊢
 rw[cond_false]at h ⊢
 by_cases h19:x.Op=19
 all_goals simp_all
section
variable {p:NM} {i:Nat} {f:Lo} {y:NT} {T:Mk->Mk} (hf:p.Funcs[i]? =some f) (hn:f.Code.length<=1000000) (hT:∀ x∈f.Code,Pt f y x=some (T x))
 include hf hn hT
theorem AwB (ho:∀ x∈f.Code,0<=x.Op/\x.Op<25):Xs p (i:Int) y=some ⟨f.Params,y.Size,f.Code.map T⟩:=by
 unfold Xs;rw[Ps _ (by omega),aAD,hf,aA]
 have hcl:Anu f.Code=some f.Code:=by unfold Anu ZC;grind [Ou]
 rw[hcl,aA];have hh:Hs (NW (λs=>XT f.Code f y s.1 s.2) (f.Code,0)) λr=>r=⟨f.Params,y.Size,f.Code.map T⟩:=by
  refine Hs.loop (λz=>∃ k:Nat,z.2=(k:Int)/\k<=f.Code.length/\z.1=(f.Code.take k).map T++f.Code.drop k) (λz=>f.Code.length-z.2.toNat) ⟨0,rfl,aAE _,by simp⟩ ?_
  rintro⟨code,k6⟩ ⟨k,hk,hkl,hc⟩;simp only at hk hc;subst hk
  by_cases hlt:k<f.Code.length
  ·obtain⟨x,hx⟩:∃ x,f.Code[k]? =some x:=⟨f.Code[k],aAA hlt⟩;have hm:=aAC hx;have hlen:((f.Code.take k).map T).length=k:=by simp;omega
   have hd:f.Code.drop k=x::f.Code.drop (k+1):=by
    grind [aAS]
   have hcx:code[k]? =some x:=by
    simp_all
   rw[AwK hlt hcx (ho x hm) (hT x hm)];refine .cnt ⟨⟨k+1,NP (by omega),by omega,?_⟩,?_⟩
   ·grind
   grind [NP]
  ·refine .dec (λh=>absurd h (by omega)) λ_=>.lft (.pure ?_)
   have:k=f.Code.length:=by omega
   rw[this,aAg,List.drop_length,aAp]at hc;show OG.mk _ _ code=_;rw[hc]
 obtain⟨r,h1,rfl⟩:=hh;exact h1
end
open Go Go.Dw Go.Proofs
theorem Ayd (n:Int):Hs (Tk n) λ_=>True:=by
 exact .cond (λ_=>.pure trivial) λ_=>.cond (λ_=>.pure trivial) λ_=>.cond (λ_=>.pure trivial) λ_=>.cond (λ_=>.pure trivial) λ_=>.pure trivial
theorem Adw (n:Int):Ta n=some (decide (0<=n/\n<=2147483647)):=by
 unfold Ta
 grind
theorem AwR (n:Int):Hs (QU n) λb=>b=true->1<=n/\n<=16777216:=by
 refine Hs.loop (λk=>1<=k/\k<=33554432) (λk=>33554433-k.toNat) ⟨by omega,by omega⟩ ?_
 rintro k ⟨h0,h1⟩;refine .dec (λh=>.beq (λe=>.lft (.pure λ_=>⟨by omega,by omega⟩)) λ_=>?_) λh=>.lft (.pure λh=>(by cases h))
 rw[wrap64 (by omega) (by omega)]
 exact .cnt ⟨⟨by omega,by omega⟩,by grind⟩
theorem AvK (s:List NS):Hs (Uj s) λe=>e=0->s.length<=512:=by
 refine .dec (λ_=>.pure λh=>by simp at h) λh=>?_
 have hl:s.length<=512:=by omega
 refine(Hs.loop (Q:=λ_=>True) (λi=>∃ k:Nat,i=(k:Int)/\k<=s.length) (λi=>s.length-i.toNat) ⟨0,rfl,aAE _⟩ ?_).mono λ_ _ _=>hl
 rintro _ ⟨k,rfl,hk⟩;refine .dec (λhlt=>?_) λ_=>.lft (.pure trivial)
 refine(Hs.ix (P:=λ_=>True) (by omega) hlt λ_ _=>trivial).bind λx _=>(Ayd _).bind λb _=>.cond (λ_=>.lft (.pure trivial)) λ_=>?_
 refine(Hs.ix (P:=λ_=>True) (by omega) hlt λ_ _=>trivial).bind λy _=>(AwR _).bind λb _=>.cond (λ_=>.lft (.pure trivial)) λ_=>?_
 rw[NP (by omega)]
 exact .cnt ⟨⟨k+1,rfl,by omega⟩,by grind⟩
theorem AuK (a b:NS):Hs (Ade a b) λ_=>True:=by
 exact .cond (λ_=>.pure trivial) λ_=>.cond (λ_=>.pure trivial) λ_=>.pure trivial
attribute [local simp] Ou aAG
theorem Amh:Lib.compact ([]:List Int)=[]:=by simp[Lib.compact,Lib.compactUpTo]
theorem Ami (a:Int):Lib.compact [a]=[a]:=by simp[Lib.compact,Lib.compactUpTo,aAh,Lib.keeps]
theorem Ahw (a b:Int):Lib.compact [a,b]=if a=b then[a]else[a,b]:=by
 by_cases h:a=b
 ·simp_all[Lib.compact,Lib.compactUpTo,aAh,Lib.keeps]
 ·have h':¬ b=a:=λe=>h e.symm
  simp_all[Lib.compact,Lib.compactUpTo,aAh,Lib.keeps]
theorem Asq (a:Int):Zs [a]=[a]:=by simp[Zs]
theorem Asp:Zs []=[]:=by simp[Zs]
theorem Axe (a b:Int):Zs [a,b]=if a<=b then[a,b]else[b,a]:=by
 unfold Zs List.mergeSort
 by_cases h:a<=b<;>simp[List.MergeSort.Internal.splitInTwo,h]
theorem AwA (h:f.Code[k]? =some x) (hk:k<9223372036854775807):AeF f (k:Int)=some (Ri x k):=by
 obtain⟨hl,hx⟩:=aAB.1 h;have hnl:¬ f.Code.length<=k:=by omega
 have w:IntKind.i64.wrap ((k:Int)+1)=(k:Int)+1:=wrap64 (by omega) (by omega)
 unfold AeF AcG ZI Ri PS;obtain⟨op,a,b,c,i⟩:=x
 by_cases h20:op=20
 ·subst h20;simp[hx,hl,hnl,show ¬ (k:Int)<0 by omega,Asq,Ami]
 ·by_cases h23:op=23
  ·simp_all[Asp,Amh]
  ·by_cases h24:op=24
   ·simp_all[Asp,Amh]
   ·have e24:(op==24)=false:=by simp_all
    by_cases h21:op=21
    ·subst h21;simp[hx,hl,hnl,show ¬ (k:Int)<0 by omega,w,Axe]
     by_cases hb:b<(k:Int)+1
     ·simp[hb,show ¬ (k:Int)+1<=b by omega,Ahw,show ¬ b=(k:Int)+1 by omega]
     ·by_cases hb':(k:Int)+1<b
      ·simp[hb,hb',show(k:Int)+1<=b by omega,Ahw,show ¬ (k:Int)+1=b by omega]
      ·simp[Ahw,show(k:Int)+1=b by omega]
    ·simp[hx,hl,hnl,show ¬ (k:Int)<0 by omega,w,e24,h20,h23,h24,h21,Asq,Ami]
attribute [local simp] Ou
theorem Arv (hs:s.Pairwise (· <·)) {n:Int} {h:s.length-1<s.length} (hl:s[s.length-1]<n):∀ v∈s,v<n:=by
 grind [List.getElem_of_mem,aAl]
theorem Axm (s:List Int) (f:Lo) (hs:s.length<=maxLen):Hs (SM s f) λb=>(b=false↔Ow f.Slots.length s):=by
 have hm:maxLen<=9223372036854775807:=by decide
 unfold SM;rw[Apn s (by omega),aA]
 by_cases hc:UL none s=true
 ·have hset:=(Adu s).1 hc;rw[hc];refine .dec (λhp=>?_) λhp=>?_
  ·have hi:s.length-1<s.length:=by omega
   have w:IntKind.i64.wrap ((s.length:Int)-1)=((s.length-1:Nat):Int):=by grind [wrap64]
   rw[w,Ov,aAA hi,aA];refine .pure ⟨λh=>⟨hset,Arv hset.1 (h:=hi) (by simp_all)⟩,λh=>?_⟩
   have:=h.2 _ (aAF hi);simp;omega
  ·have:s=[]:=aAV.1 (by omega)
   subst this;exact .pure ⟨λ_=>Ow.nil _,λ_=>rfl⟩
 ·have hc':UL none s=false:=by simp_all
  rw[hc'];exact .pure ⟨λh=>(by cases h),λh=>(hc ((Adu s).2 h.1)).elim⟩
theorem Apy (f:Lo) (l:Ob) (hl:l.Out.length<=maxLen) (hr:∀ s∈l.Out,s.length<=maxLen):Hs (VI f l) λb=>(b=true↔RO f l.Out):=by
 have hm:maxLen<=9223372036854775807:=by decide
 refine .beq (λhe=>?_) λhne=>.pure ⟨λh=>(by cases h),λh=>(hne (by rw[h.1])).elim⟩
 have he:l.Out.length=f.Code.length:=by omega
 have key:Hs (QW l.Out f) λi=>(0<=i↔¬ ∀ s∈l.Out,Ow f.Slots.length s):=by
  refine Hs.loop (λi=>∃ k:Nat,i=(k:Int)/\k<=l.Out.length/\∀ (j:Nat) s,j<k->l.Out[j]? =some s->Ow f.Slots.length s) (λi=>l.Out.length-i.toNat) ⟨0,rfl,aAE _,λj s h=>absurd h (aAI _)⟩ ?_
  rintro _ ⟨k,rfl,hk,hall⟩;refine .dec (λhlt=>?_) λhge=>?_
  ·have hlt:k<l.Out.length:=by omega
   rw[Ov,aAA hlt,aA];refine(Axm _ f (hr _ (aAF hlt))).bind λb hb=>.cond (λh=>?_) λh=>?_
   ·refine .lft (.pure ⟨λ_ hh=>?_,λ_=>by omega⟩)
    simp_all
   ·rw[NP (by omega)]
    refine .cnt ⟨⟨k+1,rfl,hlt,λj s hj hs=>?_⟩,by grind⟩
    grind
  ·refine .lft (.pure ⟨λh=>by omega,λh=>(h λs hs=>?_).elim⟩)
   grind [aAH]
 refine Hs.bind (P:=λb=>(b=true↔¬ ∀ s∈l.Out,Ow f.Slots.length s)) (key.bind λi hi=>.pure (by simp_all)) λb hb=>.pure ?_
 constructor
 ·intro h;have hb':b=false:=by simp_all
  refine⟨he,λs hs=>?_⟩
  simp_all
 ·intro h;have:¬ b=true:=λhbt=>hb.1 hbt h.2
  simp_all
theorem Asd (f:Lo) (l:Ob) (hl:l.Out.length<=maxLen) (hr:∀ s∈l.Out,s.length<=maxLen):Hs (Abl f l) λb=>(b=true↔RO f l.Out):=by
 have hm:maxLen<=9223372036854775807:=by decide
 refine .bne (λhne=>.pure ⟨λh=>(by cases h),λh=>(hne (by rw[h.1])).elim⟩) λhe=>?_
 have he:l.Out.length=f.Code.length:=by omega
 refine Hs.loop (λi=>∃ k:Nat,i=(k:Int)/\k<=l.Out.length/\∀ (j:Nat) s,j<k->l.Out[j]? =some s->Ow f.Slots.length s) (λi=>l.Out.length-i.toNat) ⟨0,rfl,aAE _,λj s h=>absurd h (aAI _)⟩ ?_
 rintro _ ⟨k,rfl,hk,hall⟩;refine .dec (λhlt=>?_) λhge=>?_
 ·have hlt:k<l.Out.length:=by omega
  have hg:l.Out[k]? =some l.Out[k]:=aAA hlt;have hlen:=hr _ (aAF hlt);rw[Ov,hg,aA,AfY _ (by omega),aA]
  have next:Ow f.Slots.length l.Out[k]->Hs (cnt (R:=Bool) (IntKind.i64.wrap ((k:Int)+1))) (Rnd (λi:Int=>∃ k:Nat,i=(k:Int)/\k<=l.Out.length/\∀ (j:Nat) s,j<k->l.Out[j]? =some s->Ow f.Slots.length s) (λi=>l.Out.length-i.toNat) (k:Int) λb=>(b=true↔RO f l.Out)):=by
   intro hset;rw[NP (by omega)]
   refine .cnt ⟨⟨k+1,rfl,hlt,λj s hj hs=>?_⟩,by grind⟩
   grind
  have stop:¬ Ow f.Slots.length l.Out[k]->((false:Bool)=true↔RO f l.Out):=λhn=>⟨λh=>(by cases h),λh=>(hn (h.2 _ (aAF hlt))).elim⟩
  by_cases hc:UL none l.Out[k]=true
  ·have hset:=(Adu _).1 hc;rw[hc];simp only[aAa,cond_false,aA];refine .dec (λhp=>?_) λhp=>?_
   ·have hi:l.Out[k].length-1<l.Out[k].length:=by omega
    have w:IntKind.i64.wrap ((l.Out[k].length:Int)-1)=((l.Out[k].length-1:Nat):Int):=by grind [wrap64]
    rw[w,Ov,aAA hi,aA];refine .dec (λh=>.lft (.pure (stop λhh=>?_))) λh=>next ⟨hset,Arv hset.1 (h:=hi) (by omega)⟩
    have:=hh.2 _ (aAF hi);omega
   grind [aAV,Ow.nil]
  ·have hc':UL none l.Out[k]=false:=by simp_all
   rw[hc'];exact .lft (.pure (stop λh=>hc ((Adu _).2 h.1)))
 ·refine .lft (.pure ⟨λ_=>⟨he,λs hs=>?_⟩,λ_=>rfl⟩)
  grind [aAH]
def Vk (f:Lo) (l:List (List Int)) (k:Int):List Int :=
 (Ri (NI f k) k).foldl (λo j=>QQ o ((inN (NI f j) (Oe l j)).filter λv=>!decide (v∈Oe l k))) []
theorem RO.at (h:RO f l) (h0:0<=j) (h1:j<f.Code.length):l[j.toNat]? =some (Oe l j)/\Ow f.Slots.length (Oe l j):=by
 have hl:j.toNat<l.length:=by have:=h.1;omega
 have:l[j.toNat]? =some (Oe l j):=by grind [Oe]
 exact⟨this,h.2 _ (aAC this)⟩
theorem Ot.at (_h:Ot f) (h0:0<=j) (h1:j<f.Code.length):f.Code[j.toNat]? =some (NI f j)/\NI f j∈f.Code:=by
 grind [NI]
theorem Ot.Ayn (h:Ot f) (hx:x∈f.Code):∀ v∈Pr x,0<=v/\v<512:=λv hv=>by have:=h.uses x hx v hv;have:=h.slots;omega
theorem Alb (hf:Ot f) (hl:RO f l) {k:Int} (_hk:0<=k/\k<f.Code.length) (hj:0<=j/\j<f.Code.length) {o:List Int} (ho:Ow f.Slots.length o) :
  Ow f.Slots.length (QQ o ((inN (NI f j) (Oe l j)).filter λv=>!decide (v∈Oe l k)))/\∀ v,v∈QQ o ((inN (NI f j) (Oe l j)).filter λv=>!decide (v∈Oe l k))↔v∈o\/(v∈inN (NI f j) (Oe l j)/\v∉Oe l k):=by
 have hsl:=hf.slots;obtain⟨g1,g2⟩:=AdC hf (hf.at hj.1 hj.2).2 (hl.at hj.1 hj.2).2;obtain⟨g3,g4⟩:=Vo (n:=f.Slots.length) (by omega) (b:=(inN (NI f j) (Oe l j)).filter λv=>!decide (v∈Oe l k)) ho λx hx=>⟨(g1.1.2 x (aAb.1 hx).1).1,g1.2 x (aAb.1 hx).1⟩
 exact⟨g3,λv=>by simp_all⟩
theorem ApC {f:Lo} (hf:Ot f) {l:List (List Int)} (hl:RO f l) {k:Int} (hk:0<=k/\k<f.Code.length):∀ {js:List Int} {o:List Int},(∀ j∈js,0<=j/\j<f.Code.length)->Ow f.Slots.length o ->
  Ow f.Slots.length (js.foldl (λo j=>QQ o ((inN (NI f j) (Oe l j)).filter λv=>!decide (v∈Oe l k))) o)/\∀ v,v∈js.foldl (λo j=>QQ o ((inN (NI f j) (Oe l j)).filter λv=>!decide (v∈Oe l k))) o↔v∈o\/∃ j∈js,v∈inN (NI f j) (Oe l j)/\v∉Oe l k
 | [],o,_,ho=>⟨ho,λv=>by simp⟩
 | j::js,o,hj,ho=>by
  obtain⟨h1,h2⟩:=Alb hf hl hk (hj j (aAJ ..)) ho;obtain⟨h5,h6⟩:=ApC hf hl hk (λq hq=>hj q (aAK _ hq)) h1
  grind
theorem AmO (hf:Ot f) (hl:RO f l) (hk:k<f.Code.length):Ow f.Slots.length (Vk f l k)/\∀ v,v∈Vk f l k↔∃ j∈Ri (NI f k) k,v∈inN (NI f j) (Oe l j)/\v∉Oe l k:=by
 have hx:f.Code[k]? =some (NI f k):=by grind [NI]
 obtain⟨h1,h2⟩:=ApC hf hl (k:=(k:Int)) ⟨by omega,by omega⟩ (hf.next k _ hx) (Ow.nil _)
 grind [Vk]
theorem Atu (x:Mk) (k:Int):(Ri x k).length<=2:=by grind [Ri]
theorem Auh (hf:Ot f) {l:Ob} (hl:RO f l.Out) (hk:k<f.Code.length):Qj f k l [] l k=some (true,Vk f l.Out k):=by
 have hlen:=hf.len';have hx:f.Code[k]? =some (NI f k):=by grind [NI]
 have hn:=hf.next k _ hx;have h2:=Atu (NI f k) k;obtain⟨hk1,hk2⟩:=hl.at (j:=(k:Int)) (by omega) (by omega)
 simp only[aAD]at hk1;unfold Qj;rw[AwA hx (by omega),aA]
 have:=Sf (body:=λs:List Int×Int=>PM (Ri (NI f k) k) f l l k s.1 s.2) (Ri (NI f k) k) (λ(o:List Int) i=>(o,i)) (λo _=>Ow f.Slots.length o)
  (λo js=>some (true,js.foldl (λo j=>QQ o ((inN (NI f j) (Oe l.Out j)).filter λv=>!decide (v∈Oe l.Out k))) o))
  (λo _=>⟨_,by simp[PM];rfl,by simp⟩) (λo i j r ho hd hi hj=>by
   left;have wi:=NP (show i<9223372036854775807 by omega)
   have hjm:=hn j (aAC hj);obtain⟨c1,c2⟩:=hf.at hjm.1 hjm.2;obtain⟨o1,o2⟩:=hl.at hjm.1 hjm.2;obtain⟨g1,g2⟩:=Alb hf hl (k:=(k:Int)) ⟨by omega,by omega⟩ hjm ho
   obtain⟨s1,s2⟩:=AdC hf c2 o2;have hsl:=hf.slots;have e1:=AyL o2.1 (hf.Ayn c2);have e2:=AsD s1.1 hk2.1;have e3:=Ahu ho.1 (b:=(inN (NI f j) (Oe l.Out j)).filter λv=>!decide (v∈Oe l.Out k)) (λx hx=>by have:=s1.1.2 x (aAb.1 hx).1;exact this) (by have:=(s1.1.filter λv=>!decide (v∈Oe l.Out k)).length_le;omega)
   obtain⟨_,hje⟩:=aAB.1 hj;refine⟨_,g1,?_,rfl⟩
   simp_all[PM,VT,SS,Ps]) [] (Ow.nil _)
 exact this
theorem Atf (hf:Ot f) {l:Ob} (hl:RO f l.Out) (hk:k<f.Code.length):YI f l k=some (Vk f l.Out k):=by
 have hlen:=hf.len';have hx:f.Code[k]? =some (NI f k):=by grind [NI]
 have hn:=hf.next k _ hx;have h2:=Atu (NI f k) k;obtain⟨hk1,hk2⟩:=hl.at (j:=(k:Int)) (by omega) (by omega)
 simp only[aAD]at hk1;unfold YI;rw[Asb hx (by omega),aA]
 have:=Sf (body:=λs:List Int×Int=>VK (Ri (NI f k) k) f l k s.1 s.2) (Ri (NI f k) k) (λ(o:List Int) i=>(o,i)) (λo _=>Ow f.Slots.length o)
  (λo js=>some (js.foldl (λo j=>QQ o ((inN (NI f j) (Oe l.Out j)).filter λv=>!decide (v∈Oe l.Out k))) o))
  (λo _=>⟨_,by simp[VK];rfl,by simp⟩) (λo i j r ho hd hi hj=>by
   left;have wi:=NP (show i<9223372036854775807 by omega)
   have hjm:=hn j (aAC hj);obtain⟨c1,c2⟩:=hf.at hjm.1 hjm.2;obtain⟨o1,o2⟩:=hl.at hjm.1 hjm.2;obtain⟨g1,g2⟩:=Alb hf hl (k:=(k:Int)) ⟨by omega,by omega⟩ hjm ho
   obtain⟨s1,s2⟩:=AdC hf c2 o2;have hsl:=hf.slots;have e1:=Axr (NI f j) (Oe l.Out j) (by have:=o2.1.length_le;omega)
   have e2:=AvG (inN (NI f j) (Oe l.Out j)) (Oe l.Out k) (by have:=s1.1.length_le;omega) (by have:=hk2.1.length_le;omega)
   have e3:=union_eq o ((inN (NI f j) (Oe l.Out j)).filter λv=>!decide (v∈Oe l.Out k)) (by have:=(s1.1.filter λv=>!decide (v∈Oe l.Out k)).length_le;have:=ho.1.length_le;omega)
   obtain⟨_,hje⟩:=aAB.1 hj;refine⟨_,g1,?_,rfl⟩
   simp_all[VK,Ps]) [] (Ow.nil _)
 exact this
def AfQ (f:Lo) (l:List (List Int)) (r:Int×Int×Bool):Prop :=
 (RO f l/\∃ (k:Nat) (v:Int),k<f.Code.length/\(∀ j:Nat,j<k->Vk f l j=[])/\(Vk f l k)[0]? =some v/\r=((k:Int),v,true)) \/
 ((RO f l->∀ j:Nat,j<f.Code.length->Vk f l j=[])/\r=(0,0,false))
theorem AfQ.unique {r q:Int×Int×Bool} (h:AfQ f l r) (k:AfQ f l q):r=q:=by
 rcases h with⟨h0,i,v,h1,h2,h3,rfl⟩|⟨h1,rfl⟩<;>rcases k with⟨k0,j,u,k1,k2,k3,rfl⟩|⟨k1,rfl⟩
 all_goals grind
def Acc (f:Lo) (l:List (List Int)):Prop:=RO f l/\∀ j:Nat,j<f.Code.length->Vk f l j=[]
theorem AfQ.acc {r:Int×Int×Bool} (h:AfQ f l r) (hl:RO f l):r.2.2=false↔Acc f l:=by
 rcases h with⟨h0,i,v,h1,h2,h3,rfl⟩|⟨h1,rfl⟩
 ·exact⟨λh=>(by cases h),λh=>by rw[h.2 i h1]at h3;cases h3⟩
 ·exact⟨λ_=>⟨hl,h1 hl⟩,λ_=>rfl⟩
def Ue (l:List (List Int)):Prop:=l.length<=maxLen/\∀ s∈l,s.length<=maxLen
theorem Awz (hf:Ot f) {l:Ob} (hl:Ue l.Out):Hs (Zn f l) (AfQ f l.Out):=by
 have hlen:=hf.len';refine(Apy f l hl.1 hl.2).bind λb hb=>.cond (λh=>?_) λh=>?_
 ·have hb':¬ b=true:=by simp_all
  exact .pure (.inr ⟨λhh=>(hb' (hb.2 hh)).elim,rfl⟩)
 ·have hb':b=true:=by simp_all
  have hok:=hb.1 hb';refine Hs.loop (λi=>∃ k:Nat,i=(k:Int)/\k<=f.Code.length/\∀ j:Nat,j<k->Vk f l.Out j=[]) (λi=>f.Code.length-i.toNat) ⟨0,rfl,aAE _,λj h=>absurd h (aAI _)⟩ ?_
  rintro _ ⟨k,rfl,hk,hall⟩;refine .dec (λhlt=>?_) λhge=>?_
  ·have hlt:k<f.Code.length:=by omega
   rw[show Aai l=some l from rfl,aA,Auh hf hok hlt,aA]
   refine .dec (λhp=>?_) λhp=>?_
   ·have hp:0<(Vk f l.Out k).length:=by simp_all
    simp only[AwE];have hg:(Vk f l.Out k)[0]? =some ((Vk f l.Out k)[0]):=aAA hp;rw[hg,aA];exact .lft (.pure (.inl ⟨hok,k,_,hlt,hall,hg,rfl⟩))
   ·rw[NP (by omega)]
    refine .cnt ⟨⟨k+1,rfl,hlt,λj hj=>?_⟩,by grind⟩
    grind [aAV]
  ·exact .lft (.pure (.inr ⟨λ_ j hj=>hall j (by omega),rfl⟩))
theorem AvF (hf:Ot f) {l:Ob} (hl:Ue l.Out):Hs (Ael f l) (AfQ f l.Out):=by
 have hlen:=hf.len';refine(Asd f l hl.1 hl.2).bind λb hb=>.cond (λh=>?_) λh=>?_
 ·have hb':¬ b=true:=by simp_all
  exact .pure (.inr ⟨λhh=>(hb' (hb.2 hh)).elim,rfl⟩)
 ·have hb':b=true:=by simp_all
  have hok:=hb.1 hb';refine Hs.loop (λi=>∃ k:Nat,i=(k:Int)/\k<=f.Code.length/\∀ j:Nat,j<k->Vk f l.Out j=[]) (λi=>f.Code.length-i.toNat) ⟨0,rfl,aAE _,λj h=>absurd h (aAI _)⟩ ?_
  rintro _ ⟨k,rfl,hk,hall⟩;refine .dec (λhlt=>?_) λhge=>?_
  ·have hlt:k<f.Code.length:=by omega
   rw[Atf hf hok hlt,aA];refine .dec (λhp=>?_) λhp=>?_
   ·have hp:0<(Vk f l.Out k).length:=by omega
    refine .chk (by omega) ?_
    have hg:(Vk f l.Out k)[0]? =some ((Vk f l.Out k)[0]):=aAA hp;rw[show(0:Int).toNat=0 from rfl,hg,aA]
    exact .lft (.pure (.inl ⟨hok,k,_,hlt,hall,hg,rfl⟩))
   ·rw[NP (by omega)]
    refine .cnt ⟨⟨k+1,rfl,hlt,λj hj=>?_⟩,by grind⟩
    grind [aAV]
  ·exact .lft (.pure (.inr ⟨λ_ j hj=>hall j (by omega),rfl⟩))
theorem Amz (hf:Ot f) {l:Ob} (hl:Ue l.Out):Hs (UD f l) λe=>(e=0\/e=11)/\(e=0↔Acc f l.Out):=by
 refine(Apy f l hl.1 hl.2).bind λb hb=>.cond (λh=>?_) λh=>?_
 ·have hb':¬ b=true:=by simp_all
  exact .pure ⟨.inr rfl,λh=>by omega,λh=>(hb' (hb.2 h.1)).elim⟩
 ·have hb':b=true:=by simp_all
  refine(Awz hf hl).bind λr hr=>.cond (λh=>.pure ⟨.inr rfl,λh=>by omega,λh'=>?_⟩) λh=>.pure ⟨.inl rfl,λ_=>(hr.acc (hb.1 hb')).1 h,λ_=>rfl⟩
  rw[(hr.acc h'.1).2 h']at h;cases h
theorem AvB (hf:Ot f) {l:Ob} (hl:Ue l.Out):Hs (Aek f l) λe=>(e=0\/e=11)/\(e=0↔Acc f l.Out):=by
 refine(AvF hf hl).bind λr hr=>.cond (λh=>.pure ⟨.inr rfl,λh=>by omega,λh'=>?_⟩) λh=>?_
 ·rw[(hr.acc h'.1).2 h']at h;cases h
 ·refine(Asd f l hl.1 hl.2).bind λb hb=>.cond (λh=>?_) λh2=>?_
  ·have hb':¬ b=true:=by simp_all
   exact .pure ⟨.inr rfl,λh=>by omega,λh=>(hb' (hb.2 h.1)).elim⟩
  ·have hb':b=true:=by simp_all
   exact .pure ⟨.inl rfl,λ_=>(hr.acc (hb.1 hb')).1 h,λ_=>rfl⟩
theorem RO.len (hf:Ot f) (h:RO f l):Ue l:=by
 have hm:(100000:Nat)<=maxLen:=by decide
 have:=hf.len';have:=h.1;exact⟨by omega,λs hs=>by have:=(h.2 s hs).1.length_le;omega⟩
theorem Axy (hf:Ot f) (hl:RO f l):Acc f l↔LE (Ul f l) l:=by
 constructor
 ·rintro⟨_,h⟩ k s t hs ht v hv;have hk:k<f.Code.length:=by have:=(aAB.1 ht).1;have:=hl.1;omega
  have e1:s=YS f l k:=by grind [Ul]
  have e2:t=Oe l k:=by grind [Oe]
  subst e1 e2;rw[(Abq hf hl hk).2]at hv;obtain⟨j,hj,hv⟩:=hv;refine aAd λhn=>?_
  have:v∈Vk f l k:=((AmO hf hl hk).2 v).2 ⟨j,hj,hv,hn⟩;simp_all
 ·intro h;refine⟨hl,λk hk=>?_⟩
  refine List.eq_nil_iff_forall_not_mem.2 λv hv=>?_
  obtain⟨j,hj,h1,h2⟩:=((AmO hf hl hk).2 v).1 hv;refine h2 (h k (YS f l k) (Oe l k) (by grind [Ul]) ?_ v (((Abq hf hl hk).2 v).2 ⟨j,hj,h1⟩))
  have:=(hl.at (j:=(k:Int)) (by omega) (by omega)).1
  simp_all
theorem Acc.mem (hf:Ot f) (h:Acc f l) (hk:k<f.Code.length) (hj:j∈Ri (NI f k) k) (hv:v∈inN (NI f j) (Oe l j)):v∈Oe l k:=by
 refine aAd λhn=>?_
 have:v∈Vk f l k:=((AmO hf h.1 hk).2 v).2 ⟨j,hj,hv,hn⟩;rw[h.2 k hk]at this;cases this
theorem Aom.acc (hf:Ot f) (h:Aom f l):Acc f l:=by
 rw[Axy hf h.ok,h.fix];intro k s t hs ht v hv;simp_all
def I64 (v:Int):Prop:=-9223372036854775808<=v/\v<=9223372036854775807
def AuE (l:List (List Int)):Prop:=∀ s∈l,s.length<=512/\∀ v∈s,I64 v
def AqR (l:List (List Int)):Prop:=∀ s∈l,OM s
theorem AqR.set (h:AqR l) (hs:OM s):AqR (l.set k s):=by
 intro t ht;rcases aAc ht with h1|rfl
 ·exact h t h1
 ·exact hs
theorem OM.add (h:OM s) (n:Int):OM (QM n s):=by
 unfold QM;split
 ·exact h.TE (by assumption)
 ·exact h
theorem AuE.len (hf:Ot f) (h1:l.length<=f.Code.length) (h2:AuE l):Ue l:=by
 have hm:(100000:Nat)<=maxLen:=by decide
 have:=hf.len';exact⟨by omega,λs hs=>by have:=(h2 s hs).1;omega⟩
def Ahx (x:Mk):Int×Bool:=if x.Op=16\/x.Op=17 then(x.A,true)else(0,false)
theorem Alr (x:Mk):Sy x=some (Ahx x):=by
 grind [Sy,Sg,Ahx]
def Rx (f:Lo):Prop:=∀ x∈f.Code,(x.Op=16\/x.Op=17)->0<=x.A/\x.A<f.Slots.length
theorem Sm.defs {i most:Int} (h:Sm ps i most f):Rx f:=by
 intro x hx hop;obtain⟨k,hk⟩:=aAH hx;have hkl:=(aAB.1 hk).1
 by_cases hk1:k+1<f.Code.length
 ·have hins:=h.body k x hk hk1;cases hins with
  | store a b h0 h1 h2=>simp_all
  | move a b h0 h1 h2=>exact⟨h0.1,h0.2.1⟩
  | bin op a b c h1 h2 h3 h4 h5 h6=>grind
  | un op a h1 h2=>grind
  | _=>simp at hop
 ·have he:=h.last x (by grind)
  rcases he with rfl|⟨w,_,rfl⟩<;>simp at hop
def YQ (x:Mk) (v:Int):Bool:=x.Op==17&&x.B==v
def AdG (_:Mk) (_:Int):Bool:=false
def AqN (mv:Mk->Int->Bool) (f:Lo) (l:List (List Int)) (k:Nat) (a v:Int):Prop :=
 a=(NI f k).A/\((NI f k).Op=16\/(NI f k).Op=17)/\¬ ((NI f k).Op=17/\(NI f k).A=(NI f k).B)/\v∈Oe l k/\v≠a/\mv (NI f k) v=false
def Acr (mv:Mk->Int->Bool) (f:Lo) (l:List (List Int)) (k:Nat) (a v:Int):Prop:=∃ j<k,AqN mv f l j a v
def Ed (mv:Mk->Int->Bool) (f:Lo) (l:List (List Int)) (a v:Int):Prop:=Acr mv f l f.Code.length a v
def AeR (mv:Mk->Int->Bool) (f:Lo) (l:List (List Int)) (k i:Nat) (a v:Int):Prop :=
 Acr mv f l k a v\/(a=(NI f k).A/\v∈(Oe l k).take i/\v≠a/\mv (NI f k) v=false)
theorem Apw:Acr mv f l (k+1) a v↔Acr mv f l k a v\/AqN mv f l k a v:=by
 constructor
 ·rintro⟨j,hj,h⟩
  by_cases e:j=k
  ·simp_all
  ·exact .inl ⟨j,by omega,h⟩
 ·rintro(⟨j,hj,h⟩|h)
  ·exact⟨j,by omega,h⟩
  ·exact⟨k,by omega,h⟩
theorem Ava:AeR mv f l k 0 a v↔Acr mv f l k a v:=by simp[AeR]
theorem Awx (h1:(NI f k).Op=16\/(NI f k).Op=17) (h2:¬ ((NI f k).Op=17/\(NI f k).A=(NI f k).B)) :
  AeR mv f l k (Oe l k).length a v↔Acr mv f l (k+1) a v:=by
 grind [Apw,AeR,AqN]
theorem Apu {x:Int} (hx:(Oe l k)[i]? =some x) :
  AeR mv f l k (i+1) a v↔AeR mv f l k i a v\/(a=(NI f k).A/\v=x/\x≠a/\mv (NI f k) x=false):=by
 grind [aAX,AeR]
theorem Apv (h:((NI f k).Op≠16/\(NI f k).Op≠17)\/((NI f k).Op=17/\(NI f k).A=(NI f k).B)) :
  Acr mv f l (k+1) a v↔Acr mv f l k a v:=by
 rw[Apw];constructor
 ·rintro(h1|⟨_,h2,h3,_⟩)
  all_goals omega
 simp_all
theorem AuZ {x:Int} (hx:(Oe l k)[i]? =some x) (h:x=(NI f k).A\/mv (NI f k) x=true) :
  AeR mv f l k (i+1) a v↔AeR mv f l k i a v:=by
 grind [Apu]
def AgZ (m:List (List Bool)) (a v:Nat):Bool:=(((m[a]?).getD [])[v]?).getD false
def Alm (n:Nat) (m:List (List Bool)) (P:Int->Int->Prop):Prop :=
 m.length=n/\(∀ row∈m,row.length=n)/\∀ a v:Nat,a<n->v<n->(AgZ m a v=true↔P a v\/P v a)
theorem Alm.congr {n:Nat} {P Q:Int->Int->Prop} (h:Alm n m P) (hq:∀ a v,Q a v↔P a v):Alm n m Q :=
 ⟨h.1,h.2.1,λa v ha hv=>by rw[h.2.2 a v ha hv,hq,hq]⟩
theorem Aps {n:Nat} (hl:m.length=n) {d:Nat} (hd:d<n) (r:List Bool) (a v:Nat):AgZ (m.set d r) a v=if a=d then(r[v]?).getD false else AgZ m a v:=by
 unfold AgZ
 grind
theorem Ars {n:Nat} {r:List Bool} (hl:r.length=n) {v:Nat} (hv:v<n) (b:Nat):((r.set v true)[b]?).getD false=if b=v then true else(r[b]?).getD false:=by
 grind
theorem Alm.set {n:Nat} {P:Int->Int->Prop} (h:Alm n m P) {d v:Nat} {r1 r2:List Bool} (hd:d<n) (hv:v<n) (hne:d≠v) (h1:m[d]? =some r1) (h2:m[v]? =some r2) :
  Alm n ((m.set d (r1.set v true)).set v (r2.set d true)) (λa b=>P a b\/(a=d/\b=v)):=by
 obtain⟨hl,hr,hc⟩:=h;have l1:=hr _ (aAC h1);have l2:=hr _ (aAC h2);refine⟨by simp[hl],λrow hrow=>?_,λa b ha hb=>?_⟩
 ·grind
 ·rw[Aps (n:=n) (by simp[hl]) hv,Aps hl hd,Ars l2 hd,Ars l1 hv]
  have e1:(r1[b]?).getD false=AgZ m d b:=by grind [AgZ]
  have e2:(r2[b]?).getD false=AgZ m v b:=by grind [AgZ]
  grind
def Qu (n:Nat) (out:List (List Int)) (Q:Nat->Int->Prop):Prop:=out.length=n/\∀ (a:Nat) s,out[a]? =some s->Ow n s/\∀ v,v∈s↔Q a v
theorem Qu.congr {n:Nat} {out:List (List Int)} {P:Nat->Int->Prop} (h:Qu n out P) (hq:∀ a v,a<n->(Q a v↔P a v)):Qu n out Q :=
 ⟨h.1,λa s hs=>⟨(h.2 a s hs).1,λv=>by rw[(h.2 a s hs).2 v,hq a v (by have:=(aAB.1 hs).1;have:=h.1;omega)]⟩⟩
theorem Qu.ext {n:Nat} {o1 o2:List (List Int)} (h1:Qu n o1 Q) (h2:Qu n o2 Q):o1=o2:=by
 apply aAe;intro a
 by_cases ha:a<n
 ·have e1:o1[a]? =some (o1[a]'(by have:=h1.1;omega)):=aAA _
  have e2:o2[a]? =some (o2[a]'(by have:=h2.1;omega)):=aAA _
  rw[e1,e2,(h1.2 a _ e1).1.1.ext (h2.2 a _ e2).1.1 λv=>by rw[(h1.2 a _ e1).2 v,(h2.2 a _ e2).2 v]]
 ·rw[aAO (by have:=h1.1;omega),aAO (by have:=h2.1;omega)]
theorem Qu.nil (n:Nat) (hq:∀ a v,¬ Q a v):Qu n (List.replicate n []) Q :=
 ⟨by simp,λa s hs=>by
  grind [Ow.nil]⟩
theorem Qu.set {n:Nat} {out:List (List Int)} {P:Nat->Int->Prop} (h:Qu n out P) {d:Nat} (_hd:d<n) (hs:Ow n s) (h1:∀ v,v∈s↔Q d v) (h2:∀ a v,a≠d->(Q a v↔P a v)):Qu n (out.set d s) Q:=by
 refine⟨by simp[h.1],λa t ht=>?_⟩
 by_cases e:a=d
 ·grind
 ·rw[aAY (λh=>e h.symm)]at ht
  exact⟨(h.2 a t ht).1,λv=>by rw[(h.2 a t ht).2 v,h2 a v e]⟩
def Zw (mv:Mk->Int->Bool) (f:Lo) (l:List (List Int)) (r:List (List Int)×Int):Prop :=
 (r.2=0/\Acc f l/\Qu f.Slots.length r.1 λa v=>Ed mv f l a v\/Ed mv f l v a)\/(r.2=11/\¬ Acc f l/\r.1=[])
theorem Zw.unique {r q:List (List Int)×Int} (h:Zw mv f l r) (k:Zw mv f l q):r=q:=by
 obtain⟨r1,r2⟩:=r;obtain⟨q1,q2⟩:=q;rcases h with⟨h1,h2,h3⟩|⟨h1,h2,h3⟩<;>rcases k with⟨k1,k2,k3⟩|⟨k1,k2,k3⟩
 ·simp only at h1 k1 h3 k3;rw[h1,k1,h3.ext k3]
 all_goals simp_all
def Oa (to:List Int) (s:Int):Int:=(to[s.toNat]?).getD 0
def Pm (f:Lo) (s:Int):Int:=((f.Slots[s.toNat]?).map NS.Size).getD 0
def AfS (f:Lo) (to:List Int):Prop :=
 to.length=f.Slots.length/\∀ s:Nat,s<to.length->0<=Oa to s/\Oa to s<to.length/\Pm f (Oa to s)=Pm f s/\Oa to (Oa to s)=Oa to s
theorem QP {s:Int} (h0:0<=s) (h:s<to.length):to[s.toNat]? =some (Oa to s):=by
 grind [Oa]
theorem AaB {s:Int} {x:NS} (h:f.Slots[s.toNat]? =some x):x.Size=Pm f s:=by
 simp[Pm,h]
def Oi (keep:List Bool) (k:Nat):Bool:=(keep[k]?).getD true
def SB (f:Lo) (r:NV):Prop :=
 AfS f r.To/\r.Keep.length=f.Code.length/\∀ k:Nat,k<f.Code.length->Oi r.Keep k=false->(NI f k).Op=16\/(NI f k).Op=17
def rnS (to:List Int) (s:Int):Int:=if 0<=s/\s<to.length then Oa to s else s
theorem AyY (to:List Int) (s:Int):TA s to=some (rnS to s):=by
 unfold TA rnS
 by_cases h0:s<0
 ·grind
 ·rw[decide_eq_false h0,cond_false]
  by_cases h1:s>=(to.length:Int)
  ·grind
  ·rw[decide_eq_false h1,cond_false,if_pos (by omega),Ps _ (by omega),QP (by omega) (by omega)]
   rfl
def rnI (to:List Int) (x:Mk):Mk :=
 if x.Op=15 then⟨x.Op,x.A,rnS to x.B,x.C,x.Imm⟩else if x.Op=16 then⟨x.Op,rnS to x.A,x.B,x.C,x.Imm⟩else if x.Op=17 then⟨x.Op,rnS to x.A,rnS to x.B,x.C,x.Imm⟩else x
theorem Asa (x:Mk) (to:List Int):Wm x to=some (rnI to x):=by
 unfold Wm rnI;simp only[AyY,aA]
 grind
theorem Adh (to:List Int) (x:Mk):(rnI to x).Op=x.Op:=by
 unfold rnI
 grind
def kept (keep:List Bool) (k:Nat):Nat:=(keep.take k).countP id
theorem AfK (keep:List Bool) (k:Nat):kept keep k<=k:=by
 grind [kept,List.countP_le_length]
theorem Yg {keep:List Bool} {b:Bool} (h:keep[k]? =some b):kept keep (k+1)=kept keep k+(if b then 1 else 0):=by
 grind [kept,aAX]
theorem ApF (r:NV) (hl:r.Keep.length<=1000000):Hs (AcZ r) λl=>l.length=r.Keep.length/\∀ j:Nat,j<r.Keep.length->l[j]? =some (kept r.Keep j:Int):=by
 refine Hs.loop (λs=>∃ k:Nat,s.2.2=(k:Int)/\k<=r.Keep.length/\s.2.1=(kept r.Keep k:Int)/\s.1.length=k/\∀ j:Nat,j<k->s.1[j]? =some (kept r.Keep j:Int)) (λs=>r.Keep.length-s.2.2.toNat) ⟨0,rfl,aAE _,rfl,rfl,λj hj=>absurd hj (aAI _)⟩ ?_
 rintro⟨l,n,_⟩ ⟨k,rfl,hk,hn,hll,hj⟩;subst hn;replace hll:l.length=k:=hll;refine .dec (λhlt=>?_) λhge=>.lft (.pure ?_)
 ·have hlt:k<r.Keep.length:=by simp_all
  have hg:r.Keep[k]? =some r.Keep[k]:=aAA _;generalize r.Keep[k]=b at hg;have hkl:=AfK r.Keep k;have hks:=Yg hg;have hap:∀ j:Nat,j<k+1->(l++[(kept r.Keep k:Int)])[j]? =some (kept r.Keep j:Int):=by
   grind
  refine .chk (by simp;omega) ?_
  simp only[Ov,hg,aA];rw[NP (show k<9223372036854775807 by omega),NP (show kept r.Keep k<9223372036854775807 by omega)]
  refine .cond (λh=>?_) λh=>?_
  ·subst h;exact .cnt ⟨⟨k+1,rfl,hlt,by simp_all,by simp[hll],hap⟩,by grind⟩
  ·subst h;exact .cnt ⟨⟨k+1,rfl,hlt,by simp_all,by simp[hll],hap⟩,by grind⟩
 ·have hkk:k=r.Keep.length:=by grind
  subst hkk;exact⟨hll,hj⟩
theorem AqW (x:Mk):Vm x=some (Pr x):=by
 grind [Vm,Pr]
theorem AfS.rng (h:AfS f to) {s:Int} (h0:0<=s) (h1:s<f.Slots.length):0<=rnS to s/\rnS to s<f.Slots.length/\rnS to s=Oa to s:=by
 obtain⟨j,rfl⟩:∃ j:Nat,s=(j:Int):=⟨s.toNat,by omega⟩
 have hl:=h.1;have:=h.2 j (by omega)
 simp_all[rnS]
def OD (x:Mk):List Int:=Pr x++(if x.Op=16\/x.Op=17 then[x.A]else[])
theorem ZQ (hf:Ot f) (hd:Rx f) (h:AfS f to) (hx:x∈f.Code):∀ v∈OD (rnI to x),0<=v/\v<f.Slots.length:=by
 intro v hv;have hu:=hf.uses x hx;have hdf:=hd x hx;have key:∀ s:Int,0<=s->s<f.Slots.length->0<=rnS to s/\rnS to s<f.Slots.length:=λs h0 h1=>⟨(h.rng h0 h1).1,(h.rng h0 h1).2.1⟩
 grind [OD,Pr,rnI]
theorem Aym (hf:Ot f) (hd:Rx f) (hr:SB f r):Hs (Aaw f r) λl=>Ow f.Slots.length l/\∀ k:Nat,k<f.Code.length->Oi r.Keep k=true->∀ v∈OD (rnI r.To (NI f k)),v∈l:=by
 have hlen:=hf.len';have hsl:=hf.slots;have hkl:=hr.2.1;unfold Aaw;refine Hs.loop (λs=>∃ k:Nat,s.2=(k:Int)/\k<=f.Code.length/\Ow f.Slots.length s.1/\∀ j:Nat,j<k->Oi r.Keep j=true->∀ v∈OD (rnI r.To (NI f j)),v∈s.1) (λs=>f.Code.length-s.2.toNat) ⟨0,rfl,aAE _,Ow.nil _,λj hj=>absurd hj (aAI _)⟩ ?_
 rintro⟨l,_⟩ ⟨k,rfl,hk,hs,hj⟩;replace hs:Ow f.Slots.length l:=hs;replace hj:∀ j:Nat,j<k->Oi r.Keep j=true->∀ v∈OD (rnI r.To (NI f j)),v∈l:=hj;unfold Aff;refine .dec (λhlt=>.dec (λ_=>?_) λh=>?_) λhge=>.lft (.pure ⟨hs,λj h=>hj j (by omega)⟩)
 ·have hlt:k<f.Code.length:=by omega
  have hx:=hf.at (j:=(k:Int)) (by omega) (by omega)
  rw[aAD]at hx;have hg:r.Keep[k]? =some (Oi r.Keep k):=by grind [Oi]
  have hnr:=ZQ hf hd hr.1 hx.2;unfold YJ;simp only[Ov,hg,hx.1,aA,Asa,AqW,Alr,NP (show k<9223372036854775807 by omega)]
  refine .cond (λh=>.cnt ⟨⟨k+1,rfl,hlt,hs,λj h' hkj=>?_⟩,by grind⟩) λh=>?_
  ·grind
  ·obtain⟨y,hy⟩:∃ y,y=rnI r.To (NI f k):=⟨_,rfl⟩;rw[<- hy]at hnr ⊢;have hul:(Pr y).length<=1:=by grind [Pr]
   have hll:=hs.1.length_le;rw[union_eq _ _ (by omega),aA]
   obtain⟨u1,u2⟩:=Vo (n:=f.Slots.length) (by omega) (b:=Pr y) (a:=l) hs (λx hx=>hnr x (by grind [OD]))
   by_cases hdy:y.Op=16\/y.Op=17
   ·simp only[Ahx,if_pos hdy,cond_true];have hA:=hnr y.A (by simp_all[OD])
    obtain⟨a1,a2⟩:=Ow.add (n:=f.Slots.length) u1 hA (by omega)
    have a3:=(Ow.AfT u1 hA (by omega)).2.2
    rw[a2,aA];refine .cnt ⟨⟨k+1,rfl,hlt,a1,λj h' hkj v hv=>?_⟩,by grind⟩
    show v∈QM y.A (QQ l (Pr y));rw[a3,u2]
    by_cases e:j=k
    ·subst e;rw[<- hy]at hv;unfold OD at hv
     grind
    grind
   ·simp only[Ahx,if_neg hdy,cond_false];refine .cnt ⟨⟨k+1,rfl,hlt,u1,λj h' hkj v hv=>?_⟩,by grind⟩
    show v∈QQ l (Pr y);rw[u2]
    by_cases e:j=k
    ·simp_all[OD]
    grind
 omega
theorem AnH (hl:r.To.length<=500) (hu:used.length<=512):Hs (YK r used) λl=>l.length=r.To.length/\∀ (s:Nat) x,l[s]? =some x->0<=x/\(Oa r.To s∈used->used[x.toNat]? =some (Oa r.To s)):=by
 unfold YK;refine Hs.loop (λz=>∃ k:Nat,z.2=(k:Int)/\k<=r.To.length/\z.1.length=k/\∀ (s:Nat) x,z.1[s]? =some x->0<=x/\(Oa r.To s∈used->used[x.toNat]? =some (Oa r.To s))) (λz=>r.To.length-z.2.toNat) ⟨0,rfl,aAE _,rfl,λs x h=>by simp at h⟩ ?_
 rintro⟨l,_⟩ ⟨k,rfl,hk,hll,hq⟩;replace hll:l.length=k:=hll;refine .dec (λhlt=>?_) λhge=>.lft (.pure ?_)
 ·have hlt:k<r.To.length:=by omega
  have hg:=QP (to:=r.To) (s:=(k:Int)) (by omega) (by omega)
  rw[aAD]at hg;refine Hs.loop (λz=>∃ i:Nat,z.2=(i:Int)/\i<=used.length/\0<=z.1/\(Oa r.To k∈used.take i->used[z.1.toNat]? =some (Oa r.To k))) (λz=>used.length-z.2.toNat) ⟨0,rfl,aAE _,aAW _,λh=>by simp at h⟩ ?_
  rintro⟨n,_⟩ ⟨i,rfl,hi,hn,hm⟩;refine .dec (λhlt2=>?_) λhge2=>.lft (.chk (by simp;omega) ?_)
  ·have hlt2:i<used.length:=by omega
   have hgx:used[i]? =some used[i]:=aAA _;have htk:used.take (i+1)=used.take i++[used[i]]:=by simp_all
   generalize used[i]=y at hgx htk;simp only[Ov,hgx,hg,aA];rw[NP (by omega)]
   refine .beq (λh=>.cnt ⟨⟨i+1,rfl,hlt2,by omega,λ_=>?_⟩,by grind⟩) λh=>.cnt ⟨⟨i+1,rfl,hlt2,hn,λh'=>?_⟩,by simp only;omega⟩
   all_goals grind [aAD]
  ·have hii:i=used.length:=by omega
   subst hii;unfold Yw;rw[NP (by omega)]
   refine .cnt ⟨⟨k+1,rfl,hlt,by simp[hll],λs x hx=>?_⟩,by simp only;omega⟩
   have hx:(l++[n])[s]? =some x:=hx
   by_cases e:s=k
   ·simp_all
   ·have hsl:s<l.length:=by
     have:=(aAB.1 hx).1;simp at this;omega
    rw[aAP hsl]at hx;exact hq s x hx
 ·have hkk:k=r.To.length:=by simp only at hge;omega
  subst hkk;exact⟨hll,hq⟩
def mvI (pl:List Int) (x:Mk):Mk :=
 if x.Op=20 then⟨x.Op,(pl[x.A.toNat]?).getD 0,x.B,x.C,x.Imm⟩else if x.Op=21 then⟨x.Op,x.A,(pl[x.B.toNat]?).getD 0,x.C,x.Imm⟩else x
def Tj (f:Lo) (keep:List Bool) (to pl:List Int) (k:Nat):List Mk:=(List.range k).filterMap λj=>if Oi keep j=true then some (mvI pl (rnI to (NI f (j:Nat))))else none
theorem Alc (f:Lo) (keep:List Bool) (to pl:List Int) (k:Nat):Tj f keep to pl (k+1)=Tj f keep to pl k++(if Oi keep k=true then[mvI pl (rnI to (NI f (k:Nat)))]else[]):=by
 grind [Tj,aAh]
theorem Xt {f:Lo} {keep:List Bool} {to pl:List Int}:∀ k:Nat,k<=keep.length->(Tj f keep to pl k).length=kept keep k/\∀ (p:Nat) x,(Tj f keep to pl k)[p]? =some x->∃ j:Nat,j<k/\Oi keep j=true/\kept keep j=p/\x=mvI pl (rnI to (NI f (j:Nat)))
 | 0,_=>⟨rfl,λp x h=>by grind [Tj]⟩
 | k+1,hk=>by
  obtain⟨h1,h2⟩:=Xt (f:=f) (keep:=keep) (to:=to) (pl:=pl) k (by omega)
  have hg:keep[k]? =some (Oi keep k):=by grind [Oi]
  rw[Alc]
  by_cases h:Oi keep k=true
  ·rw[if_pos h];rw[h]at hg;have hs:=Yg hg
   grind
  ·rw[if_neg h,aAp]
   grind [Yg]
theorem AeP (h:x.Op=20\/x.Op=21):rnI to x=x:=by
 unfold rnI
 grind
theorem Ajx (hf:Ot f) (hk:k<f.Code.length):((NI f k).Op=20->0<=(NI f k).A/\(NI f k).A<f.Code.length)/\((NI f k).Op=21->0<=(NI f k).B/\(NI f k).B<f.Code.length):=by
 have hx:=hf.at (j:=(k:Int)) (by omega) (by omega)
 rw[aAD]at hx;have hn:=hf.next k _ hx.1;refine⟨λh=>hn _ (by simp[Ri,h]),λh=>hn _ ?_⟩
 unfold Ri
 grind
theorem AqS (hf:Ot f) (hkl:r.Keep.length=f.Code.length) (to pl:List Int) (hpl:pl.length=r.Keep.length) (sl:List NS) :
  Hs (NW (λs=>AdY f r to pl sl s.1 s.2) ([],0)) λq=>q=(⟨f.Params,sl,Tj f r.Keep to pl f.Code.length⟩,0):=by
 have hlen:=hf.len';refine Hs.loop (λs=>∃ k:Nat,s.2=(k:Int)/\k<=f.Code.length/\s.1=Tj f r.Keep to pl k) (λs=>f.Code.length-s.2.toNat) ⟨0,rfl,aAE _,rfl⟩ ?_
 rintro⟨_,_⟩ ⟨k,rfl,hk,rfl⟩;refine .dec (λhlt=>?_) λhge=>.lft (.pure ?_)
 ·have hlt:k<f.Code.length:=by omega
  have hx:=hf.at (j:=(k:Int)) (by omega) (by omega)
  rw[aAD]at hx;have hg:r.Keep[k]? =some (Oi r.Keep k):=by grind [Oi]
  have hol:=(Xt (f:=f) (keep:=r.Keep) (to:=to) (pl:=pl) k (by omega)).1
  have hkk:=AfK r.Keep k;have hs:=Alc f r.Keep to pl k;obtain⟨t1,t2⟩:=Ajx hf hlt;simp only[Ov,hg,hx.1,aA,Asa];refine .cond (λh=>?_) λh=>?_
  ·have hkf:¬ Oi r.Keep k=true:=λh'=>by simp_all
   rw[if_neg hkf,aAp]at hs;rw[NP (by omega)]
   exact .cnt ⟨⟨k+1,rfl,hlt,hs.symm⟩,by grind⟩
  ·have hkt:Oi r.Keep k=true:=by simp_all
   rw[if_pos hkt]at hs;have fin:∀ a b:Int,(⟨(rnI to (NI f k)).Op,a,b,(rnI to (NI f k)).C,(rnI to (NI f k)).Imm⟩:Mk)=mvI pl (rnI to (NI f k))->Hs (TZ (Tj f r.Keep to pl k) (rnI to (NI f k)) (k:Int) a b) (Rnd (λs:List Mk×Int=>∃ k:Nat,s.2=(k:Int)/\k<=f.Code.length/\s.1=Tj f r.Keep to pl k) (λs=>f.Code.length-s.2.toNat) (Tj f r.Keep to pl k,(k:Int)) λq=>q=(⟨f.Params,sl,Tj f r.Keep to pl f.Code.length⟩,0)):=by
    intro a b hab;unfold TZ;refine .chk (by simp;omega) (.chk (by simp;omega) ?_)
    rw[NP (by omega)]
    refine .cnt ⟨⟨k+1,rfl,hlt,?_⟩,by grind⟩
    simp_all
   refine .beq (λh20=>?_) λh20=>.beq (λh21=>?_) λh21=>fin _ _ ?_
   ·simp_all[Adh,AeP,chk,mvI]
   ·simp_all[Adh,AeP,chk,mvI]
   simp_all[mvI]
 ·have hkk:k=f.Code.length:=by omega
  subst hkk;rfl
theorem AyX {n:Nat} {out:List (List Int)} {P:Int->Int->Prop} (hs:Qu n out λa v=>P a v\/P v a) (hn:n<=500) {d y:Nat} (hd:d<n) (hy:y<n) (hne:d≠y) (t:Bool) (hi:i<1000000) (p q r s:Bool) :
  ∃ out',SN ((d:Int),t) out (y:Int) (i:Int) p q r s=some (.inl (out',((i+1:Nat):Int)))/\Qu n out' λa v=>(P a v\/((a:Int)=d/\v=y))\/(P v a\/(v=d/\(a:Int)=y)):=by
 have e1:out[d]? =some (out[d]'(by have:=hs.1;omega)):=aAA _
 have e2:out[y]? =some (out[y]'(by have:=hs.1;omega)):=aAA _
 generalize out[d]'(by grind)=sd at e1
 generalize out[y]'(by grind)=sy at e2
 have q1:=hs.2 d _ e1;have q2:=hs.2 y _ e2;have a1:=q1.1.add (m:=(y:Int)) (by omega) (by omega)
 have a2:=q2.1.add (m:=(d:Int)) (by omega) (by omega)
 have m1:=(Ow.AfT (m:=(y:Int)) q1.1 (by omega) (by omega)).2.2
 have m2:=(Ow.AfT (m:=(d:Int)) q2.1 (by omega) (by omega)).2.2
 have e3:(out.set d (QM y sd))[y]? =some sy:=by simp_all
 have hl:=hs.1;have h1:0<=(d:Int)/\(d:Int)<out.length:=by omega
 have h2:0<=(y:Int)/\(y:Int)<out.length:=by omega
 have h3:0<=(y:Int)/\(y:Int)<(out.set d (QM y sd)).length:=by simp_all
 have w:=NP (show i<9223372036854775807 by omega)
 refine⟨(out.set d (QM y sd)).set y (QM d sy),by grind [SN,aAD,Ou,AxF],by simp[hl],λa s hs'=>?_⟩
 by_cases ea:a=y
 ·grind
 ·rw[aAY (λh=>ea h.symm)]at hs'
  by_cases ed:a=d
  ·grind
  ·rw[aAY (λh=>ed h.symm)]at hs'
   refine⟨(hs.2 a s hs').1,λv=>?_⟩
   rw[(hs.2 a s hs').2 v]
   grind
def AqO (mv:Mk->Int->Bool) (f:Lo) (l:List (List Int)) (s:List (List Int)×Int):Prop :=
 ∃ k:Nat,s.2=(k:Int)/\k<=f.Code.length/\Qu f.Slots.length s.1 λa v=>Acr mv f l k a v\/Acr mv f l k v a
def AtJ (mv:Mk->Int->Bool) (f:Lo) (l:List (List Int)) (k:Nat) (s:List (List Int)×Int):Prop :=
 ∃ i:Nat,s.2=(i:Int)/\i<=(Oe l k).length/\Qu f.Slots.length s.1 λa v=>AeR mv f l k i a v\/AeR mv f l k i v a
theorem Alh (hf:Ot f) (hd:Rx f) {l:Ob} (hl:Ue l.Out) (b:Bool):Hs (Abo f l b) (Zw (bif b then AdG else YQ) f l.Out):=by
 have hlen:=hf.len';have hsl:=hf.slots;refine(AvB hf hl).bind λe he=>.bne (λh=>.pure (.inr ⟨he.1.resolve_left h,λha=>h (he.2.2 ha),rfl⟩)) λh=>?_
 have hacc:Acc f l.Out:=he.2.1 h;refine .chk (by omega) ?_
 generalize hmv:(bif b then AdG else YQ)=mv
 refine Hs.loop (AqO mv f l.Out) (λs=>f.Code.length-s.2.toNat) ⟨0,rfl,aAE _,?_⟩ ?_
 ·exact Qu.nil _ λa v h=>by rcases h with⟨j,hj,_⟩|⟨j,hj,_⟩<;>omega
 rintro⟨out,_⟩ ⟨k,rfl,hk,hs⟩;refine .dec (λhlt=>?_) λhge=>.lft (.pure (.inl ⟨rfl,hacc,?_⟩))
 ·have hlt:k<f.Code.length:=by omega
  have hx:=hf.at (j:=(k:Int)) (by omega) (by omega)
  rw[aAD]at hx;have hrow:=hacc.1.at (j:=(k:Int)) (by omega) (by omega)
  rw[aAD]at hrow;simp only[Ov,hx.1,aA,Alr];have next:∀ out',(Qu f.Slots.length out' λa v=>Acr mv f l.Out (k+1) a v\/Acr mv f l.Out (k+1) v a)->∀ a b c d e,Hs (TX (k:Int) a b c d e out') (Rnd (AqO mv f l.Out) (λs=>f.Code.length-s.2.toNat) (out,(k:Int)) (Zw mv f l.Out)):=by
   intro out' h' a b c d e;unfold TX;rw[NP (by omega)]
   exact .cnt ⟨⟨k+1,rfl,hlt,h'⟩,by grind⟩
  have inner:¬ ((NI f k).Op=17/\(NI f k).A=(NI f k).B)->Hs (Ya l (k:Int) (Ahx (NI f k)) b (NI f k) out) (Rnd (AqO mv f l.Out) (λs=>f.Code.length-s.2.toNat) (out,(k:Int)) (Zw mv f l.Out)):=by
   intro hnm
   by_cases hdef:(NI f k).Op=16\/(NI f k).Op=17
   ·have hdn:Ahx (NI f k)=((NI f k).A,true):=if_pos hdef;have hA:=hd _ hx.2 hdef;rw[hdn];have hlo:=hrow.2.1.length_le;refine Hs.loop (AtJ mv f l.Out k) (λs=>(Oe l.Out k).length-s.2.toNat) ⟨0,rfl,aAE _,hs.congr λa v _=>by grind [Ava]⟩ ?_
    rintro⟨out2,_⟩ ⟨i,rfl,hi,hs2⟩;unfold Aar;simp only[Ov,hrow.1,aA];refine .dec (λhlt2=>?_) λhge2=>.lft (next _ (hs2.congr λa v _=>?_) _ _ _ _ _)
    ·have hlt2:i<(Oe l.Out k).length:=by omega
     have hgx:(Oe l.Out k)[i]? =some (Oe l.Out k)[i]:=aAA _;have hxm:=aAF hlt2;generalize(Oe l.Out k)[i]=x at hgx hxm;have hx0:=hrow.2.1.2 x hxm;have hxn:=hrow.2.2 x hxm;unfold Aas;simp only[Ov,hrow.1,hgx,aA];have skip:x=(NI f k).A\/mv (NI f k) x=true->Hs (cnt (out2,IntKind.i64.wrap ((i:Int)+1))) (Rnd (AtJ mv f l.Out k) (λs=>(Oe l.Out k).length-s.2.toNat) (out2,(i:Int)) (Rnd (AqO mv f l.Out) (λs=>f.Code.length-s.2.toNat) (out,(k:Int)) (Zw mv f l.Out))):=by
      intro hh;rw[NP (by omega)]
      exact .cnt ⟨⟨i+1,rfl,hlt2,hs2.congr λa v _=>by grind [AuZ]⟩,by grind⟩
     have add:x≠(NI f k).A->mv (NI f k) x=false->∀ p q r s,Hs (SN ((NI f k).A,true) out2 x (i:Int) p q r s) (Rnd (AtJ mv f l.Out k) (λs=>(Oe l.Out k).length-s.2.toNat) (out2,(i:Int)) (Rnd (AqO mv f l.Out) (λs=>f.Code.length-s.2.toNat) (out,(k:Int)) (Zw mv f l.Out))):=by
      intro hne hmf p q r s;obtain⟨d,hde⟩:∃ d:Nat,(NI f k).A=(d:Int):=⟨_,(aAU hA.1).symm⟩;obtain⟨y,rfl⟩:∃ y:Nat,x=(y:Int):=⟨_,(aAU hx0.1).symm⟩;obtain⟨out',h1,h2⟩:=AyX (P:=AeR mv f l.Out k i) hs2 (by omega) (d:=d) (y:=y) (by omega) (by omega) (by omega) true (i:=i) (by omega) p q r s
      rw[hde,h1];refine .pure ⟨⟨i+1,rfl,hlt2,h2.congr λa v _=>?_⟩,by grind⟩
      grind [Apu]
     refine .beq (λh=>skip (.inl h)) λhne=>?_
     subst hmv;cases b
     ·simp only[Bool.not_false,cond_true,cond_false] 
      grind [YQ]
     ·simp only[aAa,cond_true,cond_false] ;exact add hne rfl _ _ _ _
    grind [Awx]
   ·have hdn:Ahx (NI f k)=(0,false):=if_neg hdef;rw[hdn];have hs':=hs.congr (Q:=λa v=>Acr mv f l.Out (k+1) a v\/Acr mv f l.Out (k+1) v a) λa v _=>by grind [Apv]
    refine Hs.loop (λs=>s=(out,0)) (λ_=>0) rfl ?_
    rintro _ rfl;unfold Aar;simp only[Ov,hrow.1,aA,cond_false];exact .dec (λ_=>.lft (next _ hs' _ _ _ _ _)) λ_=>.lft (next _ hs' _ _ _ _ _)
  refine .beq (λh17=>.beq (λhab=>next _ ?_ _ _ _ _ _) λhab=>inner λhh=>hab hh.2) λh17=>inner λhh=>h17 hh.1
  simp_all[Apv]
 ·have hk:k=f.Code.length:=by omega
  subst hk;exact hs
def Acs (f:Lo):Prop:=∀ x∈f.Code,x.Op=17->0<=x.A/\x.A<f.Slots.length/\0<=x.B/\x.B<f.Slots.length/\Pm f x.A=Pm f x.B
theorem Sm.AnG {i most:Int} (h:Sm ps i most f):Acs f:=by
 intro x hx hop;obtain⟨k,hk⟩:=aAH hx;have hkl:=(aAB.1 hk).1
 by_cases hk1:k+1<f.Code.length
 ·have hins:=h.body k x hk hk1;cases hins with
  | move a b h0 h1 h2 =>
   obtain⟨q0,q1,x,y,e1,e2,e3⟩:=h0
   grind [Pm]
  | bin op a b c h1 h2 h3 h4 h5 h6=>simp_all
  | un op a h1 h2=>simp_all
  | _=>simp at hop
 ·have he:=h.last x (by grind)
  rcases he with rfl|⟨w,_,rfl⟩<;>simp at hop
def Anj (f:Lo) (out:List PJ):Prop:=∀ p∈out,∃ x∈f.Code,x.Op=17/\p=⟨x.A,x.B⟩
theorem Aya (hlen:f.Code.length<=10000):Hs (Abn f) λout=>out.length<=10000/\Anj f out:=by
 unfold Abn;refine Hs.loop (λs=>∃ k:Nat,s.2=(k:Int)/\k<=f.Code.length/\s.1.length<=k/\Anj f s.1) (λs=>f.Code.length-s.2.toNat) ⟨0,rfl,aAE _,aAQ _,λp hp=>by cases hp⟩ ?_
 rintro⟨out,_⟩ ⟨k,rfl,hk,hol,hmv⟩;replace hol:out.length<=k:=hol;replace hmv:Anj f out:=hmv;unfold AdV;refine .dec (λhlt=>?_) λhge=>.lft (.pure ⟨show out.length<=10000 by omega,hmv⟩)
 have hlt:k<f.Code.length:=by omega
 have hx:f.Code[k]? =some f.Code[k]:=aAA _;have hxm:=aAF hlt;generalize f.Code[k]=x at hx hxm;simp only[Ov,hx,aA];have j3:∀ old:Bool,(old=false->x.Op=17)->Hs (XZ out x (k:Int) old) (Rnd (λs:List PJ×Int=>∃ k:Nat,s.2=(k:Int)/\k<=f.Code.length/\s.1.length<=k/\Anj f s.1) (λs=>f.Code.length-s.2.toNat) (out,(k:Int)) λout=>out.length<=10000/\Anj f out):=by
  intro old hold;refine Hs.loop (λs=>∃ i:Nat,s.2=(i:Int)/\i<=out.length/\(s.1=false->x.Op=17)) (λs=>out.length-s.2.toNat) ⟨0,rfl,aAE _,hold⟩ ?_
  rintro⟨old,_⟩ ⟨i,rfl,hi,hold⟩;refine .dec (λhlt2=>?_) λ_=>.lft ?_
  ·have hlt2:i<out.length:=by omega
   have hg:out[i]? =some out[i]:=aAA _;simp only[aAD];rw[NP (by omega)]
   refine .cond (λh=>.cnt ⟨⟨i+1,rfl,hlt2,λh'=>(by cases h')⟩,by grind⟩) λh=>.chk (by omega) ?_
   rw[hg,aA];exact .cnt ⟨⟨i+1,rfl,hlt2,λ_=>hold h⟩,by grind⟩
  ·unfold XY;rw[NP (by omega)]
   refine .cond (λh=>.chk (by simp;omega) (.cnt ⟨⟨k+1,rfl,hlt,by simp;omega,λp hp=>?_⟩,by grind⟩)) λ_=>.cnt ⟨⟨k+1,rfl,hlt,by grind,hmv⟩,by grind⟩
   rcases aAM.1 hp with hp|hp
   ·exact hmv p hp
   grind
 grind
theorem Alp (hl:to.length<=500) (s:Int):Hs (Wo to s) λl=>l.length<=to.length/\∀ t,t∈l↔∃ j:Nat,j<to.length/\t=(j:Int)/\Oa to j=s:=by
 refine Hs.loop (λz=>∃ k:Nat,z.2=(k:Int)/\k<=to.length/\z.1.length<=k/\∀ t,t∈z.1↔∃ j:Nat,j<k/\t=(j:Int)/\Oa to j=s) (λz=>to.length-z.2.toNat) ⟨0,rfl,aAE _,aAQ _,λt=>⟨λh=>(by cases h),λ⟨j,h,_⟩=>absurd h (aAI _)⟩⟩ ?_
 rintro⟨l,_⟩ ⟨k,rfl,hk,hll,hm⟩;replace hll:l.length<=k:=hll;refine .dec (λhlt=>?_) λhge=>.lft (.pure ?_)
 ·have hlt:k<to.length:=by omega
  have hg:=QP (to:=to) (s:=(k:Int)) (by omega) (by omega)
  rw[aAD]at hg;simp only[Ov,hg,aA];rw[NP (by omega)]
  refine .beq (λh=>.chk (by simp;omega) (.cnt ⟨⟨k+1,rfl,hlt,by simp;omega,λt=>?_⟩,by grind⟩)) λh=>.cnt ⟨⟨k+1,rfl,hlt,by grind,λt=>?_⟩,by grind⟩
  all_goals grind
 ·have hk:k=to.length:=by omega
  subst hk;exact⟨hll,hm⟩
def Acp (g:List (List Int)) (to:List Int) (a b:Int):Prop:=∀ (x y:Nat) row,x<to.length->y<to.length->Oa to x=a->Oa to y=b->g[x]? =some row->(y:Int)∉row
theorem Awg {n:Nat} (hg:Qu n g Q) (htn:to.length=n) (hl:n<=500) (a b:Int):Hs (Aen g to a b) λr=>r=true->Acp g to a b:=by
 refine(Alp (by omega) a).bind λxs hx=>(Alp (by omega) b).bind λys hy=>?_
 have fin:(∀ x∈xs,∀ y∈ys,∀ row,g[x.toNat]? =some row->y∉row)->Acp g to a b:=by
  intro h x y row h1 h2 h3 h4 h5;exact h x ((hx.2 x).2 ⟨x,h1,rfl,h3⟩) y ((hy.2 y).2 ⟨y,h2,rfl,h4⟩) row (by simp_all)
 refine Hs.loop (λi=>∃ k:Nat,i=(k:Int)/\k<=xs.length/\∀ x∈xs.take k,∀ y∈ys,∀ row,g[x.toNat]? =some row->y∉row) (λi=>xs.length-i.toNat) ⟨0,rfl,aAE _,λx h=>by simp at h⟩ ?_
 rintro _ ⟨k,rfl,hk,hall⟩;refine .dec (λhlt=>?_) λhge=>.lft (.pure λ_=>fin λx hx=>hall x (by grind))
 have hlt:k<xs.length:=by omega
 have hgx:xs[k]? =some xs[k]:=aAA _;have hxm:=aAF hlt;have htk:xs.take (k+1)=xs.take k++[xs[k]]:=by simp_all
 generalize xs[k]=x at hgx hxm htk;obtain⟨jx,hjx,rfl,_⟩:=(hx.2 x).1 hxm;have hgl:=hg.1;have hrow:g[jx]? =some (g[jx]'(by omega)):=aAA _
 generalize g[jx]'(by omega)=row at hrow
 have hset:=(hg.2 jx row hrow).1;have hrl:=hset.1.length_le;refine Hs.loop (λi=>∃ m:Nat,i=(m:Int)/\m<=ys.length/\∀ y∈ys.take m,y∉row) (λi=>ys.length-i.toNat) ⟨0,rfl,aAE _,λx h=>by simp at h⟩ ?_
 rintro _ ⟨m,rfl,hm,hno⟩;refine .dec (λhlt2=>?_) λhge2=>.lft ?_
 ·have hlt2:m<ys.length:=by omega
  have hgy:ys[m]? =some ys[m]:=aAA _;have htm:ys.take (m+1)=ys.take m++[ys[m]]:=by simp_all
  generalize ys[m]=y at hgy htm;refine .chk (by omega) ?_
  simp only[aAD,hgx,aA,Ov,hrow];refine .chk (by omega) ?_
  rw[hgy,aA,AcH _ _ (by omega),aA,NP (by omega)]
  refine .dec (λ_=>.lft (.lft (.pure λh=>(by cases h)))) λh=>.cnt ⟨⟨m+1,rfl,hlt2,λz hz=>?_⟩,by grind⟩
  grind
 ·unfold Aat;rw[NP (by omega)]
  refine .cnt ⟨⟨k+1,rfl,hlt,λz hz y hy row' hr=>?_⟩,by grind⟩
  grind [aAD]
structure Acq (f:Lo) (g:List (List Int)) (to:List Int):Prop where
 ok:AfS f to
 apart:∀ (x y:Nat) row,x<to.length->y<to.length->Oa to x=Oa to y->g[x]? =some row->(y:Int)∉row
def Sq (a b c:Int):Int:=if c=a\/c=b then SF a b else c
theorem Att (a b:Int):SF a b=a\/SF a b=b:=by grind [SF]
theorem Acq.join (hg:Qu f.Slots.length g Q) (hsym:∀ (x y:Nat) r s,g[x]? =some r->g[y]? =some s->(y:Int)∈r->(x:Int)∈s) {to':List Int} (h:Acq f g to) {b:Int} (ha:0<=a/\a<f.Slots.length) (hb:0<=b/\b<f.Slots.length) (haa:Oa to a=a) (hbb:Oa to b=b) (hs:Pm f a=Pm f b) (hap:Acp g to a b) (hl:to'.length=to.length) (hto:∀ j:Nat,j<to.length->Oa to' j=Sq a b (Oa to j)):Acq f g to':=by
 have htl:=h.ok.1;have hto2:∀ j:Int,0<=j->j<to.length->Oa to' j=Sq a b (Oa to j):=by
  intro j h0 h1;obtain⟨i,rfl⟩:∃ i:Nat,j=(i:Int):=⟨j.toNat,by omega⟩
  simp_all
 have hm:Oa to (SF a b)=SF a b/\0<=SF a b/\SF a b<f.Slots.length/\Pm f (SF a b)=Pm f a:=by
  grind [Att]
 have hj:Sq a b (SF a b)=SF a b:=by
  simp_all[Sq]
 refine⟨⟨by omega,λs hs'=>?_⟩,λx y row hx hy he hr hyr=>?_⟩
 ·obtain⟨q1,q2,q3,q4⟩:=h.ok.2 s (by omega)
  rw[hto s (by omega)]
  by_cases e:Oa to s=a\/Oa to s=b
  ·have ej:Sq a b (Oa to s)=SF a b:=by simp_all[Sq]
   grind
  simp_all[Sq]
 ·rw[hto x (by omega),hto y (by omega)]at he
  have hgl:=hg.1;have hrow:g[y]? =some (g[y]'(by omega)):=aAA _
  by_cases ex:Oa to x=a\/Oa to x=b<;>by_cases ey:Oa to y=a\/Oa to y=b
  ·rcases ex with ex|ex<;>rcases ey with ey|ey
   ·exact h.apart x y row (by omega) (by omega) (by rw[ex,ey]) hr hyr
   ·exact hap x y row (by omega) (by omega) ex ey hr hyr
   ·exact hap y x _ (by omega) (by omega) ey ex hrow (hsym x y _ _ hr hrow hyr)
   ·exact h.apart x y row (by omega) (by omega) (by rw[ex,ey]) hr hyr
  ·have e1:Sq a b (Oa to x)=SF a b:=by simp_all[Sq]
   have e2:Sq a b (Oa to y)=Oa to y:=by simp_all[Sq]
   grind [Att]
  ·simp_all[Sq,Oa,SF]
  ·have e1:Sq a b (Oa to y)=Oa to y:=by simp_all[Sq]
   have e2:Sq a b (Oa to x)=Oa to x:=by simp_all[Sq]
   rw[e1,e2]at he;exact h.apart x y row (by omega) (by omega) he hr hyr
theorem AvM (f:Lo) (to:List Int) (hsl:f.Slots.length<=500):Hs (Aem f to) λb=>b=true↔AfS f to:=by
 refine .bne (λh=>.pure ⟨λh'=>(by cases h'),λh'=>(h (by rw[h'.1])).elim⟩) λh=>?_
 have hl:to.length=f.Slots.length:=by omega
 refine Hs.loop (λi=>∃ k:Nat,i=(k:Int)/\k<=to.length/\∀ s:Nat,s<k->0<=Oa to s/\Oa to s<to.length) (λi=>to.length-i.toNat) ⟨0,rfl,aAE _,λs hs=>absurd hs (aAI _)⟩ ?_
 rintro _ ⟨k,rfl,hk,hall⟩;refine .dec (λhlt=>?_) λhge=>.lft ?_
 ·have hlt:k<to.length:=by omega
  have hg:to[k]? =some (Oa to k):=by have:=QP (to:=to) (s:=k) (by omega) (by omega);simp_all
  simp only[Ov,hg,aA];refine .dec (λh0=>.lft (.pure ⟨λh=>(by cases h),λh=>?_⟩)) λh0=>.dec (λh1=>.lft (.pure ⟨λh=>(by cases h),λh=>?_⟩)) λh1=>?_
  ·have:=(h.2 k hlt).1;omega
  ·have:=(h.2 k hlt).2.1;omega
  rw[NP (by omega)]
  refine .cnt ⟨⟨k+1,rfl,hlt,λs hs=>?_⟩,by grind⟩
  grind
 have hkk:k=to.length:=by omega
 subst hkk;refine Hs.loop (λi=>∃ k:Nat,i=(k:Int)/\k<=to.length/\∀ s:Nat,s<k->Pm f (Oa to s)=Pm f s/\Oa to (Oa to s)=Oa to s) (λi=>to.length-i.toNat) ⟨0,rfl,aAE _,λs hs=>absurd hs (aAI _)⟩ ?_
 rintro _ ⟨k,rfl,hk,hall2⟩;refine .dec (λhlt=>?_) λhge=>.lft (.pure ?_)
 ·have hlt:k<to.length:=by omega
  obtain⟨q0,q1⟩:=hall k hlt;have hg:to[k]? =some (Oa to k):=by have:=QP (to:=to) (s:=k) (by omega) (by omega);simp_all
  simp only[Ov,hg,aA];refine Hs.bind (Hs.ix (i:=Oa to k) (P:=λx=>x.Size=Pm f (Oa to k)) (by omega) (by omega) λx hx=>AaB hx) λa ha=>?_
  refine Hs.bind (Hs.get (i:=(k:Int)) (P:=λx=>x.Size=Pm f k) (by omega) (by omega) λx hx=>AaB hx) λb hb=>?_
  rw[ha,hb];refine .bne (λh2=>.lft (.pure ⟨λh=>(by cases h),λh=>(h2 (h.2 k hlt).2.2.1).elim⟩)) λh2=>?_
  rw[Ps _ (by omega),QP (by omega) (by omega),aA]
  refine .bne (λh3=>.lft (.pure ⟨λh=>(by cases h),λh=>(h3 (h.2 k hlt).2.2.2).elim⟩)) λh3=>?_
  rw[NP (by omega)]
  refine .cnt ⟨⟨k+1,rfl,hlt,λs hs=>?_⟩,by grind⟩
  grind
 ·exact⟨λ_=>⟨hl,λs hs=>⟨(hall s hs).1,(hall s hs).2,(hall2 s (by omega)).1,(hall2 s (by omega)).2⟩⟩,λ_=>rfl⟩
theorem AvJ (x:Mk):Sg x=some (decide (x.Op=16\/x.Op=17)):=by
 unfold Sg
 grind
theorem Amn (hf:Ot f) (r:NV):Hs (Abp f r) λe=>(e=0\/e=12)/\(e=0↔SB f r):=by
 have hlen:=hf.len';unfold Abp;refine(AvM f r.To hf.slots).bind λb hb=>.cond (λh=>.pure ⟨.inr rfl,λh=>by omega,λh'=>?_⟩) λh=>?_
 ·rw[hb.2 h'.1]at h;cases h
 have hv:AfS f r.To:=hb.1 (by simp_all)
 refine .bne (λh=>.pure ⟨.inr rfl,λh=>by omega,λh'=>(h (by rw[h'.2.1])).elim⟩) λh=>?_
 have hkl:r.Keep.length=f.Code.length:=by omega
 unfold Aav;refine Hs.loop (λi=>∃ k:Nat,i=(k:Int)/\k<=f.Code.length/\∀ j:Nat,j<k->Oi r.Keep j=false->(NI f j).Op=16\/(NI f j).Op=17) (λi=>f.Code.length-i.toNat) ⟨0,rfl,aAE _,λs hs=>absurd hs (aAI _)⟩ ?_
 rintro _ ⟨k,rfl,hk,hall⟩;unfold AdZ;refine .dec (λhlt=>?_) λhge=>.lft (.pure ⟨.inl rfl,λ_=>⟨hv,hkl,λj hj=>hall j (by omega)⟩,λ_=>rfl⟩)
 have hlt:k<f.Code.length:=by omega
 have hx:=hf.at (j:=(k:Int)) (by omega) (by omega)
 rw[aAD]at hx;have hg:r.Keep[k]? =some (Oi r.Keep k):=by grind [Oi]
 have stp:(Oi r.Keep k=false->(NI f k).Op=16\/(NI f k).Op=17)->∀ j:Nat,j<k+1->Oi r.Keep j=false->(NI f j).Op=16\/(NI f j).Op=17:=by
  grind
 simp only[Ov,hx.1,hg,aA,AvJ];rw[NP (by omega)]
 refine .cond (λh=>?_) λh=>.cnt ⟨⟨k+1,rfl,hlt,stp λh'=>by simp_all⟩,by grind⟩
 have hkf:Oi r.Keep k=false:=by simp_all
 refine .cond (λh=>.lft (.pure ⟨.inr rfl,λh=>by omega,λh'=>?_⟩)) λh=>.cnt ⟨⟨k+1,rfl,hlt,stp λ_=>aAd λhn=>by simp_all⟩,by grind⟩
 have:=h'.2.2 k hlt hkf;simp_all
theorem AhW:∀ {l:List Int} {a n:Int},l.Pairwise (· <·)->(∀ x∈l,a<=x/\x<n)->(l.length:Int)<=max 0 (n-a)
 | [],a,n,_,_=>by simp;omega
 | x::l,a,n,hp,hr=>by
  have h:=aAR.1 hp;have hx:=hr x (by simp)
  have:=AhW (l:=l) (a:=x+1) (n:=n) h.2 λy hy=>⟨by grind,(hr y (by simp[hy])).2⟩
  grind
theorem Awh (_hsl:f.Slots.length<=500) (_htl:r.To.length=f.Slots.length) {_u:Int} {x:NS} {out:List NS} (hi:i<=1000) {l:List Int} (hll:l.length<=1000) (ho:out.length=i) (hl:∀ t∈l,0<=t/\t<f.Slots.length) {Q:Lo×Int->Prop} (hI:∀ y:NS,y.Size=x.Size->(∃ t∈x::f.Slots,y.Align=t.Align)->Rnd I μ s0 Q (.inl (out++[y],((i+1:Nat):Int)))):Hs (NW (λs=>Aau l f out x (i:Int) s.1 s.2) (x.Align,0)) (Rnd I μ s0 Q):=by
 refine Hs.loop (λs=>∃ k:Nat,s.2=(k:Int)/\k<=l.length/\∃ t∈x::f.Slots,s.1=t.Align) (λs=>l.length-s.2.toNat) ⟨0,rfl,aAE _,x,by simp,rfl⟩ ?_
 rintro⟨a,_⟩ ⟨k,rfl,hk,t0,ht0,hat⟩;refine .dec (λhlt=>?_) λ_=>.lft (.chk (by simp;omega) (.chk (by simp;omega) ?_))
 ·have hlt:k<l.length:=by omega
  refine .chk (by omega) ((Hs.get (by omega) (by omega) λt ht=>aAC ht).bind λt ht=>?_)
  have:=hl t ht;refine(Hs.ix (P:=λy=>y∈f.Slots) this.1 this.2 λy hy=>aAC hy).bind λy hy=>?_
  rw[NP (by omega),AoM]
  refine .cnt ⟨⟨k+1,rfl,hlt,?_⟩,by grind⟩
  grind
 ·unfold Yb;rw[NP (by omega)]
  exact .cnt (hI _ rfl ⟨t0,ht0,hat⟩)
def Ads (f:Lo) (used:List Int) (out:List NS):Prop :=
 ∀ (j:Nat) y,out[j]? =some y->∃ u x,used[j]? =some u/\f.Slots[u.toNat]? =some x/\y.Size=x.Size/\∃ t∈f.Slots,y.Align=t.Align
theorem Ads.snoc {out:List NS} (h:Ads f used out) (ho:out.length=i) (hu:used[i]? =some u) {x y:NS} (hx:f.Slots[u.toNat]? =some x) (h1:y.Size=x.Size) (h2:∃ t∈x::f.Slots,y.Align=t.Align):Ads f used (out++[y]):=by
 intro j z hz
 by_cases e:j<out.length
 ·rw[aAP e]at hz;exact h j z hz
 grind
theorem Apm (hf:Ot f) (hd:Rx f) (hr:SB f r):Hs (Rq f r) λq=>q.2=0/\∃ used to pl:List Int,Ow f.Slots.length used/\(∀ k:Nat,k<f.Code.length->Oi r.Keep k=true->∀ v∈OD (rnI r.To (NI f k)),v∈used)/\to.length=r.To.length/\(∀ (s:Nat) x,to[s]? =some x->0<=x/\(Oa r.To s∈used->used[x.toNat]? =some (Oa r.To s))) /\
  pl.length=r.Keep.length/\(∀ j:Nat,j<r.Keep.length->pl[j]? =some (kept r.Keep j:Int))/\q.1.Slots.length=used.length/\q.1.Params=f.Params/\q.1.Code=Tj f r.Keep to pl f.Code.length/\Ads f used q.1.Slots:=by
 have hlen:=hf.len';have hsl:=hf.slots;have hkl:=hr.2.1;have htl:=hr.1.1;refine(Amn hf r).bind λe he=>.bne (λh=>(h (he.2.2 hr)).elim) λ_=>?_
 refine(Aym hf hd hr).bind λused ⟨hu1,hu2⟩=>?_
 have hul:=hu1.1.length_le;refine Hs.loop (λs=>∃ i:Nat,s.2=(i:Int)/\i<=used.length/\s.1.length=i/\Ads f used s.1) (λs=>used.length-s.2.toNat) ⟨0,rfl,aAE _,rfl,λj y hj=>by simp at hj⟩ ?_
 rintro⟨out,_⟩ ⟨i,rfl,hi,ho,hsa⟩;refine .dec (λhlt=>?_) λhge=>.lft ?_
 ·have hlt:i<used.length:=by omega
  have hgx:used[i]? =some used[i]:=aAA _;have hxm:=aAF hlt;generalize used[i]=u at hgx hxm;have h0:=(hu1.1.2 u hxm).1;have h1:=hu1.2 u hxm;refine .chk (by omega) ?_
  simp only[aAD,hgx,aA];refine(Hs.ix (P:=λx=>f.Slots[u.toNat]? =some x) h0 h1 λx hx=>hx).bind λx hfx=>.chk (by omega) ?_
  refine(Alp (by omega) u).bind λl hm=>?_
  refine Awh (_u:=u) hsl htl (by omega) (l:=l) (by omega) ho (λt ht=>?_) λy hy1 hy2=>⟨⟨i+1,rfl,hlt,by simp[ho],hsa.snoc ho hgx hfx hy1 hy2⟩,by grind⟩
  grind
 have hii:i=used.length:=by omega
 subst hii;refine(AnH (by omega) hul).bind λto ⟨n1,n2⟩=>(ApF r (by omega)).bind λpl ⟨p1,p2⟩=>?_
 refine(AqS hf hkl to pl p1 out).mono λq hq=>?_
 subst hq;exact⟨rfl,used,to,pl,hu1,hu2,n1,n2,p1,p2,ho,rfl,rfl,hsa⟩
theorem AqU (hf:Ot f) (hd:Rx f) (hr:SB f r):Hs (Rq f r) λq=>q.2=0/\∃ used to pl:List Int,Ow f.Slots.length used/\(∀ k:Nat,k<f.Code.length->Oi r.Keep k=true->∀ v∈OD (rnI r.To (NI f k)),v∈used)/\to.length=r.To.length/\(∀ (s:Nat) x,to[s]? =some x->0<=x/\(Oa r.To s∈used->used[x.toNat]? =some (Oa r.To s))) /\
  pl.length=r.Keep.length/\(∀ j:Nat,j<r.Keep.length->pl[j]? =some (kept r.Keep j:Int))/\q.1.Slots.length=used.length/\q.1.Params=f.Params/\q.1.Code=Tj f r.Keep to pl f.Code.length :=
 (Apm hf hd hr).mono λ_q ⟨h0,used,to,pl,u1,u2,n1,n2,p1,p2,sl,pr,cd,_⟩=>⟨h0,used,to,pl,u1,u2,n1,n2,p1,p2,sl,pr,cd⟩
theorem AeH {keep:List Bool} {j:Nat}:∀ {k:Nat},j<=k->k<=keep.length->kept keep j<=kept keep k
 | 0,h,_=>by
  simp_all
 | k+1,h,hk=>by
  by_cases e:j=k+1
  ·simp_all
  ·have h1:=AeH (keep:=keep) (j:=j) (k:=k) (by omega) (by omega)
   have hg:keep[k]? =some (keep[k]'(by omega)):=aAA _
   grind [Yg]
def XH (f:Lo):Prop:=(NI f (f.Code.length-1:Nat)).Op=20\/(NI f (f.Code.length-1:Nat)).Op=23\/(NI f (f.Code.length-1:Nat)).Op=24
theorem Aio (hf:Ot f) (hlast:XH f) (hr:SB f r) {t:Nat} (ht:t<f.Code.length):kept r.Keep t<kept r.Keep f.Code.length:=by
 have hkl:=hr.2.1;have hl:=hf.len;have hk:Oi r.Keep (f.Code.length-1)=true:=by
  cases h:Oi r.Keep (f.Code.length-1)
  ·have:=hr.2.2 _ (by omega) h
   grind [XH]
  ·rfl
 have hg:r.Keep[f.Code.length-1]? =some true:=by
  grind [Oi]
 have h1:=Yg hg;have h2:=AeH (keep:=r.Keep) (j:=t) (k:=f.Code.length-1) (by omega) (by omega)
 grind
theorem AtM (hf:Ot f) (hlast:XH f) (hr:SB f r) {pl:List Int} (hpl:∀ j:Nat,j<r.Keep.length->pl[j]? =some (kept r.Keep j:Int)) {p:Nat} (hx:(Tj f r.Keep to pl f.Code.length)[p]? =some x):∀ t∈Ri x p,0<=t/\t<(kept r.Keep f.Code.length:Int):=by
 have hkl:=hr.2.1;obtain⟨j,hj,hk,rfl,rfl⟩:=(Xt (f:=f) (keep:=r.Keep) (to:=to) (pl:=pl) f.Code.length (by omega)).2 p x hx
 have hcode:=(hf.at (j:=(j:Int)) (by omega) (by omega)).1
 have hn:=hf.next j _ hcode;obtain⟨t1,t2⟩:=Ajx hf hj;have hg:r.Keep[j]? =some true:=by
  grind [Oi]
 have hs:=Yg hg;simp at hs;have at_:∀ t:Int,0<=t->t<f.Code.length->(pl[t.toNat]?).getD 0=(kept r.Keep t.toNat:Int)/\kept r.Keep t.toNat<kept r.Keep f.Code.length:=λt h0 h1=>by
  simp_all[Aio]
 have nx:(j:Int)+1<f.Code.length->(kept r.Keep j:Int)+1<kept r.Keep f.Code.length:=λh=>by
  have:=Aio hf hlast hr (t:=j+1) (by omega)
  omega
 intro t ht
 by_cases h20:(NI f j).Op=20
 ·simp_all[AeP,mvI,Ri]
 ·by_cases h21:(NI f j).Op=21
  ·rw[AeP (.inr h21)]at ht;have a:=at_ _ (t2 h21).1 (t2 h21).2
   have b:=nx (by
    have:=hn ((j:Int)+1) (by
     unfold Ri
     grind)
    omega)
   have hmem:t=(pl[(NI f j).B.toNat]?).getD 0\/t=(kept r.Keep j:Int)+1:=by
    simp only[mvI,if_neg h20,if_pos h21,Ri]at ht
    grind
   omega
  ·have hop:(mvI pl (rnI to (NI f j))).Op=(NI f j).Op:=by
    have h:=Adh to (NI f j);simp_all[mvI]
   unfold Ri at ht;rw[hop,if_neg h20]at ht
   by_cases h23:(NI f j).Op=23\/(NI f j).Op=24
   ·simp_all
   ·rw[if_neg h23,if_neg h21]at ht
    have b:=nx (by
     simp_all[Ri])
    grind
theorem AdH (to:List Int) (x:Mk) (v:Int):v∈OD (rnI to x)↔∃ s∈OD x,v=rnS to s:=by
 grind [OD,Pr,rnI]
theorem AwL (pl:List Int) (x:Mk):OD (mvI pl x)=OD x:=by
 grind [mvI,OD,Pr]
theorem Ahg (hf:Ot f) (hd:Rx f) (hx:x∈f.Code) {s:Int} (hs:s∈OD x):0<=s/\s<f.Slots.length:=by
 rcases aAM.1 hs with h|h
 ·exact hf.uses x hx s h
 ·by_cases hop:x.Op=16\/x.Op=17
  ·rw[if_pos hop]at h;rw[aAN.1 h];exact hd x hx hop
  simp_all
theorem AsB (hf:Ot f) (hd:Rx f) (hr:SB f r) {pl:List Int} (hu:∀ k:Nat,k<f.Code.length->Oi r.Keep k=true->∀ v∈OD (rnI r.To (NI f k)),v∈used) (htl:to.length=r.To.length) (hto:∀ (s:Nat) x,to[s]? =some x->0<=x/\(Oa r.To s∈used->used[x.toNat]? =some (Oa r.To s))) {p:Nat} (hx:(Tj f r.Keep to pl f.Code.length)[p]? =some x):∀ v∈OD x,0<=v/\v<used.length:=by
 have hkl:=hr.2.1;have hrl:=hr.1.1;obtain⟨j,hj,hk,rfl,rfl⟩:=(Xt (f:=f) (keep:=r.Keep) (to:=to) (pl:=pl) f.Code.length (by omega)).2 p x hx
 have hxm:=(hf.at (j:=(j:Int)) (by omega) (by omega)).2
 intro v hv;rw[AwL,AdH]at hv;obtain⟨s,hs,rfl⟩:=hv;obtain⟨h0,h1⟩:=Ahg hf hd hxm hs;have hm:=hu j hj hk (rnS r.To s) ((AdH _ _ _).2 ⟨s,hs,rfl⟩);rw[(hr.1.rng h0 h1).2.2]at hm;have hg:=QP (to:=to) (s:=s) h0 (by omega)
 have e:rnS to s=Oa to s:=by simp_all[rnS]
 grind [aAU]
theorem Sm.AyS {i most:Int} (h:Sm ps i most f):XH f:=by
 have hl:=h.len;have hg:f.Code[f.Code.length-1]? =some (NI f (f.Code.length-1:Nat)):=by grind [NI]
 have he:=h.last _ hg;unfold XH;rcases he with e|⟨w,_,e⟩<;>rw[e]<;>simp
theorem AtL (hf:Ot f) (hd:Rx f) (hlast:XH f) (hr:SB f r):Hs (Rq f r) λq=>q.2=0/\Ot q.1/\Rx q.1:=by
 have hkl:=hr.2.1;have hsl:=hf.slots;have hlen:=hf.len';have hl1:=hf.len;refine(AqU hf hd hr).mono λq ⟨h0,used,to,pl,u1,u2,n1,n2,p1,p2,sl,_,cd⟩=>⟨h0,?_⟩
 have hcl:q.1.Code.length=kept r.Keep f.Code.length:=by grind [Xt]
 have hk0:=Aio hf hlast hr (t:=0) (by omega)
 have hkl2:=AfK r.Keep f.Code.length;have hul:=AhW (l:=used) (a:=0) (n:=f.Slots.length) u1.1.1 λx hx=>⟨(u1.1.2 x hx).1,u1.2 x hx⟩
 have nm:∀ x∈q.1.Code,∀ v∈OD x,0<=v/\v<q.1.Slots.length:=by
  intro x hx v hv;obtain⟨p,hp⟩:=aAH hx;rw[cd]at hp;have:=AsB hf hd hr u2 n1 n2 hp v hv;omega
 refine⟨⟨by omega,by omega,by omega,λk x hx j hj=>?_,λx hx v hv=>nm x hx v (List.mem_append_left _ hv)⟩,λx hx hop=>nm x hx x.A (by simp_all[OD])⟩
 rw[cd]at hx;have:=AtM hf hlast hr p2 hx j hj;omega
def alS (f:Lo) (t:Int):Int:=((f.Slots[t.toNat]?).map NS.Align).getD 0
def Abz (f:Lo) (l:List Int) (a0 a:Int):Prop:=a0<=a/\(∀ t∈l,alS f t<=a)/\(a=a0\/∃ t∈l,a=alS f t)
theorem Abz.unique {l l':List Int} {a0 b:Int} (h:Abz f l a0 a) (k:Abz f l' a0 b) (e:∀ t,t∈l↔t∈l'):a=b:=by
 obtain⟨h1,h2,h3⟩:=h;obtain⟨k1,k2,k3⟩:=k
 grind
theorem Abz.nil (f:Lo) (a:Int):Abz f [] a a:=⟨aAW _,λt h=>(by cases h),.inl rfl⟩
theorem Abz.snoc {l:List Int} {a0:Int} (h:Abz f l a0 a) (t:Int):Abz f (l++[t]) a0 (max a (alS f t)):=by
 obtain⟨h1,h2,h3⟩:=h;refine⟨by omega,λu hu=>?_,?_⟩
 all_goals grind
def Awd (to:List Int) (s:Int) (l:List Int):Prop:=∀ t,t∈l↔∃ j:Nat,j<to.length/\t=(j:Int)/\Oa to j=s
def AqP (f:Lo) (r:NV) (used:List Int):Prop:=Ug used λv=>∃ k:Nat,k<f.Code.length/\Oi r.Keep k=true/\v∈OD (rnI r.To (NI f k))
structure TK (f:Lo) (r:NV) (used:List Int) (out:List NS):Prop where
 len:out.length=used.length
 at_:∀ (i:Nat) (u:Int) (y:NS),used[i]? =some u->out[i]? =some y->∃ x l,f.Slots[u.toNat]? =some x/\y.Size=x.Size/\Awd r.To u l/\Abz f l x.Align y.Align
theorem TK.unique {a b:List NS} (h:TK f r used a) (k:TK f r used b):a=b:=by
 refine aAe λi=>?_
 by_cases hi:i<used.length
 ·have e1:a[i]? =some (a[i]'(by have:=h.len;omega)):=aAA _
  have e2:b[i]? =some (b[i]'(by have:=k.len;omega)):=aAA _
  have hu:used[i]? =some used[i]:=aAA _;obtain⟨x,l,x1,x2,x3,x4⟩:=h.at_ i _ _ hu e1;obtain⟨x',l',y1,y2,y3,y4⟩:=k.at_ i _ _ hu e2;rw[x1]at y1;cases y1;rw[e1,e2];have ea:=x4.unique y4 λt=>(x3 t).trans (y3 t).symm
  congr 1;generalize a[i]'_=p at *;generalize b[i]'_=q at *;cases p;cases q;simp_all
 ·rw[aAO (by have:=h.len;omega),aAO (by have:=k.len;omega)]
def AqJ (r:NV) (used to:List Int):Prop:=to.length=r.To.length/\∀ (s:Nat) x,to[s]? =some x->Oa r.To s∈used->0<=x/\used[x.toNat]? =some (Oa r.To s)
def AhU (r:NV) (pl:List Int):Prop:=pl.length=r.Keep.length/\∀ j:Nat,j<r.Keep.length->pl[j]? =some (kept r.Keep j:Int)
theorem AhU.unique {a b:List Int} (h:AhU r a) (k:AhU r b):a=b:=by
 refine aAe λj=>?_
 by_cases hj:j<r.Keep.length
 ·rw[h.2 j hj,k.2 j hj]
 ·rw[aAO (by have:=h.1;omega),aAO (by have:=k.1;omega)]
theorem AvH {to':List Int} (h:∀ s∈OD x,rnS to s=rnS to' s):rnI to x=rnI to' x:=by
 simp_all[rnI,OD,Pr]
theorem OM.inj {l:List Int} (h:OM l) {j:Nat} (hi:l[i]? =some v) (hj:l[j]? =some v):i=j:=by
 obtain⟨a1,a2⟩:=aAB.1 hi;obtain⟨b1,b2⟩:=aAB.1 hj;have hp:=aAl.1 h.1
 grind
theorem Aim {α β:Type} {f g:α->Option β}:∀ {l:List α},(∀ x∈l,f x=g x)->l.filterMap f=l.filterMap g
 | [],_=>rfl
 | a::l,h=>by
  have h0:=h a (aAJ ..);have h1:=Aim (l:=l) λx hx=>h x (aAK _ hx)
  grind
theorem Aur (hf:Ot f) (hd:Rx f) (hr:SB f r) {to' pl:List Int} (hs:OM used) (hu:∀ k:Nat,k<f.Code.length->Oi r.Keep k=true->∀ v∈OD (rnI r.To (NI f k)),v∈used) (h:AqJ r used to) (h':AqJ r used to') :
  Tj f r.Keep to pl f.Code.length=Tj f r.Keep to' pl f.Code.length:=by
 have hrl:=hr.1.1;unfold Tj;refine Aim λj hj=>?_
 have hj:=List.mem_range.1 hj
 by_cases hk:Oi r.Keep j=true
 ·have hxm:=(hf.at (j:=(j:Int)) (by omega) (by omega)).2
  rw[AvH λs hs'=>?_]
  obtain⟨h0,h1⟩:=Ahg hf hd hxm hs';have hm:=hu j hj hk (rnS r.To s) ((AdH _ _ _).2 ⟨s,hs',rfl⟩);rw[(hr.1.rng h0 h1).2.2]at hm;have one:∀ {t:List Int},AqJ r used t->rnS t s=Oa t s/\0<=Oa t s/\used[(Oa t s).toNat]? =some (Oa r.To s):=fun{t} ht=>by
   have htl:=ht.1;have hg:=QP (to:=t) (s:=s) h0 (by omega)
   have:=ht.2 s.toNat _ hg;rw[aAU h0]at this;simp_all[rnS]
  obtain⟨a1,a2,a3⟩:=one h;obtain⟨b1,b2,b3⟩:=one h';have:=hs.inj a3 b3;omega
 simp_all
def Zu (f:Lo) (r:NV) (q:Lo×Int):Prop:=q.2=0/\q.1.Params=f.Params/\∃ used to pl:List Int,AqP f r used/\TK f r used q.1.Slots/\AqJ r used to/\AhU r pl/\q.1.Code=Tj f r.Keep to pl f.Code.length
theorem Zu.unique (hf:Ot f) (hd:Rx f) (hr:SB f r) {q q':Lo×Int} (h:Zu f r q) (k:Zu f r q'):q=q':=by
 obtain⟨h1,h2,used,to,pl,h3,h4,h5,h6,h7⟩:=h;obtain⟨k1,k2,used',to',pl',k3,k4,k5,k6,k7⟩:=k;have e1:used=used':=Ug.eq h3 k3 λv _ _=>Iff.rfl
 subst e1;have e2:=h6.unique k6;subst e2;have hm:∀ k:Nat,k<f.Code.length->Oi r.Keep k=true->∀ v∈OD (rnI r.To (NI f k)),v∈used:=λj hj hk v hv=>by
  have hsl:=hf.slots;have hxm:=(hf.at (j:=(j:Int)) (by omega) (by omega)).2
  have:=ZQ hf hd hr.1 hxm v hv;exact(h3.2 v).2 ⟨⟨this.1,by omega⟩,j,hj,hk,hv⟩
 rw[Aur hf hd hr h3.1 hm h5 k5]at h7;obtain⟨⟨p,s,c⟩,e⟩:=q;obtain⟨⟨p',s',c'⟩,e'⟩:=q';simp only at *;rw[h1,k1,h2,k2,h7,k7,h4.unique k4]
section
variable {f:Lo}
theorem AuH (_hsl:f.Slots.length<=500) {x:NS} {out:List NS} (hi:i<=1000) {l:List Int} (hll:l.length<=1000) (ho:out.length=i) (hl:∀ t∈l,0<=t/\t<f.Slots.length) {Q:Lo×Int->Prop} (hI:∀ y:NS,y.Size=x.Size->Abz f l x.Align y.Align->Rnd I μ s0 Q (.inl (out++[y],((i+1:Nat):Int)))):Hs (NW (λs=>Aau l f out x (i:Int) s.1 s.2) (x.Align,0)) (Rnd I μ s0 Q):=by
 refine Hs.loop (λs=>∃ k:Nat,s.2=(k:Int)/\k<=l.length/\Abz f (l.take k) x.Align s.1) (λs=>l.length-s.2.toNat) ⟨0,rfl,aAE _,by grind [Abz.nil]⟩ ?_
 rintro⟨a,_⟩ ⟨k,rfl,hk,hm⟩;refine .dec (λhlt=>?_) λhge=>.lft (.chk (by simp;omega) (.chk (by simp;omega) ?_))
 ·have hlt:k<l.length:=by omega
  have hg:l[k]? =some l[k]:=aAA _;have htk:l.take (k+1)=l.take k++[l[k]]:=by simp_all
  have ht:=hl _ (aAF hlt);generalize l[k]=t at hg htk ht;refine .chk (by omega) ?_
  rw[aAD,hg,aA];refine(Hs.ix (P:=λy=>alS f t=y.Align) ht.1 ht.2 λy hy=>by grind [alS]).bind λy hy=>?_
  rw[NP (by omega),AoM,<- hy]
  refine .cnt ⟨⟨k+1,rfl,hlt,?_⟩,by grind⟩
  rw[htk];exact hm.snoc t
 ·have hkk:k=l.length:=by omega
  subst hkk;rw[aAg]at hm;unfold Yb;rw[NP (by omega)]
  exact .cnt (hI _ rfl hm)
theorem TK.snoc {out:List NS} (ho:out.length=i) (hi:i<=used.length) (h:TK f r (used.take i) out) (hu:used[i]? =some u) {x y:NS} {l:List Int} (hx:f.Slots[u.toNat]? =some x) (h1:y.Size=x.Size) (hl:Awd r.To u l) (h2:Abz f l x.Align y.Align):TK f r (used.take (i+1)) (out++[y]):=by
 have hlt:=(aAB.1 hu).1;refine⟨by grind,λj v z hv hz=>?_⟩
 by_cases e:j<i
 ·rw[aAP (by omega)]at hz
  refine h.at_ j v z ?_ hz
  grind
 grind
theorem Aza (hf:Ot f) (hd:Rx f) (hr:SB f r):Hs (Aaw f r) λl=>AqP f r l/\Ow f.Slots.length l:=by
 have hlen:=hf.len';have hsl:=hf.slots;have hkl:=hr.2.1;refine Hs.loop (λs=>∃ k:Nat,s.2=(k:Int)/\k<=f.Code.length/\Ow f.Slots.length s.1/\∀ v,v∈s.1↔∃ j:Nat,j<k/\Oi r.Keep j=true/\v∈OD (rnI r.To (NI f j))) (λs=>f.Code.length-s.2.toNat) ⟨0,rfl,aAE _,Ow.nil _,λv=>⟨λh=>(by cases h),λ⟨j,hj,_⟩=>absurd hj (aAI _)⟩⟩ ?_
 rintro⟨l,_⟩ ⟨k,rfl,hk,hs,hj⟩;replace hs:Ow f.Slots.length l:=hs;have split:∀ v,(∃ j:Nat,j<k+1/\Oi r.Keep j=true/\v∈OD (rnI r.To (NI f j)))↔v∈l\/(Oi r.Keep k=true/\v∈OD (rnI r.To (NI f k))):=λv=>by
  grind
 refine .dec (λhlt=>.dec (λ_=>?_) λh=>?_) λhge=>.lft (.pure ⟨⟨hs.1,λv=>?_⟩,hs⟩)
 ·have hlt:k<f.Code.length:=by omega
  have hx:=hf.at (j:=(k:Int)) (by omega) (by omega)
  rw[aAD]at hx;have hg:r.Keep[k]? =some (Oi r.Keep k):=by grind [Oi]
  have hnr:=ZQ hf hd hr.1 hx.2;unfold YJ;simp only[Ov,hg,hx.1,aA,Asa,AqW,Alr,NP (show k<9223372036854775807 by omega)]
  refine .cond (λh=>.cnt ⟨⟨k+1,rfl,hlt,hs,λv=>?_⟩,by grind⟩) λh=>?_
  ·simp_all
  ·have hkt:Oi r.Keep k=true:=by simp_all
   obtain⟨y,hy⟩:∃ y,y=rnI r.To (NI f k):=⟨_,rfl⟩;rw[<- hy]at hnr ⊢;have hul:(Pr y).length<=1:=by grind [Pr]
   have hll:=hs.1.length_le;rw[union_eq _ _ (by omega),aA]
   obtain⟨u1,u2⟩:=Vo (n:=f.Slots.length) (by omega) (b:=Pr y) (a:=l) hs (λx hx=>hnr x (by grind [OD]))
   by_cases hdy:y.Op=16\/y.Op=17
   ·simp only[Ahx,if_pos hdy,cond_true];have hA:=hnr y.A (by simp_all[OD])
    obtain⟨a1,a2⟩:=Ow.add (n:=f.Slots.length) u1 hA (by omega)
    have a3:=(Ow.AfT u1 hA (by omega)).2.2
    rw[a2,aA];refine .cnt ⟨⟨k+1,rfl,hlt,a1,λv=>?_⟩,by grind⟩
    show v∈QM y.A (QQ l (Pr y))↔_;rw[split v,a3,u2,<- hy];unfold OD
    grind
   ·simp only[Ahx,if_neg hdy,cond_false];refine .cnt ⟨⟨k+1,rfl,hlt,u1,λv=>?_⟩,by grind⟩
    simp_all[OD]
 ·omega
 ·have hkk:k=f.Code.length:=by omega
  subst hkk;constructor
  ·intro h;have:=hs.2 v h;exact⟨⟨(hs.1.2 v h).1,by omega⟩,(hj v).1 h⟩
  simp_all
theorem AwV (hf:Ot f) (hd:Rx f) (hr:SB f r):Hs (Rq f r) (Zu f r):=by
 have hlen:=hf.len';have hsl:=hf.slots;have hkl:=hr.2.1;have htl:=hr.1.1;refine(Amn hf r).bind λe he=>.bne (λh=>(h (he.2.2 hr)).elim) λ_=>?_
 refine(Aza hf hd hr).bind λused ⟨hu0,hu1⟩=>?_
 have hul:=hu1.1.length_le;refine Hs.loop (λs=>∃ i:Nat,s.2=(i:Int)/\i<=used.length/\s.1.length=i/\TK f r (used.take i) s.1) (λs=>used.length-s.2.toNat) ⟨0,rfl,aAE _,rfl,rfl,λj u y hj=>by simp at hj⟩ ?_
 rintro⟨out,_⟩ ⟨i,rfl,hi,ho,hsa⟩;refine .dec (λhlt=>?_) λhge=>.lft ?_
 ·have hlt:i<used.length:=by omega
  have hgx:used[i]? =some used[i]:=aAA _;have hxm:=aAF hlt;generalize used[i]=u at hgx hxm;have h0:=(hu1.1.2 u hxm).1;have h1:=hu1.2 u hxm;refine .chk (by omega) ?_
  simp only[aAD,hgx,aA];refine(Hs.ix (P:=λx=>f.Slots[u.toNat]? =some x) h0 h1 λx hx=>hx).bind λx hfx=>.chk (by omega) ?_
  refine(Alp (by omega) u).bind λl hm=>?_
  refine AuH hsl (by omega) (l:=l) (by omega) ho (λt ht=>?_) λy hy1 hy2=>⟨⟨i+1,rfl,hlt,by simp[ho],hsa.snoc ho (by omega) hgx hfx hy1 hm.2 hy2⟩,by grind⟩
  grind
 have hii:i=used.length:=by omega
 subst hii;rw[aAg]at hsa;refine(AnH (by omega) hul).bind λto ⟨n1,n2⟩=>(ApF r (by omega)).bind λpl ⟨p1,p2⟩=>?_
 refine(AqS hf hkl to pl p1 out).mono λq hq=>?_
 subst hq;exact⟨rfl,rfl,used,to,pl,hu0,hsa,⟨n1,λs x hs hm=>⟨(n2 s x hs).1,(n2 s x hs).2 hm⟩⟩,⟨p1,p2⟩,rfl⟩
end
open Go Go.Dw Go.Proofs
def Rj (a:NU):Prop:=0<=a.Off/\a.Off<=2147483647/\0<=a.Size/\a.Size<=2147483647/\a.Off+a.Size<=2147483647
def Uf (a b:NU):Prop:=Rj a/\Rj b/\0<a.Size/\0<b.Size/\a.Off<b.Off+b.Size/\b.Off<a.Off+a.Size
def InI (a:NU) (n:Int):Prop:=Rj a/\a.Off+a.Size<=n
instance (a:NU):Decidable (Rj a):=by unfold Rj;infer_instance
instance (a b:NU):Decidable (Uf a b):=by unfold Uf;infer_instance
instance (a:NU) (n:Int):Decidable (InI a n):=by unfold InI;infer_instance
theorem AbX (a:NU):Sr a=some (decide (Rj a)):=by
 unfold Sr;simp only[Adw,aA]
 by_cases h1:0<=a.Off/\a.Off<=2147483647
 ·rw[decide_eq_true h1,cond_true]
  by_cases h2:0<=a.Size/\a.Size<=2147483647
  ·rw[decide_eq_true h2,cond_true,wrap64 (by omega) (by omega)]
   simp_all[Rj]
  ·rw[decide_eq_false h2,cond_false,decide_eq_false (λh=>h2 ⟨h.2.2.1,h.2.2.2.1⟩)]
 ·rw[decide_eq_false h1,cond_false,decide_eq_false (λh=>h1 ⟨h.1,h.2.1⟩)]
theorem Ajw {m:Nat} (hm:m<=24):QU ((2 ^ m:Nat):Int)=some true:=by
 have:Hs (QU ((2 ^ m:Nat):Int)) λb=>b=true:=by
  unfold QU;have hp:2 ^ m<=2 ^ 24:=aAZ (by omega) hm
  refine Hs.loop (λk=>∃ j:Nat,k=((2 ^ j:Nat):Int)/\j<=m) (λk=>2 ^ m-k.toNat) ⟨0,rfl,aAE _⟩ ?_
  rintro _ ⟨j,rfl,hj⟩;have hjp:2 ^ j<=2 ^ m:=aAZ (by omega) hj
  have hj0:0<2 ^ j:=Nat.two_pow_pos j;unfold RU;refine .dec (λ_=>.beq (λ_=>.lft (.pure rfl)) λhne=>?_) λh=>(h (by omega)).elim
  have hlt:j<m:=by
   grind
  have h2:2 ^ (j+1)<=2 ^ m:=aAZ (by omega) hlt
  have h3:2 ^ (j+1)=2 ^ j*2:=Nat.pow_succ 2 j;refine .cnt ⟨⟨j+1,?_,hlt⟩,?_⟩
  all_goals grind [wrap64]
 obtain⟨r,h,rfl⟩:=this;exact h
def upN (n a:Int):Int:=n+(-n) % a
theorem TC {n:Int} (ha:0<a):n<=upN n a/\upN n a<n+a/\upN n a % a=0:=by
 have h1:=aAq (-n) (show a≠0 by omega)
 have h2:=aAj (-n) ha;refine⟨by grind [upN],by grind [upN],?_⟩
 unfold upN;rw[Int.emod_def (-n) a]
 grind [Int.mul_neg,Int.mul_emod_right]
def QF (a:Int):Prop:=∃ m:Nat,m<=24/\a=((2 ^ m:Nat):Int)
theorem QF.rng (h:QF a):1<=a/\a<=16777216:=by
 obtain⟨m,hm,rfl⟩:=h;have hp:2 ^ m<=2 ^ 24:=aAZ (by omega) hm
 grind
theorem Aoh {n:Int} (h0:0<=n) (h1:n<=1000000000) (ha:QF a):ZT n a=some (upN n a,0):=by
 obtain⟨a1,a2⟩:=ha.rng;obtain⟨m,hm,rfl⟩:=ha;unfold ZT;rw[Adw,aA,decide_eq_true (show 0<=n/\n<=2147483647 by omega)]
 simp only[aAa,cond_false,Ajw hm,aA];generalize((2 ^ m:Nat):Int)=a at *;unfold Aej Abh;have ht:n.tmod a=n % a:=aAk h0;have e1:=aAq n (show a≠0 by omega)
 have e2:=aAj n (show 0<a by omega)
 have e3:=aAq (-n) (show a≠0 by omega)
 have e4:=aAj (-n) (show 0<a by omega)
 rw[Ou (by omega),ht]
 have key:(n % a=0->upN n a=n)/\(n % a≠0->upN n a=n-n % a+a):=by
  unfold upN;constructor
  ·simp_all[Int.emod_eq_zero_of_dvd,aAo]
  ·intro h;have hs:(n % a+(-n) % a) % a=0:=by
    rw[Int.emod_def n a,Int.emod_def (-n) a];have:n-a*(n / a)+(-n-a*(-n / a))=a*(-(n / a)+ -(-n / a)):=by grind
    simp_all
   have hq:n % a+(-n) % a=a:=by
    obtain⟨q,hq⟩:=aAo hs;have q1:0<q:=by
     rcases Int.lt_or_le 0 q with h|h
     ·exact h
     ·have:=aAi h (show 0<=a by omega)
      omega
    have q2:q<2:=by
     rcases Int.lt_or_le q 2 with h|h
     ·exact h
     ·have:=aAi h (show 0<=a by omega)
      omega
    grind
   omega
 by_cases h:n % a=0
 ·grind
 ·have:=key.2 h;rw[show(n % a != 0)=true by simp_all,cond_true,Ou (by omega),wrap64 (n:=n-n % a) (by omega) (by omega),wrap64 (by omega) (by omega),<- this,decide_eq_false (by omega),cond_false]
theorem Rj.wrap {a:NU} (h:Rj a):IntKind.i64.wrap (a.Off+a.Size)=a.Off+a.Size:=by
 grind [Rj,wrap64]
theorem Avj (a:NU) (n:Int):Agk a n=some (decide (InI a n)):=by
 unfold Agk;rw[AbX,aA]
 by_cases h:Rj a
 ·rw[decide_eq_true h,cond_true,h.wrap];simp[InI,h]
 simp_all[InI]
theorem Xe (m:Nat) (hm:m<=24):QF ((2 ^ m:Nat):Int):=⟨m,hm,rfl⟩
theorem TJ.al {s:NS} (h:TJ s):QF s.Align/\s.Align<=64/\1<=s.Size/\s.Size<=16:=by
 obtain⟨h1,h2⟩:=h;have ha:QF s.Align/\s.Align<=64:=by
  simp only[aAf,aAn,or_false]at h2;rcases h2 with h|h|h|h|h|h|h|h<;>rw[h]
  ·exact⟨Xe 3 (by omega),by omega⟩
  ·exact⟨Xe 2 (by omega),by omega⟩
  ·exact⟨Xe 0 (by omega),by omega⟩
  ·exact⟨Xe 3 (by omega),by omega⟩
  ·exact⟨Xe 4 (by omega),by omega⟩
  ·exact⟨Xe 1 (by omega),by omega⟩
  ·exact⟨Xe 5 (by omega),by omega⟩
  ·exact⟨Xe 6 (by omega),by omega⟩
 grind
def Aee (s:NS):Prop:=s.Size∈([1,2,4,8,16]:List Int)/\QF s.Align
theorem Aee.al {s:NS} (h:Aee s):QF s.Align/\s.Align<=16777216/\1<=s.Size/\s.Size<=16:=by
 refine⟨h.2,h.2.rng.2,?_⟩;have:=h.1
 grind
theorem TJ.wide {s:NS} (h:TJ s):Aee s:=by
 refine⟨?_,h.al.1⟩;have:=h.1;simp only[aAf,aAn,or_false]at this ⊢;omega
theorem AvL {s:List NS} (h:∀ x∈s,TJ x) (hl:s.length<=512):Hs (Uj s) λe=>e=0:=by
 unfold Uj;rw[decide_eq_false (by omega),cond_false]
 refine Hs.loop (λi=>∃ k:Nat,i=(k:Int)/\k<=s.length) (λi=>s.length-i.toNat) ⟨0,rfl,aAE _⟩ ?_
 rintro _ ⟨k,rfl,hk⟩;refine .dec (λhlt=>?_) λ_=>.lft (.pure rfl)
 have hlt:k<s.length:=by omega
 have hx:=h _ (aAF hlt);rw[Ov,aAA hlt];generalize s[k]=x at hx;have e1:Tk x.Size=some true:=by
  have:=hx.1;simp only[aAf,aAn,or_false]at this
  grind [Tk]
 have e2:QU x.Align=some true:=by
  obtain⟨m,hm,e⟩:=hx.al.1
  grind [Ajw]
 simp only[aA,e1,e2,aAa,cond_false];rw[NP (by omega)]
 exact .cnt ⟨⟨k+1,rfl,by omega⟩,by grind⟩
def Sk (p:NM) (n:Int) (x:Mk):Int:=if x.Op=18 then OI n (x.A+1)else if x.Op=22 then OI n (((p.Funcs[x.A.toNat]?).map Lo.Params).getD 0)else n
def OV (p:NM) (f:Lo) (k:Nat):Int:=(f.Code.take k).foldl (Sk p) 0
def Abr (p:NM) (f:Lo):Prop:=∀ x∈f.Code,(x.Op=18->0<=x.A/\x.A<8)/\(x.Op=22->0<=x.A/\∃ g,p.Funcs[x.A.toNat]? =some g/\0<=g.Params/\g.Params<=8)
theorem Wv (hk:k<f.Code.length):OV p f (k+1)=Sk p (OV p f k) f.Code[k]:=by
 grind [OV,aAT]
theorem ArB {b c:Int} (h0:0<=a/\a<=c) (h1:b<=c):0<=OI a b/\OI a b<=c:=by grind [OI]
theorem Xf {p:NM} {f:Lo} (h:Abr p f):∀ {k:Nat},k<=f.Code.length->0<=OV p f k/\OV p f k<=8
 | 0,_=>by simp[OV]
 | k+1,hk=>by
  rw[Wv hk];have ih:=Xf h (k:=k) (by omega)
  obtain⟨h1,h2⟩:=h _ (aAF hk);unfold Sk;split
  ·exact ArB ih (by omega)
  ·split
   ·obtain⟨_,g,hg,hp⟩:=h2 ‹_›;rw[hg];exact ArB ih (by simp_all)
   ·exact ih
theorem AmS {i:Int} (hi:ixO p.Funcs i=some f) (hl:f.Code.length<=10000) (h:Abr p f):WS p i=some (16*OV p f f.Code.length):=by
 have:Hs (WS p i) λr=>r=16*OV p f f.Code.length:=by
  unfold WS;rw[hi,aA];refine Hs.loop (λq=>∃ k:Nat,q=(OV p f k,(k:Int))/\k<=f.Code.length) (λq=>f.Code.length-q.2.toNat) ⟨0,rfl,aAE _⟩ ?_
  rintro _ ⟨k,rfl,hk⟩;have hr:=Xf h hk;refine .dec (λhlt=>?_) λhge=>.lft (.pure ?_)
  ·have hlt:k<f.Code.length:=by omega
   have e:ixO f.Code (k:Int)=some f.Code[k]:=by simp_all
   obtain⟨h1,h2⟩:=h _ (aAF hlt);simp only[e,aA];rw[NP (by omega)]
   refine .beq (λh18=>?_) λh18=>.beq (λh22=>?_) λh22=>?_
   ·rw[wrap64 (by omega) (by omega)]
    exact .cnt ⟨⟨k+1,by grind [Wv,Sk],hlt⟩,by grind⟩
   ·obtain⟨a0,g,hg,hp⟩:=h2 h22;rw[Ps _ a0,hg,aA];exact .cnt ⟨⟨k+1,by grind [Wv,Sk],hlt⟩,by grind⟩
   ·exact .cnt ⟨⟨k+1,by grind [Wv,Sk],hlt⟩,by grind⟩
  ·have:k=f.Code.length:=by omega
   subst this;rw[wrap64 (by omega) (by omega)]
   show OV p f f.Code.length*16=_;omega
 obtain⟨r,h,rfl⟩:=this;exact h
def Aoo (s:List NS):Prop:=s.length<=7/\∀ x∈s,QF x.Align/\x.Align<=64/\1<=x.Size/\x.Size<=16
def AaY (s:List NS):Prop:=s.length<=40/\∀ x∈s,QF x.Align/\x.Align<=16777216/\1<=x.Size/\x.Size<=16
theorem Aoo.w {s:List NS} (h:Aoo s):AaY s:=⟨by have:=h.1;omega,λx hx=>⟨(h.2 x hx).1,by have:=(h.2 x hx).2.1;omega,(h.2 x hx).2.2⟩⟩
def Agi (q:List Int×Int) (s:NS):List Int×Int:=(q.1++[upN q.2 s.Align],upN q.2 s.Align+s.Size)
def plK (s:List NS) (a:Int) (k:Nat):List Int×Int:=(s.take k).foldl Agi ([],a)
theorem AdL {s:List NS} (hk:k<s.length):plK s a (k+1)=Agi (plK s a k) s[k]:=by
 grind [plK,aAT]
theorem AfM {s:List NS} (h:AaY s) {a:Int} (ha:0<=a/\a<=1000):∀ {k:Nat},k<=s.length->(plK s a k).1.length=k/\a<=(plK s a k).2/\(plK s a k).2<=a+16777240*k
 | 0,_=>by simp[plK]
 | k+1,hk=>by
  have ih:=AfM h ha (k:=k) (by omega)
  obtain⟨h1,h2,h3,h4⟩:=h.2 _ (aAF hk);obtain⟨u1,u2,_⟩:=TC (n:=(plK s a k).2) (a:=s[k].Align) (by have:=h1.rng;omega)
  grind [AdL,Agi]
def PR (p:NM) (f:Lo) (al:Int):NT:=⟨16*OV p f f.Code.length,upN (plK f.Slots (16*OV p f f.Code.length) f.Slots.length).2 al,(plK f.Slots (16*OV p f f.Code.length) f.Slots.length).1⟩
theorem ArI {i:Int} (hi:ixO p.Funcs i=some f) (hl:f.Code.length<=10000) (h:Abr p f) (hs:AaY f.Slots) {al:Int} (ha:QF al) (ha':al<=16777216):Ua p i al=some (PR p f al,0):=by
 have hr:=Xf h (k:=f.Code.length) (aAQ _);have hsl:=hs.1;have:Hs (Ua p i al) λr=>r=(PR p f al,0):=by
  unfold Ua;rw[AmS hi hl h,aA,hi,aA];unfold PR;have hr2:0<=16*OV p f f.Code.length/\16*OV p f f.Code.length<=128:=by omega
  generalize 16*OV p f f.Code.length=a0 at *;refine Hs.loop (λq=>∃ k:Nat,q=((plK f.Slots a0 k).1,(k:Int),(plK f.Slots a0 k).2)/\k<=f.Slots.length) (λq=>f.Slots.length-q.2.1.toNat) ⟨0,rfl,aAE _⟩ ?_
  rintro _ ⟨k,rfl,hk⟩;obtain⟨q1,q2,q3⟩:=AfM hs (a:=a0) (by omega) hk
  dsimp only;refine .dec (λhlt=>?_) λhge=>.lft ?_
  ·have hlt:k<f.Slots.length:=by omega
   have e:ixO f.Slots (k:Int)=some f.Slots[k]:=by simp_all
   obtain⟨h1,h2,h3,h4⟩:=hs.2 _ (aAF hlt);obtain⟨u1,u2,_⟩:=TC (n:=(plK f.Slots a0 k).2) (a:=f.Slots[k].Align) (by have:=h1.rng;omega)
   simp only[e,aA];rw[Aoh (by omega) (by omega) h1,aA]
   rw[wrap64 (n:=2147483519-f.Slots[k].Size) (by omega) (by omega),decide_eq_false (by omega),cond_false]
   refine .chk (by simp;omega) (.chk (by simp;omega) ?_)
   rw[e,aA,NP (by omega),wrap64 (by omega) (by omega)]
   exact .cnt ⟨⟨k+1,by grind [AdL,Agi],hlt⟩,by grind⟩
  ·have:k=f.Slots.length:=by omega
   subst this;obtain⟨u1,u2,_⟩:=TC (n:=(plK f.Slots a0 f.Slots.length).2) (a:=al) (by have:=ha.rng;omega)
   rw[Aoh (by omega) (by omega) ha,aA]
   rw[decide_eq_false (by omega),cond_false]
   exact .pure rfl
 obtain⟨r,h,rfl⟩:=this;exact h
structure Axo (p:NM) (i:Int) (f:Lo) (al:Int):Prop where
 hi:ixO p.Funcs i=some f
 arg:Abr p f
 slots:AaY f.Slots
 alok:QF al
 al16:16<=al
 al64:al<=16777216
 len':f.Code.length<=10000
def AfR (f:Lo) (y:NT) (k:Nat):Prop:=∃ o s,y.Off[k]? =some o/\f.Slots[k]? =some s/\y.Args<=o/\o.tmod s.Align=0/\InI ⟨o,s.Size⟩ y.Size
def RP (p:NM) (f:Lo) (al:Int) (y:NT):Prop :=
 y.Args=16*OV p f f.Code.length/\y.Off.length=f.Slots.length/\(∀ k:Nat,k<f.Slots.length->AfR f y k)/\y.Size.tmod al=0/\y.Args<=y.Size/\y.Size<=(PR p f al).Size
theorem AoO {s:List NS} {a:Int}:∀ {k:Nat},k<=s.length->(plK s a k).1.length=k
 | 0,_=>by simp[plK]
 | k+1,hk=>by
  have ih:=AoO (s:=s) (a:=a) (k:=k) (by omega)
  grind [AdL,Agi]
theorem Atx {s:List NS} {a:Int} {j:Nat} (hj:j<s.length):∀ {k:Nat},j<k->k<=s.length->(plK s a k).1[j]? =some (upN (plK s a j).2 s[j].Align)
 | 0,h,_=>absurd h (aAI _)
 | k+1,h,hk=>by
  rw[AdL hk];have hl:=AoO (a:=a) (show k<=s.length by omega)
  unfold Agi
  by_cases e:j=k
  ·simp_all
  ·rw[aAP (by omega)]
   exact Atx hj (by omega) (by omega)
theorem Atw {s:List NS} {j:Nat} (hj:j<s.length):(plK s a (j+1)).2=upN (plK s a j).2 s[j].Align+s[j].Size:=by rw[AdL hj];rfl
theorem AmQ {s:List NS} (h:AaY s) {a:Int} {j:Nat}:∀ {k:Nat},j<=k->k<=s.length->(plK s a j).2<=(plK s a k).2
 | 0,h,_=>by simp_all
 | k+1,hjk,hk=>by
  by_cases e:j=k+1
  ·simp_all
  have ih:=AmQ h (a:=a) (j:=j) (k:=k) (by omega) (by omega)
  obtain⟨h1,h2,h3,h4⟩:=h.2 _ (aAF hk);obtain⟨u1,u2,_⟩:=TC (n:=(plK s a k).2) (a:=s[k].Align) (by have:=h1.rng;omega)
  grind [Atw]
section
variable {p:NM} {i:Int} {f:Lo} {al:Int} (h:Axo p i f al)
 include h
theorem Ake:(plK f.Slots (16*OV p f f.Code.length) f.Slots.length).2<=(PR p f al).Size/\(PR p f al).Size<(plK f.Slots (16*OV p f f.Code.length) f.Slots.length).2+al/\(PR p f al).Size.tmod al=0/\0<=16*OV p f f.Code.length/\16*OV p f f.Code.length<=(plK f.Slots (16*OV p f f.Code.length) f.Slots.length).2/\(PR p f al).Size<=1000000000:=by
 have hr:=Xf h.arg (k:=f.Code.length) (aAQ _);have hsl:=h.slots.1;have h16:=h.al16;have h64:=h.al64;have hp:=AfM h.slots (a:=16*OV p f f.Code.length) (by omega) (aAQ _)
 obtain⟨u1,u2,u3⟩:=TC (n:=(plK f.Slots (16*OV p f f.Code.length) f.Slots.length).2) (a:=al) (by omega)
 refine⟨u1,u2,?_,by omega,hp.2.1,?_⟩
 ·show(upN _ al).tmod al=0
  grind
 ·show upN _ al<=1000000000;omega
theorem Awi (hk:k<f.Slots.length):∃ o,(PR p f al).Off[k]? =some o/\(plK f.Slots (16*OV p f f.Code.length) k).2<=o/\o+f.Slots[k].Size=(plK f.Slots (16*OV p f f.Code.length) (k+1)).2/\o.tmod f.Slots[k].Align=0:=by
 have hr:=Xf h.arg (k:=f.Code.length) (aAQ _);have hp:=AfM h.slots (a:=16*OV p f f.Code.length) (by omega) (show k<=f.Slots.length by omega)
 obtain⟨h1,h2,h3,h4⟩:=h.slots.2 _ (aAF hk);obtain⟨u1,u2,u3⟩:=TC (n:=(plK f.Slots (16*OV p f f.Code.length) k).2) (a:=f.Slots[k].Align) (by have:=h1.rng;omega)
 refine⟨_,Atx hk hk (aAQ _),u1,(Atw hk).symm,?_⟩
 grind
theorem AtO:RP p f al (PR p f al):=by
 obtain⟨b1,b2,b3,b4,b5,b6⟩:=Ake h;refine⟨rfl,AoO (aAQ _),λk hk=>?_,b3,?_,aAW _⟩
 ·obtain⟨o,e1,e2,e3,e4⟩:=Awi h hk;have m1:=AmQ h.slots (a:=16*OV p f f.Code.length) (j:=0) (k:=k) (by omega) (by omega)
  have m2:=AmQ h.slots (a:=16*OV p f f.Code.length) (j:=k+1) (k:=f.Slots.length) hk (aAQ _);have m0:(plK f.Slots (16*OV p f f.Code.length) 0).2=16*OV p f f.Code.length:=rfl;have hs:=(h.slots.2 _ (aAF hk)).2.2;refine⟨o,f.Slots[k],e1,aAA _,?_,e4,⟨?_,?_⟩⟩
  ·show 16*OV p f f.Code.length<=o;omega
  ·refine⟨?_,?_,?_,?_,?_⟩<;>simp only<;>omega
  grind
 ·show 16*OV p f f.Code.length<=_;omega
end
open Go Go.Dw Go.Proofs
theorem QF.max {b:Int} (ha:QF a) (hb:QF b):QF (OI a b):=by grind [OI]
theorem AwY {B:Int} (hB:16<=B) {s:List NS} (hl:s.length<=512) (h:∀ x∈s,QF x.Align/\x.Align<=B):Hs (Vq s) λa=>QF a/\16<=a/\a<=B:=by
 have a16:QF 16:=Xe 4 (by omega)
 unfold Vq;refine(AvK s).bind λe he=>.bne (λ_=>.pure ⟨a16,by omega,by omega⟩) λ_=>?_
 refine Hs.loop (λq=>∃ k:Nat,q.2=(k:Int)/\k<=s.length/\QF q.1/\16<=q.1/\q.1<=B) (λq=>s.length-q.2.toNat) ⟨0,rfl,aAE _,a16,by omega,by omega⟩ ?_
 rintro⟨a,_⟩ ⟨k,rfl,hk,h1,h2,h3⟩;replace h2:16<=a:=h2;replace h3:a<=B:=h3;unfold Aam;dsimp only;refine .dec (λhlt=>?_) λ_=>.lft (.pure ⟨h1,h2,h3⟩)
 have hlt:k<s.length:=by omega
 rw[NP (by omega)]
 refine(Hs.ix (by omega) (by omega) λx hx=>h x (aAC hx)).bind λx hx=>.cnt ⟨⟨k+1,rfl,hlt,h1.max hx.1,?_,?_⟩,by grind⟩
 all_goals grind [OI]
theorem AwN {B:Int} (hB:16<=B) (hp:p.Funcs.length<=1000) (h:∀ f∈p.Funcs,f.Slots.length<=512/\∀ x∈f.Slots,QF x.Align/\x.Align<=B):Hs (RL p) λa=>QF a/\16<=a/\a<=B:=by
 have a16:QF 16:=Xe 4 (by omega)
 unfold RL;refine Hs.loop (λq=>∃ k:Nat,q.2=(k:Int)/\k<=p.Funcs.length/\QF q.1/\16<=q.1/\q.1<=B) (λq=>p.Funcs.length-q.2.toNat) ⟨0,rfl,aAE _,a16,by omega,by omega⟩ ?_
 rintro⟨a,_⟩ ⟨k,rfl,hk,h1,h2,h3⟩;replace h2:16<=a:=h2;replace h3:a<=B:=h3;unfold AdQ;dsimp only;refine .dec (λhlt=>?_) λ_=>.lft (.pure ⟨h1,h2,h3⟩)
 have hlt:k<p.Funcs.length:=by omega
 rw[NP (by omega)]
 refine(Hs.ix (by omega) (by omega) λx hx=>h x (aAC hx)).bind λx hx=>(AwY hB hx.1 hx.2).bind λb hb=>.cnt ⟨⟨k+1,rfl,hlt,h1.max hb.1,?_,?_⟩,by grind⟩
 all_goals grind [OI]
theorem Sm.args {i most:Int} (h:Sm ps i most f) (hi:0<=i) (hl:p.Funcs.length=ps.length) (hps:Aln ps) (hall:∀ (j:Nat) g,p.Funcs[j]? =some g->Sm ps j most g):Abr p f:=by
 intro x hx;obtain⟨k,hk⟩:=aAH hx;have hkl:=(aAB.1 hk).1
 by_cases hk1:k+1<f.Code.length
 ·have hins:=h.body k x hk hk1;cases hins with
  | call j h0 h1 =>
   refine⟨λe=>by simp at e,λ_=>⟨by grind,?_⟩⟩
   have hg:p.Funcs[j.toNat]? =some (p.Funcs[j.toNat]'(by omega)):=aAA _
   have:=(hall _ _ hg).par;have:=hps.1 _ (aAC this)
   grind
  | arg a b h0 h1 h2=>grind
  | bin op a b c h1 h2 h3 h4 h5 h6=>grind
  | un op a h1 h2=>grind
  | _=>exact⟨λe=>by simp at e,λe=>by simp at e⟩
 ·have he:=h.last x (by grind)
  rcases he with rfl|⟨w,_,rfl⟩<;>exact⟨λe=>by simp at e,λe=>by simp at e⟩
structure AgT (p:NM) (i:Int) (f:Lo) (al:Int):Prop where
 hi:ixO p.Funcs i=some f
 arg:Abr p f
 slots:AaY f.Slots
 alok:QF al
 al16:16<=al
 al64:al<=16777216
 RX:Ot f
 defs:Rx f
 ml:Acs f
theorem AgT.bas {i:Int} {al:Int} (h:AgT p i f al):Axo p i f al:=⟨h.hi,h.arg,h.slots,h.alok,h.al16,h.al64,h.RX.len'⟩
def Aes (n:Nat) (f:Lo):Prop:=∀ x∈f.Code,x.Op=22->0<=x.A/\x.A<n
theorem Atj {n:Nat} (h:Aes n f) {keep:List Bool} {pl:List Int} (hk:f.Code.length<=keep.length):∀ x∈Tj f keep to pl f.Code.length,x.Op=22->0<=x.A/\x.A<n:=by
 intro x hx hop;obtain⟨p,hp⟩:=aAH hx;obtain⟨j,h1,_,_,rfl⟩:=(Xt (f:=f) (keep:=keep) (to:=to) (pl:=pl) _ hk).2 p x hp;have hm:NI f (j:Nat)∈f.Code:=by
  grind [NI]
 have ho:(mvI pl (rnI to (NI f (j:Nat)))).Op=(NI f (j:Nat)).Op:=by
  refine Eq.trans ?_ (Adh to _)
  grind [mvI]
 rw[ho]at hop;have e:mvI pl (rnI to (NI f (j:Nat)))=NI f (j:Nat):=by grind [mvI,rnI]
 rw[e];exact h _ hm hop
theorem Asz (hf:Ot f) (hd:Rx f) (hlast:XH f) {n:Nat} (hc:Aes n f) (hr:SB f r):Hs (Rq f r) λq=>q.2=0/\Ot q.1/\Rx q.1/\Aes n q.1:=by
 obtain⟨q,e,h1,h2,h3⟩:=AtL hf hd hlast hr;obtain⟨q',e',_,used,to,pl,_,_,_,_,_,_,_,_,cd⟩:=AqU hf hd hr;rw[e]at e';cases e';refine⟨q,e,h1,h2,h3,?_⟩;unfold Aes;rw[cd];exact Atj hc (by rw[hr.2.1];omega)
section
variable {p:NM} {i:Int} {f:Lo}
theorem TK.Azq (hs:∀ x∈f.Slots,Aee x) (htl:r.To.length=f.Slots.length) {out:List NS} (h:TK f r used out):∀ y∈out,Aee y:=by
 intro y hy;obtain⟨j,hj⟩:=aAH hy;have hjl:=(aAB.1 hj).1;have hu:used[j]? =some (used[j]'(by rw[<- h.len];exact hjl)):=aAA _
 obtain⟨x,l,h1,h2,h3,h4⟩:=h.at_ j _ y hu hj;have hx:=hs x (aAC h1);unfold Aee;rw[h2];refine⟨hx.1,?_⟩;rcases h4.2.2 with e|⟨t,ht,e⟩
 ·rw[e];exact hx.2
 ·obtain⟨k,hk,rfl,_⟩:=(h3 t).1 ht;have hs':f.Slots[k]? =some (f.Slots[k]'(by omega)):=aAA _
  have:alS f (k:Int)=(f.Slots[k]'(by omega)).Align:=by grind [alS]
  rw[e,this];exact(hs _ (aAF _)).2
theorem AlA (pl:List Int) (x:Mk):(mvI pl x).Op=x.Op:=by
 grind [mvI]
theorem Ani {pl:List Int} (h:x.Op=18\/x.Op=22):mvI pl (rnI to x)=x:=by
 have e:rnI to x=x:=by
  unfold rnI
  grind
 rw[e];unfold mvI
 grind
theorem Ams {q:Lo} (hi:ixO p.Funcs i=some f) (hq:q.Params=f.Params) (a:Nat):((p.Funcs.set i.toNat q)[a]?).map Lo.Params=(p.Funcs[a]?).map Lo.Params:=by
 obtain⟨i0,i1,h⟩:=AbF hi
 grind
theorem ApM {q:Lo} {r:NV} {to pl:List Int} (hi:ixO p.Funcs i=some f) (hq:q.Params=f.Params) (hr:SB f r):∀ k:Nat,k<=f.Code.length->(Tj f r.Keep to pl k).foldl (Sk ⟨p.Funcs.set i.toNat q⟩) 0=(f.Code.take k).foldl (Sk p) 0
 | 0,_=>by simp[Tj]
 | k+1,hk=>by
  have ih:=ApM (to:=to) (pl:=pl) hi hq hr k (by omega)
  have hx:NI f (k:Nat)=f.Code[k]'(by omega):=by grind [NI]
  rw[Alc,List.foldl_append,ih,aAT (by omega),List.foldl_append,<- hx]
  generalize(f.Code.take k).foldl (Sk p) 0=n
  by_cases hk':Oi r.Keep k=true
  ·rw[if_pos hk']
   grind [Sk,Ani,Ams,AlA,Adh]
  ·rw[if_neg hk'];have:=hr.2.2 k (by omega) (by simp_all)
   show n=Sk p n (NI f (k:Nat));unfold Sk;omega
end
theorem Zu.Ayq (hf:Ot f) (hd:Rx f) (hml:Acs f) (hr:SB f r) {q:Lo} (hx:Zu f r (q,0)):Acs q:=by
 obtain⟨_,_,used,to,pl,hu,hsx,hn,hpl,hcode⟩:=hx;have hsx:TK f r used q.Slots:=hsx;have hcode:q.Code=Tj f r.Keep to pl f.Code.length:=hcode;have hrl:=hr.1.1;have hsl:=hf.slots;intro y hy hop;rw[hcode]at hy;obtain⟨pn,hp⟩:=aAH hy;obtain⟨j,hj,hk,_,rfl⟩:=(Xt (f:=f) (keep:=r.Keep) (to:=to) (pl:=pl) _ (by rw[hr.2.1];omega)).2 pn y hp
 have hm:=(hf.at (j:=(j:Int)) (by omega) (by omega)).2
 rw[AlA,Adh]at hop;obtain⟨a0,a1,b0,b1,hsz⟩:=hml _ hm hop;have one:∀ s:Int,s∈OD (NI f (j:Nat))->0<=rnS to s/\rnS to s<q.Slots.length/\Pm q (rnS to s)=Pm f s:=λs hs=>by
  obtain⟨h0,h1⟩:=Ahg hf hd hm hs;have hrn:=ZQ hf hd hr.1 hm (rnS r.To s) ((AdH _ _ _).2 ⟨s,hs,rfl⟩);have hmu:rnS r.To s∈used:=(hu.2 _).2 ⟨⟨hrn.1,by omega⟩,j,hj,hk,(AdH _ _ _).2 ⟨s,hs,rfl⟩⟩
  rw[(hr.1.rng h0 h1).2.2]at hmu;have hg:=QP (to:=to) (s:=s) h0 (by have:=hn.1;omega)
  have e:rnS to s=Oa to s:=by unfold rnS;grind
  have hn2:=hn.2 s.toNat _ hg;rw[aAU h0]at hn2;obtain⟨q0,q1⟩:=hn2 hmu;rw[e];have hlt:=(aAB.1 q1).1;have hql:(Oa to s).toNat<q.Slots.length:=by rw[hsx.len];exact hlt
  have hqs:q.Slots[(Oa to s).toNat]? =some q.Slots[(Oa to s).toNat]:=aAA _;obtain⟨x,l,x1,x2,_,_⟩:=hsx.at_ _ _ _ q1 hqs;refine⟨q0,by omega,?_⟩
  have hsz2:=(hr.1.2 s.toNat (by omega)).2.2.1
  grind [Pm]
 have eA:(mvI pl (rnI to (NI f (j:Nat)))).A=rnS to (NI f (j:Nat)).A:=by
  simp_all[mvI,rnI]
 have eB:(mvI pl (rnI to (NI f (j:Nat)))).B=rnS to (NI f (j:Nat)).B:=by
  simp_all[mvI,rnI]
 simp_all[OD,Pr]
end Go.Proofs.YtcaoepecbgggcaaGreatDoor
