/-
  Plain laws about the typed programs.
-/
import Derived.Test.YtilmapojncgflaaGreatDoorDc
import Derived.Test.YtilmapojncgflaaGreatDoorDxP
import Derived.Test.YtilmapojncgflaaGreatDoorDd
open Bool renaming cond_eq_ite->aAH,not_true->aAi,not_false->aAp
open Classical renaming byContradiction->aAl
open Int renaming toNat_natCast->aAB,ofNat_lt->aAT,toNat_of_nonneg->aAW
open Go.IntKind renaming bits->aAq
open List renaming getElem?_eq_getElem->aAA,getElem?_eq_some_iff->aAC,mem_of_getElem?->aAE,getElem_mem->aAF,mem_singleton->aAI,getElem?_eq_none->aAJ,mem_append->aAK,mem_cons_of_mem->aAL,getElem?_of_mem->aAM,getElem?_set_ne->aAN,getElem?_set_self->aAO,take_add_one->aAP,mem_cons_self->aAQ,take_length->aAR,mem_or_eq_of_mem_set->aAS,pairwise_cons->aAU,drop_eq_getElem_cons->aAV,length_eq_zero_iff->aAX,ext_getElem?->aAZ,mem_cons->aAa,mem_filter->aAb,range_succ->aAc,getElem?_append_left->aAd,replicate->aAe,range->aAf,mem_append_left->aAg,nodup_cons->aAh,map_cons->aAj,pairwise_iff_getElem->aAk,append_nil->aAm,length_set->aAn,set_getElem_self->aAo
open Nat renaming zero_le->aAD,not_lt_zero->aAG,le_refl->aAY
open Option renaming bind_some->aA
namespace Go.Dw
section
variable {ι R α:Type} {body:ι->Option (ι⊕R)} {v:R}
theorem Rg {α β:Type} (s:List α) (mk:β->Int->ι) (I:β->Nat->Prop) (F:β->List α->Option R)
  (hnil:∀ acc,I acc s.length->∃ v,body (mk acc s.length)=some (.inr v)/\F acc []=some v)
  (hcons:∀ acc (i:Nat) x r,I acc i->s.drop i=x::r->i<s.length->s[i]? =some x ->
   (∃ acc',I acc' (i+1)/\body (mk acc i)=some (.inl (mk acc' ((i+1:Nat):Int)))/\F acc (x::r)=F acc' r)\/(∃ v,body (mk acc i)=some (.inr v)/\F acc (x::r)=some v))
  (acc:β) (h0:I acc 0):Pc body (mk acc 0)=F acc s:=by
 have:∀ k i acc,i+k=s.length->I acc i->Pc body (mk acc (i:Nat))=F acc (s.drop i):=by
  intro k
  induction k with
  | zero =>
   intro i acc hi hI;simp only[Nat.add_zero]at hi
   grind [Adk]
  | succ k ih =>
   grind [aAV,Adk]
 have:=this s.length 0 acc (by omega) h0
 simp_all
@[simp] theorem Pq (l:List α) (i:Nat):ixO l (i:Int)=l[i]?:=by
 unfold ixO;rw[if_neg (by omega)]
 simp
theorem QU (l:List α) {i:Int} (h:0<=i):ixO l i=l[i.toNat]?:=by
 simp_all[ixO,if_neg]
@[simp] theorem Ayt (l:List α) (i:Nat):ixO l ((i:Int)+1)=l[i+1]?:=by
 have:=Pq l (i+1);simpa using this
@[simp] theorem AvP (l:List α):ixO l 0=l[0]?:=QU l (Int.le_refl 0)
theorem wrap64 {n:Int} (h0: -9223372036854775808<=n) (h1:n<=9223372036854775807):IntKind.i64.wrap n=n:=AxL h0 h1
@[simp] theorem AyA:IntKind.i64.wrap 0=0:=by decide
@[simp] theorem AyB:IntKind.i64.wrap 1=1:=by decide
@[simp] theorem AyC:IntKind.i64.wrap 2=2:=by decide
@[simp] theorem AyD:IntKind.i64.wrap 3=3:=by decide
theorem OX {i:Nat} (h:i<9223372036854775807):IntKind.i64.wrap ((i:Int)+1)=((i+1:Nat):Int):=by
 grind [wrap64]
@[simp] theorem Ayv (r:R):(lft (some r):Option (ι⊕R))=some (.inr r):=rfl
@[simp] theorem Ayu:(lft none:Option (ι⊕R))=none:=rfl
@[simp] theorem AwA (s:ι):(cnt s:Option (ι⊕R))=some (.inl s):=rfl
theorem AxV {a:Int} (h0:0<=a) (h1:a<=9223372036854775807):IntKind.i64.wrap ((IntKind.u64.wrap (IntKind.i64.wrap a)).fdiv (2 ^ (Nat.min (1:Int).toNat IntKind.u64.bits)))=a / 2:=by
 rw[wrap64 (by omega) h1]
 have e1:IntKind.u64.wrap a=a:=by grind [IntKind.wrap,aAq]
 have e2:(2:Int) ^ (Nat.min (1:Int).toNat IntKind.u64.bits)=2:=by decide
 grind [wrap64]
theorem AbB (a b:Int):PJ a b=max a b:=by grind [PJ]
theorem Axp (a b:Int):RQ a b=min a b:=by grind [RQ]
end
open Go
variable {i:Int}
def Hs {α:Type} (m:Option α) (P:α->Prop):Prop:=∃ r,m=some r/\P r
section
variable {α β ι R:Type}
theorem Hs.pure {a:α} {P:α->Prop} (h:P a):Hs (some a) P:=⟨a,rfl,h⟩
theorem Hs.bind {m:Option α} {f:α->Option β} {P:α->Prop} {Q:β->Prop} (h:Hs m P) (hf:∀ r,P r->Hs (f r) Q):Hs (m.bind f) Q:=by
 obtain⟨r,rfl,hr⟩:=h;simp_all
theorem Hs.mono {m:Option α} {P Q:α->Prop} (h:Hs m P) (hf:∀ r,P r->Q r):Hs m Q:=by
 obtain⟨r,h1,hr⟩:=h;exact⟨r,h1,hf r hr⟩
theorem Hs.chk {p:Prop} [Decidable p] {m:Option α} {P:α->Prop} (hp:p) (h:Hs m P):Hs (chk p m) P:=by
 grind [PN]
theorem Hs.cond {b:Bool} {x y:Option α} {P:α->Prop} (h1:b=true->Hs x P) (h2:b=false->Hs y P):Hs (bif b then x else y) P:=by
 grind
theorem Hs.dec {p:Prop} [Decidable p] {x y:Option α} {P:α->Prop} (h1:p->Hs x P) (h2:¬ p->Hs y P):Hs (bif decide p then x else y) P :=
 Hs.cond (λh=>h1 (of_decide_eq_true h)) (λh=>h2 (of_decide_eq_false h))
theorem Hs.beq {a b:Int} {x y:Option α} {P:α->Prop} (h1:a=b->Hs x P) (h2:a≠b->Hs y P):Hs (bif a==b then x else y) P :=
 Hs.cond (λh=>h1 (by simp_all)) (λh=>h2 (by simp_all))
theorem Hs.bne {a b:Int} {x y:Option α} {P:α->Prop} (h1:a≠b->Hs x P) (h2:a=b->Hs y P):Hs (bif a != b then x else y) P :=
 Hs.cond (λh=>h1 (by simp_all)) (λh=>h2 (by simp_all))
theorem Hs.cnt {s:ι} {P:ι⊕R->Prop} (h:P (.inl s)):Hs (Go.Dw.cnt s) P:=⟨_,rfl,h⟩
theorem Hs.lft {m:Option R} {P:ι⊕R->Prop} (h:Hs m λr=>P (.inr r)):Hs (Go.Dw.lft m) P:=by
 obtain⟨r,rfl,h⟩:=h;exact⟨_,rfl,h⟩
def Rnd (I:ι->Prop) (μ:ι->Nat) (s:ι) (Q:R->Prop):ι⊕R->Prop
 | .inl s'=>I s'/\μ s'<μ s
 | .inr r=>Q r
theorem Hs.loop {body:ι->Option (ι⊕R)} {s:ι} {Q:R->Prop} (I:ι->Prop) (μ:ι->Nat) (h0:I s) (hb:∀ s,I s->Hs (body s) (Rnd I μ s Q)):Hs (Pc body s) Q:=by
 refine Agx I Q μ h0 λs hs=>?_
 obtain⟨z,hz,hq⟩:=hb s hs;cases z with
 | inl s'=>exact .inl ⟨s',hz,hq⟩
 | inr r=>exact .inr ⟨r,hz,hq⟩
theorem Hs.get {l:List α} {P:α->Prop} (h0:0<=i) (h1:i<l.length) (h:∀ x,l[i.toNat]? =some x->P x):Hs (l[i.toNat]?) P:=by
 have:l[i.toNat]? =some (l[i.toNat]'(by omega)):=aAA _
 exact⟨_,this,h _ this⟩
theorem Hs.ix {l:List α} {P:α->Prop} (h0:0<=i) (h1:i<l.length) (h:∀ x,l[i.toNat]? =some x->P x):Hs (ixO l i) P:=by
 grind [QU,Hs.get]
end
theorem Akt (n:Int):0<=IntKind.u64.wrap n/\IntKind.u64.wrap n<18446744073709551616:=by
 grind [IntKind.wrap,IntKind.signed,aAq]
end Go.Dw
namespace Go.Proofs.YtilmapojncgflaaGreatDoor
open Go Go.Dw Go.Proofs
variable {s ps to used:List Int} {a v most u:Int} {m:List (List Bool)} {l g:List (List Int)} {i k:Nat} {x:OP} {c:OV} {f:Mk} {sl:List Pa} {code:List OP} {r:Pl} {mv:OP->Int->Bool} {Q:Nat->Int->Prop} {I:List Pa×Int->Prop} {μ:List Pa×Int->Nat} {s0:List Pa×Int}
theorem AxE (n:Int):Hs (TK n) λ_=>True:=by
 exact .cond (λ_=>.pure trivial) λ_=>.cond (λ_=>.pure trivial) λ_=>.cond (λ_=>.pure trivial) λ_=>.cond (λ_=>.pure trivial) λ_=>.pure trivial
theorem AaJ (n:Int):Tz n=some (decide (0<=n/\n<=2147483647)):=by
 unfold Tz
 grind
theorem AvZ (n:Int):Hs (Rk n) λb=>b=true->1<=n/\n<=16777216:=by
 refine Hs.loop (λk=>1<=k/\k<=33554432) (λk=>33554433-k.toNat) ⟨by omega,by omega⟩ ?_
 rintro k ⟨h0,h1⟩;refine .dec (λh=>.beq (λe=>.lft (.pure λ_=>⟨by omega,by omega⟩)) λ_=>?_) λh=>.lft (.pure λh=>(by cases h))
 rw[wrap64 (by omega) (by omega)]
 exact .cnt ⟨⟨by omega,by omega⟩,by grind⟩
attribute [local simp] PN aAH
theorem Apw (n:Int):Xu n=some (decide (0<=n/\n<512)):=by
 grind [Xu]
theorem Ams {n:Int} (h:0<=n/\n<512):Xu n=some true:=by grind [Apw]
theorem AtT {n:Int} (h:¬ (0<=n/\n<512)):Xu n=some false:=by grind [Apw]
theorem AaW (s:List Int) (n:Int) (hs:s.length<=9223372036854775807):UO s n=some (decide (n∈s)):=by
 refine Rg s (λ(_:Unit) i=>i) (λ_ _=>True) (λ_ l=>some (decide (n∈l))) (λ_ _=>⟨_,by simp[YJ],rfl⟩) (λ_ i x r _ hd hi hx=>?_) () trivial
 have w:=OX (show i<9223372036854775807 by omega)
 by_cases h:x=n
 ·simp_all[YJ]
 ·refine .inl ⟨(),trivial,?_,?_⟩
  ·simp_all[YJ]
  grind
def XT (n:Int):List Int->List Int
 | []=>[n]
 | x::r=>if x<n then x::XT n r else if x=n then x::r else n::x::r
theorem AnL (n:Int):∀ s,(XT n s).length<=s.length+1
 | []=>by simp[XT]
 | x::r=>by
  have:=AnL n r
  grind [XT]
def VG (n:Int) (s:List Int):List Int:=if 0<=n/\n<512 then XT n s else s
theorem add_eq (s:List Int) (n:Int) (hs:s.length<=1000000):Xt s n=some (VG n s):=by
 unfold Xt VG;rw[Apw];simp only[aA];have key:∀ d:Bool,Pc (λs_1:List Int×Bool×Int=>Si s n s_1.1 s_1.2.1 s_1.2.2) ([],d,0)=some (if d then s else XT n s):=by
  intro d;have:=Rg (body:=λs_1:List Int×Bool×Int=>Si s n s_1.1 s_1.2.1 s_1.2.2) s (λ(p:List Int×Bool) i=>(p.1,p.2,i)) (λp i=>p.1.length<=i+(if p.2 then 1 else 0)) (λp l=>some (p.1++(if p.2 then l else XT n l)))
   (λp hp=>by
    obtain⟨out,done⟩:=p;cases done<;>simp only[if_true,Bool.false_eq_true,if_false]at hp
    ·exact⟨out++[n],by simp[Si,show out.length<=16777215 by omega],by simp[XT]⟩
    simp_all[Si])
   (λp i x r hp hd hi hx=>by
    obtain⟨out,done⟩:=p;have w:=OX (show i<9223372036854775807 by omega)
    obtain⟨_,rfl⟩:=aAC.1 hx;left;cases done<;>simp only[if_true,Bool.false_eq_true,if_false]at hp
    ·by_cases h1:n<=s[i]
     ·by_cases h2:n<s[i]
      ·refine⟨(out++[n]++[s[i]],true),by simp;omega,?_,?_⟩
       ·simp[Si,UN,TL,hi,h1,h2,w,show out.length<=16777215 by omega,show out.length<=16777214 by omega]
       grind [XT]
      ·refine⟨(out++[s[i]],true),by simp;omega,?_,?_⟩
       ·simp[Si,UN,TL,hi,h1,h2,w,show out.length<=16777215 by omega]
       grind [XT]
     ·refine⟨(out++[s[i]],false),by simp;omega,?_,?_⟩
      ·simp[Si,UN,TL,hi,h1,w,show out.length<=16777215 by omega]
      grind [XT]
    ·refine⟨(out++[s[i]],true),by simp;omega,?_,?_⟩
     ·simp[Si,UN,TL,hi,w,show out.length<=16777215 by omega]
     ·simp)
   ([],d) (by simp)
  simp_all
 grind
def TW:Option Int->List Int->Bool
 | _,[]=>true
 | p,x::r=>decide (0<=x/\x<512)&&(match p with|none=>true|some y=>decide (y<x))&&TW (some x) r
theorem AhZ (s:List Int) (hs:s.length<=9223372036854775807):AcB s=some (TW none s):=by
 refine Rg s (λ(_:Option Int) i=>i) (λp i=>match i with|0=>p=none|k+1=>s[k]? =p/\p≠none) (λp l=>some (TW p l)) (λ_ _=>⟨true,by simp[Tn],by simp[TW]⟩) (λp i x r hp hd hi hx=>?_) none rfl
 obtain⟨_,rfl⟩:=aAC.1 hx
 by_cases hg:0<=s[i]/\s[i]<512
 ·cases i with
  | zero =>
   subst hp;exact .inl ⟨some s[0],⟨hx,by simp⟩,by simp[Tn,hi,Ams hg],by grind [TW]⟩
  | succ k =>
   obtain⟨hp,hpn⟩:=hp;have hk:k<s.length:=by omega
   rw[aAA hk]at hp;subst hp;have w:IntKind.i64.wrap ((k:Int)+1+1)=(k:Int)+1+1:=wrap64 (by omega) (by omega)
   have wp:IntKind.i64.wrap (k:Int)=k:=wrap64 (by omega) (by omega)
   have e0:(k:Int)+1-1=k:=by omega
   by_cases hlt:s[k]<s[k+1]
   ·exact .inl ⟨some s[k+1],⟨hx,by simp⟩,by simp[Tn,hi,Ams hg,w,wp,e0,hk,show ¬ s[k+1]<=s[k]by omega,show(0:Int)<k+1 by omega,show(k:Int)+1<s.length by omega],by grind [TW]⟩
   ·exact .inr ⟨false,by simp[Tn,hi,Ams hg,w,wp,e0,hk,show s[k+1]<=s[k]by omega,show(0:Int)<k+1 by omega,show(k:Int)+1<s.length by omega],by grind [TW]⟩
 ·exact .inr ⟨false,by simp_all[Tn,AtT],by grind [TW]⟩
def PV (s:List Int):Prop:=s.Pairwise (· <·)/\∀ x∈s,0<=x/\x<512
theorem Arc:∀ (p:Option Int) (s:List Int),TW p s=true↔PV s/\∀ y,p=some y->∀ x∈s,y<x
 | p,[]=>by simp[TW,PV]
 | p,x::r=>by
  simp only[TW,Bool.and_eq_true,Arc (some x) r,decide_eq_true_eq,PV,aAU,aAa,forall_eq_or_imp,Option.some.injEq]
  grind
theorem AdQ (s:List Int):TW none s=true↔PV s:=by
 grind [Arc]
theorem PV.length_le (h:PV s):s.length<=512:=by
 have:∀ (s:List Int) (a:Int),s.Pairwise (· <·)->(∀ x∈s,a<=x/\x<512)->a<=512->(s.length:Int)<=512-a:=by
  intro s
  induction s with
  | nil=>simp_all
  | cons x r ih =>
   intro a hp hb ha;rw[aAU]at hp;have hx:=hb x (by simp)
   have:=ih (x+1) hp.2 (λy hy=>⟨by grind,(hb y (by simp[hy])).2⟩) (by omega)
   grind
 have:=this s 0 h.1 h.2 (by omega)
 omega
theorem AfE (n m:Int):∀ s,m∈XT n s↔m=n\/m∈s
 | []=>by simp[XT]
 | x::r=>by
  simp only[XT];split
  ·simp only[aAa,AfE n m r]
   grind
  grind
theorem PV.XT {n:Int} (h:PV s) (hn:0<=n/\n<512):PV (Proofs.YtilmapojncgflaaGreatDoor.XT n s):=by
 refine⟨?_,λx hx=>?_⟩
 ·replace h:=h.1;clear hn
  induction s<;>grind [Proofs.YtilmapojncgflaaGreatDoor.XT,aAU,AfE]
 ·rw[AfE]at hx;rcases hx with rfl|hx
  ·exact hn
  ·exact h.2 x hx
theorem PV.nil:PV []:=⟨List.Pairwise.nil,λx hx=>by cases hx⟩
theorem Avg (s:List Pa):Hs (Uv s) λe=>e=0->s.length<=512:=by
 refine .dec (λ_=>.pure λh=>by simp at h) λh=>?_
 have hl:s.length<=512:=by omega
 refine(Hs.loop (Q:=λ_=>True) (λi=>∃ k:Nat,i=(k:Int)/\k<=s.length) (λi=>s.length-i.toNat) ⟨0,rfl,aAD _⟩ ?_).mono λ_ _ _=>hl
 rintro _ ⟨k,rfl,hk⟩;refine .dec (λhlt=>?_) λ_=>.lft (.pure trivial)
 refine(Hs.ix (P:=λ_=>True) (by omega) hlt λ_ _=>trivial).bind λx _=>(AxE _).bind λb _=>.cond (λ_=>.lft (.pure trivial)) λ_=>?_
 refine(Hs.ix (P:=λ_=>True) (by omega) hlt λ_ _=>trivial).bind λy _=>(AvZ _).bind λb _=>.cond (λ_=>.lft (.pure trivial)) λ_=>?_
 rw[OX (by omega)]
 exact .cnt ⟨⟨k+1,rfl,by omega⟩,by grind⟩
theorem Aun (a b:Pa):Hs (YR a b) λ_=>True:=by
 exact .cond (λ_=>.pure trivial) λ_=>.cond (λ_=>.pure trivial) λ_=>.pure trivial
theorem Ajp (n:Int):Rr n=some (decide (0<=n/\n<512)):=by
 grind [Rr]
theorem AjH {n:Int} (h:0<=n/\n<512):Rr n=some true:=by grind [Ajp]
theorem Asv {n:Int} (h:¬ (0<=n/\n<512)):Rr n=some false:=by grind [Ajp]
theorem AdR (s:List Int) (hs:s.length<=9223372036854775807):AaH s=some (TW none s):=by
 refine Rg s (λ(_:Option Int) i=>i) (λp i=>match i with|0=>p=none|k+1=>s[k]? =p/\p≠none) (λp l=>some (TW p l)) (λ_ _=>⟨true,by simp[SH],by simp[TW]⟩) (λp i x r hp hd hi hx=>?_) none rfl
 obtain⟨_,rfl⟩:=aAC.1 hx
 by_cases hg:0<=s[i]/\s[i]<512
 ·cases i with
  | zero =>
   subst hp;exact .inl ⟨some s[0],⟨hx,by simp⟩,by simp[SH,hi,AjH hg],by grind [TW]⟩
  | succ k =>
   obtain⟨hp,hpn⟩:=hp;have hk:k<s.length:=by omega
   rw[aAA hk]at hp;subst hp;have w:IntKind.i64.wrap ((k:Int)+1+1)=(k:Int)+1+1:=wrap64 (by omega) (by omega)
   have wp:IntKind.i64.wrap (k:Int)=k:=wrap64 (by omega) (by omega)
   have e0:(k:Int)+1-1=k:=by omega
   by_cases hlt:s[k]<s[k+1]
   ·exact .inl ⟨some s[k+1],⟨hx,by simp⟩,by simp[SH,hi,AjH hg,w,wp,e0,hk,show ¬ s[k+1]<=s[k]by omega,show(0:Int)<k+1 by omega,show(k:Int)+1<s.length by omega],by grind [TW]⟩
   ·exact .inr ⟨false,by simp[SH,hi,AjH hg,w,wp,e0,hk,show s[k+1]<=s[k]by omega,show(0:Int)<k+1 by omega,show(k:Int)+1<s.length by omega],by grind [TW]⟩
 ·exact .inr ⟨false,by simp_all[SH,Asv],by grind [TW]⟩
theorem AxD (a b:List Int) (h:a.length<=9223372036854775807):AeN a b=some (decide (a=b)):=by
 unfold AeN
 by_cases hl:a.length=b.length
 ·have:=Rg (body:=λi:Int=>Ve a b i) a (λ(_:List Int) i=>i) (λacc i=>b.drop i=acc) (λacc l=>some (decide (l=acc)))
   (λacc hacc=>⟨true,by simp[Ve],by simp_all⟩) (λacc i x r hacc hd hi hx=>by
    have w:=OX (show i<9223372036854775807 by omega)
    obtain⟨_,rfl⟩:=aAC.1 hx;have hib:i<b.length:=by omega
    have hdb:=aAV hib
    by_cases e:a[i]=b[i]
    ·exact .inl ⟨b.drop (i+1),rfl,by simp[Ve,hi,hib,e,w],by rw[<- hacc,hdb];simp only[List.cons.injEq,e,true_and]⟩
    ·exact .inr ⟨false,by simp[Ve,hi,hib,e],by rw[<- hacc,hdb];simp only[List.cons.injEq,e,false_and,decide_false]⟩)
   b (by simp)
  simp_all
 ·have:¬ a=b:=λe=>hl (by rw[e])
  grind
theorem Apj (a b:List (List Int)) (h:a.length<=9223372036854775807) (hr:∀ s∈a,s.length<=9223372036854775807):Zy a b=some (decide (a=b)):=by
 unfold Zy
 by_cases hl:a.length=b.length
 ·have:=Rg (body:=λi:Int=>Tg a b i) a (λ(_:List (List Int)) i=>i) (λacc i=>b.drop i=acc) (λacc l=>some (decide (l=acc)))
   (λacc hacc=>⟨true,by simp[Tg],by simp_all⟩) (λacc i x r hacc hd hi hx=>by
    have w:=OX (show i<9223372036854775807 by omega)
    obtain⟨_,rfl⟩:=aAC.1 hx;have hib:i<b.length:=by omega
    have hdb:=aAV hib;have hs:=AxD a[i] b[i] (hr _ (aAF _))
    by_cases e:a[i]=b[i]
    ·refine .inl ⟨b.drop (i+1),rfl,?_,by rw[<- hacc,hdb];simp only[List.cons.injEq,e,true_and]⟩
     rw[decide_eq_true e]at hs;simp[Tg,hi,hib,hs,w]
    ·refine .inr ⟨false,?_,by rw[<- hacc,hdb];simp only[List.cons.injEq,e,false_and,decide_false]⟩
     rw[decide_eq_false e]at hs
     simp[Tg,hi,hib,hs])
   b (by simp)
  simp_all
 ·have:¬ a=b:=λe=>hl (by rw[e])
  grind
theorem AuZ (s:List Int) (n:Int) (hs:s.length<=16777215):Abh s n=some (s.filter (· != n)):=by
 unfold Abh;have:=Rg (body:=λp:List Int×Int=>TM s n p.1 p.2) s (λ(out:List Int) i=>(out,i)) (λout i=>out.length<=i) (λout l=>some (out++l.filter (· != n)))
  (λout _=>⟨out,by simp[TM],by simp⟩) (λout i x r ho hd hi hx=>by
   have w:=OX (show i<9223372036854775807 by omega)
   obtain⟨_,rfl⟩:=aAC.1 hx;left
   by_cases h:s[i]=n
   ·exact⟨out,by omega,by simp_all[TM],by simp[h]⟩
   ·exact⟨out++[s[i]],by simp;omega,by simp[TM,hi,h,w,show out.length<=16777215 by omega],by simp[h]⟩)
  [] (by simp)
 simp_all
def Ro (a b:List Int):List Int:=b.foldl (λo x=>VG x o) a
theorem Asw (n:Int) (s:List Int):(VG n s).length<=s.length+1:=by
 grind [VG,AnL]
theorem union_eq (a b:List Int) (h:a.length+b.length<=1000000):Uw a b=some (Ro a b):=by
 unfold Uw Ro;rw[PN (by simp;omega)]
 have:=Rg (body:=λp:List Int×Int=>VD b p.1 p.2) b (λ(out:List Int) i=>(out,i)) (λout i=>out.length<=a.length+i) (λout l=>some (l.foldl (λo x=>VG x o) out))
  (λout _=>⟨out,by simp[VD],by simp⟩) (λout i x r ho hd hi hx=>by
   have w:=OX (show i<9223372036854775807 by omega)
   obtain⟨_,rfl⟩:=aAC.1 hx;have hl:=Asw b[i] out;left
   exact⟨VG b[i] out,by omega,by simp[VD,hi,add_eq out b[i] (by omega),w],by simp⟩)
  a (by simp)
 simp_all
theorem Apq:∀ {a b:List Int},a.Pairwise (· <·)->b.Pairwise (· <·)->(∀ v∈a,v∈b)->a.Sublist b
 | [],_,_,_,_=>List.nil_sublist _
 | x::a,[],_,_,h=>by grind [aAQ]
 | x::a,y::b,ha,hb,h=>by
  rw[aAU]at ha hb
  by_cases e:x=y
  ·subst e;refine(Apq ha.2 hb.2 λv hv=>?_).cons_cons x
   grind
  ·have hx:x∈b:=by
    simp_all
   have hyx:=hb.1 x hx;refine(Apq (aAU.2 ha) hb.2 λv hv=>?_).cons y
   grind
theorem PV.sub {a b:List Int} (ha:PV a) (hb:PV b) (h:∀ v∈a,v∈b):a.Sublist b:=Apq ha.1 hb.1 h
theorem PV.ext {a b:List Int} (ha:PV a) (hb:PV b) (h:∀ v,v∈a↔v∈b):a=b :=
 (ha.sub hb λv hv=>(h v).1 hv).eq_of_length_le (hb.sub ha λv hv=>(h v).2 hv).length_le
theorem PV.filter {a:List Int} (ha:PV a) (p:Int->Bool):PV (a.filter p) :=
 ⟨ha.1.sublist List.filter_sublist,λx hx=>ha.2 x ((aAb.1 hx).1)⟩
theorem PH.AqY {n m:Int} (h:PV s/\∀ x∈s,x<n) (hm:0<=m/\m<n) (hn:n<=512):PV (VG m s)/\(∀ x∈VG m s,x<n)/\∀ v,v∈VG m s↔v=m\/v∈s:=by
 unfold VG;rw[if_pos (by omega)]
 refine⟨h.1.XT (by omega),λx hx=>?_,λv=>AfE _ _ _⟩
 grind [AfE]
theorem Vw {n:Int} (hn:n<=512):∀ {b a:List Int},(PV a/\∀ x∈a,x<n)->(∀ x∈b,0<=x/\x<n)->(PV (Ro a b)/\∀ x∈Ro a b,x<n)/\∀ v,v∈Ro a b↔v∈a\/v∈b
 | [],a,ha,_=>⟨ha,λv=>by simp[Ro]⟩
 | x::b,a,ha,hb=>by
  obtain⟨h1,h2,h3⟩:=PH.AqY ha (hb x (aAQ ..)) hn;obtain⟨h4,h5⟩:=Vw hn ⟨h1,h2⟩ λy hy=>hb y (aAL _ hy)
  grind [Ro]
def Ur (l:List Int) (p:Int->Prop):Prop:=PV l/\∀ v,v∈l↔(0<=v/\v<512)/\p v
theorem Ur.eq {l m:List Int} {p q:Int->Prop} (h:Ur l p) (k:Ur m q) (e:∀ v,0<=v->v<512->(p v↔q v)):l=m :=
 h.1.ext k.1 λv=>by
  rw[h.2,k.2];simp_all
theorem Ur.AoX {l:List Int} (h:PV l):Ur l (· ∈l):=⟨h,λv=>⟨λk=>⟨h.2 v k,k⟩,λk=>k.2⟩⟩
theorem Ur.mono {l:List Int} {p q:Int->Prop} (h:Ur l p) (e:∀ v,0<=v->v<512->(p v↔q v)):Ur l q :=
 ⟨h.1,λv=>by rw[h.2];simp_all⟩
abbrev BS:=OT
def SG (t:BS):Prop:=∀ w∈t.toList,WW w
theorem BS.len (t:BS):t.toList.length=8:=rfl
variable {t:BS}
def Uz (t:BS) (i:Nat):Int:=(t.toList[i]?).getD 0
def hasB (t:BS) (v:Int):Bool:=Aft (Uz t (v.toNat / 64)) (v.toNat % 64)
theorem Abp (h:i<8):t.toList[i]? =some (Uz t i):=by
 have:t.toList[i]? =some (t.toList[i]'(show i<8 from h)):=aAA _
 grind [Uz]
theorem SG.word (h:SG t) (hi:i<8):WW (Uz t i):=h _ (aAE (Abp hi))
theorem Aqo {j:Nat} {w:Int} (hi:i<8):Uz (t.set i w) j=if i=j then w else Uz t j:=by
 unfold Uz;rw[Ss,List.getElem?_set]
 by_cases h:i=j
 all_goals simp_all[OT.toList]
theorem SG.set (h:SG t) {w:Int} (hw:WW w):SG (t.set i w):=by
 intro x hx;rw[Ss]at hx;rcases aAS hx with h1|rfl
 ·exact h x h1
 ·exact hw
theorem SG.zero:SG ⟨0,0,0,0,0,0,0,0⟩:=by
 intro w hw;simp[OT.toList]at hw;exact⟨by omega,by omega⟩
theorem AuE (v:Int):hasB ⟨0,0,0,0,0,0,0,0⟩ v=false:=by
 have:Uz ⟨0,0,0,0,0,0,0,0⟩ (v.toNat / 64)=0:=by
  have hl:∀ i:Nat,(([0,0,0,0,0,0,0,0]:List Int)[i]?).getD 0=0:=by
   grind
  exact hl _
 simp_all[hasB,Aft]
theorem AqR (n:Int):0<=(IntKind.u64.wrap n).tmod 64/\(0<=n->n<512->((IntKind.u64.wrap n).tmod 64).toNat=n.toNat % 64):=by
 obtain⟨h0,h1⟩:=Akt n;rw[Int.tmod_eq_emod_of_nonneg h0];refine⟨by omega,λha hb=>?_⟩
 rw[Avq ⟨ha,by omega⟩]
 omega
theorem Aug {n:Int} (h0:0<=n) (h1:n<512):IntKind.i64.wrap (n.tdiv 64)=((n.toNat / 64:Nat):Int):=by
 grind [wrap64]
theorem AxN {n:Int} (h0:0<=n) (h1:n<512):IntKind.u64.wrap (1*2 ^ (Nat.min ((IntKind.u64.wrap n).tmod 64).toNat IntKind.u64.bits))=((2 ^ (n.toNat % 64):Nat):Int):=by
 rw[(AqR n).2 h0 h1];have e:Nat.min (n.toNat % 64) IntKind.u64.bits=n.toNat % 64:=Nat.min_eq_left (by show n.toNat % 64<=64;omega)
 rw[e,Int.one_mul];have hp:2 ^ (n.toNat % 64)<18446744073709551616:=by
  have:=Nat.pow_lt_pow_right (a:=2) (by decide) (show n.toNat % 64<64 by omega)
  omega
 grind [AhI]
theorem ArT (j:Nat) (h:j<64):2 ^ j<18446744073709551616:=by
 have:=Nat.pow_lt_pow_right (a:=2) (by decide) h
 omega
theorem AxT {n:Int} (h0:0<=n) (h0':0<=v) (hne:v≠n) (h:n.toNat / 64=v.toNat / 64):v.toNat % 64≠n.toNat % 64:=by omega
theorem AuU (ht:SG t) (n:Int) (b:Bool):Hs (UB t n b) λr=>SG r/\∀ v,0<=v->v<512->hasB r v=if v=n then b else hasB t v:=by
 refine .chk (AqR n).1 ?_;rw[Ajp,aA]
 by_cases h:0<=n/\n<512
 ·rw[decide_eq_true h];obtain⟨h0,h1⟩:=h;have hi:n.toNat / 64<8:=by omega
  have hb:=AxN h0 h1;have hw:=ht.word hi;have hp:WW ((2 ^ (n.toNat % 64):Nat):Int):=WW.nat (ArT _ (by omega))
  have fin:∀ (x:Nat),x<18446744073709551616->(∀ j,j<64->x.testBit j=if j=n.toNat % 64 then b else(Uz t (n.toNat / 64)).toNat.testBit j) ->
    SG (t.set (n.toNat / 64) (x:Int))/\∀ v,0<=v->v<512->hasB (t.set (n.toNat / 64) (x:Int)) v=if v=n then b else hasB t v:=by
   intro x hx hbit;refine⟨ht.set (WW.nat hx),λv hv0 hv1=>?_⟩
   unfold hasB;rw[Aqo hi]
   by_cases he:v=n
   ·subst he;rw[if_pos rfl,if_pos rfl];show(x:Int).toNat.testBit _=b;rw[aAB,hbit _ (by omega),if_pos rfl]
   ·rw[if_neg he]
    by_cases hq:n.toNat / 64=v.toNat / 64
    ·rw[if_pos hq];show(x:Int).toNat.testBit _=_;rw[aAB,hbit _ (by omega),if_neg (AxT h0 hv0 he hq),hq]
     rfl
    simp_all
  cases b with
  | true =>
   simp only[aAi,cond_false,cond_true];rw[Aug h0 h1];refine .chk (by omega) ?_
   rw[aAB,Abp hi,aA];refine .chk (by omega) ?_
   rw[aA];refine .pure ?_;rw[hb,AxZ hw hp,aAB];refine fin _ (AuO hw.toNat_lt (ArT _ (by omega))) λj hj=>?_
   rw[Nat.testBit_or,Nat.testBit_two_pow]
   grind
  | false =>
   simp only[aAi,cond_false];rw[Aug h0 h1];refine .chk (by omega) ?_
   rw[aAB,Abp hi,aA];refine .chk (by omega) ?_
   rw[aA];refine .pure ?_;rw[hb,AqZ hw hp,aAB];refine fin _ (Apo hw.toNat_lt) λj hj=>?_
   rw[Ars hw.toNat_lt (ArT _ (by omega)),Nat.testBit_two_pow]
   grind
 ·rw[decide_eq_false h];exact .pure ⟨ht,λv h0 h1=>by grind⟩
theorem AkY (l:List Int) (hl:l.length<=9000000000000000000):Hs (Sn l) λr=>SG r/\∀ v,0<=v->v<512->hasB r v=decide (v∈l):=by
 refine Hs.loop (λs=>SG s.1/\∃ k:Nat,s.2=(k:Int)/\k<=l.length/\∀ v,0<=v->v<512->hasB s.1 v=decide (v∈l.take k)) (λs=>l.length-s.2.toNat) ⟨SG.zero,0,rfl,aAD _,λv _ _=>by simp[AuE]⟩ ?_
 rintro⟨t,k'⟩ ⟨ht,k,hk',hk,hall⟩;subst hk';refine .dec (λhlt=>?_) λhge=>?_
 ·have hlt:k<l.length:=by omega
  refine Hs.bind (P:=λx=>l[k]? =some x) ⟨l[k],by simp[hlt],by simp[hlt]⟩ λx hx=>(AuU ht x true).bind λr hr=>.cnt ?_
  rw[OX (by omega)]
  refine⟨⟨hr.1,k+1,rfl,hlt,λv h0 h1=>?_⟩,by grind⟩
  grind [aAP]
 ·have:k=l.length:=by omega
  subst this;exact .lft (.pure ⟨ht,λv h0 h1=>by simp_all⟩)
theorem PV.snoc {l:List Int} (h:PV l) {z:Int} (h0:0<=z/\z<512) (hz:∀ x∈l,x<z):PV (l++[z]):=by
 refine⟨List.pairwise_append.2 ⟨h.1,List.pairwise_singleton _ _,λa ha b hb=>?_⟩,λx hx=>?_⟩
 ·simp_all
 ·simp only[aAK,aAI]at hx;rcases hx with h1|rfl
  ·exact h.2 x h1
  ·exact h0
theorem AhC (ht:SG t):Hs (RP t) λr=>r.2=t/\Ur r.1 (λv=>hasB t v=true):=by
 refine Hs.loop (λs=>∃ i:Nat,s.2=(i:Int)/\i<=8/\Ur s.1 (λv=>v<64*i/\hasB t v=true)) (λs=>8-s.2.toNat) ⟨0,rfl,by omega,⟨PV.nil,λv=>by simp;omega⟩⟩ ?_
 rintro⟨l,i'⟩ ⟨i,hi',hi,hs⟩;subst hi';refine .dec (λhlt=>?_) λhge=>?_
 ·have hlt:i<8:=by omega
  refine .chk (by omega) ?_
  rw[aAB,Abp hlt,aA];have hw:=ht.word hlt;refine Hs.loop (λs=>WW s.2/\∃ c:Nat,c<=64/\Ur s.1 (λv=>v<64*i+c/\hasB t v=true)/\∀ j,j<64->Aft s.2 j=(decide (c<=j)&&Aft (Uz t i) j)) (λs=>s.2.toNat) ⟨hw,0,by omega,by simp_all,λj _=>by simp⟩ ?_
  rintro⟨m,x⟩ ⟨hx,c,hc,hm,hb⟩;simp only at hx hm hb;refine .bne (λhne=>?_) λhe=>?_
  ·have hx0:0<x.toNat:=by have:=hx.1;omega
   obtain⟨k1,k2,k3,k4⟩:=AvT hx0 hx.toNat_lt;generalize hk:Lib.ctz 64 x.toNat=k at k1 k2 k3 k4;have ek:Alj x=some (k:Int):=by
    unfold Alj;rw[PN (show 0<=x/\x<18446744073709551616 from hx),hk]
   rw[ek,aA];have hck:c<=k:=by
    grind [Aft]
   have hwk:Aft (Uz t i) k=true:=by
    grind [Aft]
   have e1:IntKind.i64.wrap (IntKind.i64.wrap (64*(i:Int))+(k:Int))=((64*i+k:Nat):Int):=by
    grind [wrap64]
   have e2:IntKind.u64.wrap (x-1)=x-1:=Avq ⟨by omega,by have:=hx.2;omega⟩
   have e3:(x-1).toNat=x.toNat-1:=by omega
   have hz:∀ v∈m,v<((64*i+k:Nat):Int):=λv hv=>by
    have:=((hm.2 v).1 hv).2.1;omega
   have hlen:=hm.1.length_le;refine .chk (by simp;omega) (.cnt ?_)
   rw[e1,e2,Awq hx ⟨by omega,by have:=hx.2;omega⟩,e3]
   refine⟨⟨WW.nat (Apo hx.toNat_lt),k+1,by omega,⟨hm.1.snoc (by omega) hz,λv=>?_⟩,λj hj=>?_⟩,?_⟩
   ·simp only[aAK,aAI,hm.2];constructor
    ·grind [hasB]
    ·rintro⟨a,b,d⟩
     by_cases e:v=((64*i+k:Nat):Int)
     ·exact .inr e
     ·refine .inl ⟨a,?_,d⟩
      grind [Aft,hasB]
   ·simp only;unfold Aft;rw[aAB,k4]
    grind [Aft]
   grind [Nat.and_le_right]
  ·have he:x=0:=he;subst he;refine .lft (.cnt ?_);rw[OX (by omega)]
   refine⟨⟨i+1,rfl,hlt,hm.mono λv h0 h1=>⟨λ⟨a,b⟩=>⟨by omega,b⟩,λ⟨a,b⟩=>⟨?_,b⟩⟩⟩,by grind⟩
   grind [hasB,Aft]
 ·have:i=8:=by omega
  exact .lft (.pure ⟨rfl,hs.mono λv h0 h1=>⟨λh=>h.2,λh=>⟨by omega,h⟩⟩⟩)
theorem Avt {x y:Int} (hx:WW x) (hy:WW y):Yq x y=some ((x.toNat ||| y.toNat:Nat):Int):=by
 grind [Yq,AxZ]
theorem AuM {x y:Int} (hx:WW x) (hy:WW y):Yp x y=some ((Arr x.toNat y.toNat:Nat):Int):=by
 grind [Yp,AqZ]
theorem Atn {s:BS} (hs:SG s) (ht:SG t) (g:Nat->Nat->Nat) (hg:∀ x y,x<18446744073709551616->y<18446744073709551616->g x y<18446744073709551616) (p:Bool->Bool->Bool) (hp:∀ x y j,x<18446744073709551616->y<18446744073709551616->j<64->(g x y).testBit j=p (x.testBit j) (y.testBit j)) {body:BS×Int->Option ((BS×Int)⊕(BS×BS×BS))} (hend:∀ x,body (x,8)=some (.inr (x,s,t))) (hstep:∀ x (i:Nat),i<8->body (x,(i:Int))=some (.inl (x.set i ((g (Uz s i).toNat (Uz t i).toNat:Nat):Int),((i+1:Nat):Int)))) :
  Hs (Pc body (⟨0,0,0,0,0,0,0,0⟩,0)) λr=>SG r.1/\∀ v,0<=v->v<512->hasB r.1 v=p (hasB s v) (hasB t v):=by
 refine Hs.loop (λq=>SG q.1/\∃ i:Nat,q.2=(i:Int)/\i<=8/\∀ j,j<i->Uz q.1 j=((g (Uz s j).toNat (Uz t j).toNat:Nat):Int)) (λq=>8-q.2.toNat) ⟨SG.zero,0,rfl,by omega,λj hj=>by omega⟩ ?_
 rintro⟨x,i'⟩ ⟨hx,i,hi',hi,hall⟩;subst hi'
 by_cases hlt:i<8
 ·refine⟨_,hstep x i hlt,⟨hx.set (WW.nat (hg _ _ (hs.word hlt).toNat_lt (ht.word hlt).toNat_lt)),i+1,rfl,hlt,λj hj=>?_⟩,by grind⟩
  simp only;rw[Aqo hlt]
  grind
 ·obtain rfl:i=8:=by omega
  refine⟨_,hend x,hx,λv h0 h1=>?_⟩
  have hv:v.toNat / 64<8:=by omega
  unfold hasB;rw[hall _ hv];unfold Aft;rw[aAB,hp _ _ _ (hs.word hv).toNat_lt (ht.word hv).toNat_lt (by omega)]
theorem AqK {s:BS} (hs:SG s) (ht:SG t):Hs (SJ s t) λr=>SG r.1/\∀ v,0<=v->v<512->hasB r.1 v=(hasB s v||hasB t v):=by
 refine Atn hs ht (· ||| ·) (λx y=>AuO) (· ||·) (λx y j _ _ _=>Nat.testBit_or ..) (λx=>by simp[Re]) λx i hi=>?_
 have w:=OX (show i<9223372036854775807 by omega)
 simp[Re,Abp hi,Avt (hs.word hi) (ht.word hi),w,show(i:Int)<8 by omega]
theorem AqJ {s:BS} (hs:SG s) (ht:SG t):Hs (SI s t) λr=>SG r.1/\∀ v,0<=v->v<512->hasB r.1 v=(hasB s v&& !hasB t v):=by
 refine Atn hs ht Arr (λx y hx _=>Apo hx) (λa b=>a&& !b) (λx y j hx hy _=>Ars hx hy) (λx=>by simp[Rc]) λx i hi=>?_
 have w:=OX (show i<9223372036854775807 by omega)
 simp[Rc,Abp hi,AuM (hs.word hi) (ht.word hi),w,show(i:Int)<8 by omega]
theorem Arh (l:List Int) (hl:l.length<=9000000000000000000):Hs (AaI l) λr=>Ur r (· ∈l):=by
 exact(AkY l hl).bind λr hr=>(AhC hr.1).bind λq hq=>.pure (hq.2.mono λv h0 h1=>by simp_all)
theorem Arj (l:List Int) (n:Int) (hl:l.length<=9000000000000000000):Hs (WE l n) λr=>Ur r (λv=>v∈l/\v≠n):=by
 unfold WE;refine(AkY l hl).bind λr hr=>(AuU hr.1 n false).bind λu hu=>(AhC hu.1).bind λq hq=>.pure (hq.2.mono λv h0 h1=>?_)
 grind
theorem AsD (a b:List Int) (ha:a.length<=9000000000000000000) (hb:b.length<=9000000000000000000):Hs (TG a b) λr=>Ur r (λv=>v∈a\/v∈b):=by
 unfold TG;refine(AkY a ha).bind λr hr=>(AkY b hb).bind λu hu=>(AqK hr.1 hu.1).bind λx hx=>(AhC hx.1).bind λq hq=>.pure (hq.2.mono λv h0 h1=>?_)
 simp_all
theorem AsC (a b:List Int) (ha:a.length<=9000000000000000000) (hb:b.length<=9000000000000000000):Hs (Yo a b) λr=>Ur r (λv=>v∈a/\v∉b):=by
 unfold Yo;refine(AkY a ha).bind λr hr=>(AkY b hb).bind λu hu=>(AqJ hr.1 hu.1).bind λx hx=>(AhC hx.1).bind λq hq=>.pure (hq.2.mono λv h0 h1=>?_)
 simp_all
theorem Ari (hs:PV s) (n:Int):WE s n=some (s.filter (· != n)):=by
 obtain⟨r,h1,h2⟩:=Arj s n (by have:=hs.length_le;omega)
 rw[h1,h2.eq (Ur.AoX (hs.filter (· != n))) λv _ _=>by simp_all]
theorem Agl {a b:List Int} (ha:PV a) (hb:∀ x∈b,0<=x/\x<512) (hl:b.length<=1000):TG a b=some (Ro a b):=by
 obtain⟨r,h1,h2⟩:=AsD a b (by have:=ha.length_le;omega) (by omega)
 obtain⟨h3,h4⟩:=Vw (n:=512) (by omega) (b:=b) ⟨ha,λx hx=>(ha.2 x hx).2⟩ hb
 rw[h1,h2.eq (Ur.AoX h3.1) λv _ _=>by rw[h4]]
theorem AvD {b:List Int} (hb:∀ x∈b,0<=x/\x<512) (hl:b.length<=1000):AaI b=some (Ro [] b):=by
 obtain⟨r,h1,h2⟩:=Arh b (by omega)
 obtain⟨h3,h4⟩:=Vw (n:=512) (by omega) (b:=b) ⟨PV.nil,λx hx=>by cases hx⟩ hb
 rw[h1,h2.eq (Ur.AoX h3.1) λv _ _=>by simp_all]
def okC (c:OV):Prop:=0<=c.at_/\c.at_<=c.list.length/\c.list.length<=1000/\∀ v∈c.list,0<=v/\v<=255
theorem AxX (l:List Int) (n:Int) (hl:qL (Sw .u8) l) (h0:0<=n) (h1:n<=1000):∃ c,Aig l n=some c/\okC c:=by
 unfold Aig;have e:RQ (l.length:Int) n=min (l.length:Int) n:=Axp _ _;refine⟨_,by rw[PN (by omega)],by simp,?_,?_,?_⟩
 ·simp
 ·grind
 ·intro v hv;have:=hl.2 v (List.mem_of_mem_take hv)
  grind [Sw,IntKind.min,IntKind.max,IntKind.signed,aAq]
theorem Axr (c:OV) (h:okC c) (n:Int) (h1:n<=1099511627776):∃ r c',Pn c n=some (r,c')/\okC c'/\0<=r/\(r<n\/r=0):=by
 obtain⟨ha,hb,hc,hd⟩:=h;unfold Pn Aao
 by_cases hl:c.at_<c.list.length
 ·by_cases hn:n<1
  ·exact⟨0,c,by simp_all,⟨ha,hb,hc,hd⟩,by omega,.inr rfl⟩
  ·have hx:c.list[c.at_.toNat]? =some (c.list[c.at_.toNat]'(by omega)):=aAA _
   have hv:=hd _ (aAF (show c.at_.toNat<c.list.length by omega))
   generalize hq:c.list[c.at_.toNat]'(by omega)=v at hx hv
   have e1:IntKind.i64.wrap v=v:=wrap64 (by omega) (by omega)
   have hm0:0<=v*n:=Int.mul_nonneg hv.1 (by omega)
   have hm1:v*n<=255*n:=Int.mul_le_mul_of_nonneg_right hv.2 (by omega)
   have e2:IntKind.i64.wrap (v*n)=v*n:=wrap64 (by omega) (by omega)
   have e3:(v*n).tdiv 256=v*n / 256:=Int.tdiv_eq_ediv_of_nonneg hm0;have e4:IntKind.i64.wrap (v*n / 256)=v*n / 256:=wrap64 (by omega) (by omega)
   have e5:IntKind.i64.wrap (c.at_+1)=c.at_+1:=wrap64 (by omega) (by omega)
   refine⟨v*n / 256,⟨c.list,c.at_+1⟩,?_,⟨by grind,by grind,hc,hd⟩,by omega,.inl (by omega)⟩
   grind [Xd,QU]
 ·exact⟨0,c,by simp[hl],⟨ha,hb,hc,hd⟩,by omega,.inr rfl⟩
theorem Axq (h:okC c) {n:Int} (h1:n<=1099511627776):Hs (Pn c n) λp=>okC p.2/\0<=p.1/\(p.1<n\/p.1=0):=by
 obtain⟨r,c',e,h2,h3,h4⟩:=Axr c h n h1;exact⟨(r,c'),e,h2,h3,h4⟩
theorem Qf (h:okC c) {n:Int} (h0:1<=n) (h1:n<=1099511627776):Hs (Pn c n) λp=>okC p.2/\0<=p.1/\p.1<n :=
 (Axq h h1).mono λr hr=>⟨hr.1,hr.2.1,by omega⟩
def Uc (s:Pa):Prop:=s.Size∈([8,4,8,1,2,16,8]:List Int)/\s.Align∈([8,4,1,8,16,2,32,64]:List Int)
def W64 (w:Int):Prop:=0<=w/\w<18446744073709551616
def Reg (a:Int):Prop:=0<=a/\a<4
theorem AxF (h:okC c):Hs (Aap c) λp=>okC p.2/\Uc p.1:=by
 refine(Qf h (by omega) (by omega)).bind λr hr=>.chk (by simp;omega) ?_
 refine(Hs.get hr.2.1 (by simp;omega) λx hx=>aAE hx).bind λx hx=>?_
 refine(Qf hr.1 (by omega) (by omega)).bind λr' hr'=>.chk (by simp;omega) ?_
 refine(Hs.get hr'.2.1 (by simp;omega) λx hx=>aAE hx).bind λy hy=>?_
 exact .pure ⟨hr'.1,hx,hy⟩
theorem Awh (h:okC c) {m:Int} (hm:0<=m) (hm':m<=1000):Hs (VJ c m) λp=>okC p.2/\(p.1.length:Int)<=m/\∀ s∈p.1,Uc s:=by
 unfold VJ;have w:IntKind.i64.wrap (m+1)=m+1:=wrap64 (by omega) (by omega)
 refine(Qf h (by omega) (by omega)).bind λr hr=>?_
 refine Hs.loop (λs=>okC ⟨s.1,s.2.1⟩/\(s.2.2.1.length:Int)+s.2.2.2<=m/\(∀ x∈s.2.2.1,Uc x)/\0<=s.2.2.2) (λs=>s.2.2.2.toNat) ⟨hr.1,by simp;omega,by simp,hr.2.1⟩ ?_
 rintro⟨l,a,sl,n⟩ ⟨hc,hl,hs,hn⟩;simp only at hc hl hs hn;refine .dec (λhlt=>?_) λhlt=>?_
 ·have hlt:0<n:=hlt;have w:IntKind.i64.wrap (n-1)=n-1:=wrap64 (by omega) (by omega)
  refine(AxF hc).bind λx hx=>.chk (by simp;omega) (.cnt ⟨⟨hx.1,?_,?_,?_⟩,?_⟩)
  all_goals grind
 ·exact .lft (.pure ⟨hc,by grind,hs⟩)
theorem Ato (h:okC c):Hs (Xf c) λp=>okC p.2/\W64 p.1:=by
 refine(Qf h (by omega) (by omega)).bind λr hr=>.beq (λ_=>?_) λ_=>.beq (λ_=>?_) λ_=>.beq (λ_=>?_) λ_=>?_
 ·exact(Qf hr.1 (by omega) (by omega)).bind λr' hr'=>.pure ⟨hr'.1,Akt _⟩
 ·exact(Qf hr.1 (by omega) (by omega)).bind λr' hr'=>.chk hr'.2.1 (.pure ⟨hr'.1,Akt _⟩)
 ·exact .pure ⟨hr.1,by grind [W64]⟩
 ·exact(Qf hr.1 (by omega) (by omega)).bind λr' hr'=>.pure ⟨hr'.1,Akt _⟩
def Avw (sl:List Pa) (a b:Int):Prop:=0<=a/\a<sl.length/\∃ x y,sl[a.toNat]? =some x/\sl[b.toNat]? =some y/\x.Size=y.Size
theorem Axo (h:okC c) {s:Int} (h0:0<=s) (h1:s<f.Slots.length) (hl:f.Slots.length<=1000):Hs (Aaq c f s) λp=>okC p.2/\Avw f.Slots p.1 s:=by
 refine Hs.loop (λst=>0<=st.2/\st.2<=f.Slots.length/\(st.1.length:Int)<=st.2/\(∀ v∈st.1,Avw f.Slots v s)/\(s<st.2->0<st.1.length)) (λst=>f.Slots.length-st.2.toNat) ⟨by simp,by simp,by simp,by simp,λh=>by omega⟩ ?_
 rintro⟨l,k⟩ ⟨hk0,hk1,hll,hv,hne⟩;simp only at hk0 hk1 hll hv hne;refine .dec (λhlt=>?_) λhlt=>.lft ?_
 ·have w:IntKind.i64.wrap (k+1)=k+1:=wrap64 (by omega) (by omega)
  refine(Hs.ix hk0 hlt λx hx=>hx).bind λx hx=>(Hs.ix h0 h1 λx hx=>hx).bind λy hy=>.beq (λhe=>?_) λhe=>?_
  ·refine .chk (by simp;omega) (.cnt ⟨⟨by grind,by grind,by simp_all,?_,by simp⟩,by grind⟩)
   intro v hv';rcases aAK.1 hv' with h2|h2
   ·simp_all
   ·rw[aAI]at h2;subst h2;exact⟨hk0,hlt,x,y,hx,hy,he⟩
  ·refine .cnt ⟨⟨by grind,by grind,by grind,hv,λh3=>?_⟩,by grind⟩
   grind
 ·refine(Qf h (n:=(l.length:Int)) (by omega) (by omega)).bind λr hr=>.chk ⟨hr.2.1,hr.2.2⟩ ?_
  exact(Hs.get hr.2.1 hr.2.2 λx hx=>hv x (aAE hx)).bind λx hx=>.pure ⟨hr.1,hx⟩
inductive QS (sl:List Pa) (np i:Int) (ps:List Int) (T:Int->Prop):OP->Prop
 | store (a b:Int):0<=a->a<sl.length->Reg b->QS sl np i ps T ⟨16,a,b,0,0⟩
 | load (a b:Int):Reg a->0<=b->b<sl.length->QS sl np i ps T ⟨15,a,b,0,0⟩
 | move (a b:Int):Avw sl a b->0<=b->b<sl.length->QS sl np i ps T ⟨17,a,b,0,0⟩
 | const (a w:Int):Reg a->W64 w->QS sl np i ps T ⟨0,a,0,0,w⟩
 | bin (op a b c:Int):2<=op->op<12->Reg a->Reg b->0<=c->c<8->QS sl np i ps T ⟨op,a,b,c,0⟩
 | out (a:Int):Reg a->QS sl np i ps T ⟨14,a,0,0,0⟩
 | un (op a:Int):(op=13\/op=12\/op=1)->Reg a->QS sl np i ps T ⟨op,a,0,0,0⟩
 | param (a b:Int):Reg a->0<=b->b<np->QS sl np i ps T ⟨19,a,b,0,0⟩
 | arg (a b:Int):0<=a->a<4->Reg b->QS sl np i ps T ⟨18,a,b,0,0⟩
 | call (j:Int):i<j->j<ps.length->QS sl np i ps T ⟨22,j,0,0,0⟩
 | jump (t:Int):T t->QS sl np i ps T ⟨20,t,0,0,0⟩
 | branch (a t:Int):Reg a->T t->QS sl np i ps T ⟨21,a,t,0,0⟩
def AoC (ps:List Int):Prop:=(∀ v∈ps,0<=v/\v<4)/\ps.length<=1000
theorem Awz (h:okC c) {i:Int} (T:Int->Prop) (hf:f.Slots.length<=1000) (hp:f.Params<4) (hi:0<=i) (hi':i<ps.length) (hps:AoC ps) :
  Hs (Xg c f i ps) λp=>okC p.2/\p.1.length<=4/\∀ x∈p.1,QS f.Slots f.Params i ps T x:=by
 unfold Xg;refine(Qf h (by omega) (by omega)).bind λr hr=>(Qf hr.1 (by omega) (by omega)).bind λk hk=>?_
 have hreg:Reg r.1:=hr.2;have one:∀ {x:OP} {c':OV},okC c'->QS f.Slots f.Params i ps T x->Hs (some (([x]:List OP),c')) λp=>okC p.2/\p.1.length<=4/\∀ x∈p.1,QS f.Slots f.Params i ps T x:=λhc hx=>.pure ⟨hc,by simp,by simp_all⟩
 have j6:∀ b,(b=true->i+1<ps.length)->Hs (UG k ps i r b) λp=>okC p.2/\p.1.length<=4/\∀ x∈p.1,QS f.Slots f.Params i ps T x:=by
  intro b hb;refine .cond (λhb'=>?_) λ_=>one hk.1 (.out _ hreg)
  have hil:=hb hb';have hlen:=hps.2;have w1:IntKind.i64.wrap ((ps.length:Int)-i)=(ps.length:Int)-i:=wrap64 (by omega) (by omega)
  have w2:IntKind.i64.wrap ((ps.length:Int)-i-1)=(ps.length:Int)-i-1:=wrap64 (by omega) (by omega)
  have w3:IntKind.i64.wrap (i+1)=i+1:=wrap64 (by omega) (by omega)
  rw[w1,w2];refine(Qf hk.1 (by omega) (by omega)).bind λq hq=>?_
  have w4:IntKind.i64.wrap (i+1+q.1)=i+1+q.1:=wrap64 (by omega) (by omega)
  refine Hs.loop (λs=>okC ⟨s.1,s.2.1⟩/\(s.2.2.1.length:Int)<=s.2.2.2/\0<=s.2.2.2/\s.2.2.2<=3/\∀ x∈s.2.2.1,QS f.Slots f.Params i ps T x) (λs=>(3-s.2.2.2).toNat) ⟨hq.1,by simp,by simp,by simp,by simp⟩ ?_
  rintro⟨l,a,out,n⟩ ⟨hc,ho,hn0,hn3,hall⟩;simp only at hc ho hn0 hn3 hall;unfold Xh;simp only[w3,w4];refine(Hs.ix (by omega) (by omega) λx hx=>hps.1 x (aAE hx)).bind λx hx=>.dec (λhlt=>?_) λhlt=>.lft ?_
  ·have w5:IntKind.i64.wrap (n+1)=n+1:=wrap64 (by omega) (by omega)
   refine(Qf hc (by omega) (by omega)).bind λu hu=>.dec (λ_=>?_) λ_=>?_
   ·refine(Qf hu.1 (by omega) (by omega)).bind λv hv=>.chk (by simp;omega) (.cnt ⟨⟨hv.1,by simp_all,by grind,by grind,?_⟩,by grind⟩)
    intro y hy;rcases aAK.1 hy with h2|h2
    ·simp_all
    ·rw[aAI]at h2;subst h2;exact .arg _ _ hn0 (by omega) hv.2
   ·exact .cnt ⟨⟨hu.1,by grind,by grind,by grind,hall⟩,by grind⟩
  ·refine .chk (by simp;omega) (.pure ⟨hc,by grind,?_⟩)
   intro y hy;rcases aAK.1 hy with h2|h2
   ·simp_all
   ·rw[aAI]at h2;subst h2;exact .call _ (by omega) (by omega)
 have j5:∀ b,(b=true->0<f.Params)->Hs (UF k f r ps i b) λp=>okC p.2/\p.1.length<=4/\∀ x∈p.1,QS f.Slots f.Params i ps T x:=by
  intro b hb;refine .cond (λhb'=>?_) λ_=>.dec (λ_=>j6 _ λhd=>?_) λ_=>j6 _ λhd=>(by cases hd)
  ·have:=hb hb';exact(Qf hk.1 (by omega) (by omega)).bind λu hu=>one hu.1 (.param _ _ hreg hu.2.1 hu.2.2)
  ·have hlen:=hps.2;have:=of_decide_eq_true hd
   grind [wrap64]
 have j4:∀ b,(b=true->0<f.Slots.length)->Hs (UE k f r ps i b) λp=>okC p.2/\p.1.length<=4/\∀ x∈p.1,QS f.Slots f.Params i ps T x:=by
  intro b hb;refine .cond (λhb'=>?_) λ_=>.dec (λ_=>?_) λ_=>.dec (λ_=>?_) λ_=>.dec (λ_=>one hk.1 (.out _ hreg)) λ_=>.beq (λ_=>?_) λ_=>.beq (λ_=>j5 _ λhd=>of_decide_eq_true hd) λ_=>j5 _ λhd=>(by cases hd)
  ·have:=hb hb';exact(Qf hk.1 (by omega) (by omega)).bind λu hu=>(Axo hu.1 hu.2.1 hu.2.2 hf).bind λv hv=>one hv.1 (.move _ _ hv.2 hu.2.1 hu.2.2)
  ·exact(Ato hk.1).bind λu hu=>one hu.1 (.const _ _ hreg hu.2)
  ·refine(Qf hk.1 (by omega) (by omega)).bind λu hu=>(Qf hu.1 (by omega) (by omega)).bind λv hv=>(Qf hv.1 (by omega) (by omega)).bind λz hz=>one hz.1 ?_
   rw[wrap64 (by omega) (by omega)]
   exact .bin _ _ _ _ (by omega) (by omega) hreg hv.2 hz.2.1 hz.2.2
  ·refine(Qf hk.1 (by omega) (by omega)).bind λu hu=>.chk (by simp;omega) ?_
   refine(Hs.get hu.2.1 (by simp;omega) λx hx=>aAE hx).bind λx hx=>one hu.1 (.un _ _ (by simp_all) hreg)
 have j3:∀ b,(b=true->0<f.Slots.length)->Hs (UD k f r ps i b) λp=>okC p.2/\p.1.length<=4/\∀ x∈p.1,QS f.Slots f.Params i ps T x:=by
  intro b hb;refine .cond (λhb'=>?_) λ_=>.dec (λ_=>j4 _ λhd=>by simp_all) λ_=>j4 _ λhd=>(by cases hd)
  have:=hb hb';exact(Qf hk.1 (by omega) (by omega)).bind λu hu=>one hu.1 (.load _ _ hreg hu.2.1 hu.2.2)
 have j2:∀ b,(b=true->0<f.Slots.length)->Hs (UC k f r ps i b) λp=>okC p.2/\p.1.length<=4/\∀ x∈p.1,QS f.Slots f.Params i ps T x:=by
  intro b hb;refine .cond (λhb'=>?_) λ_=>.dec (λ_=>j3 _ λhd=>by simp_all) λ_=>j3 _ λhd=>(by cases hd)
  have:=hb hb';exact(Qf hk.1 (by omega) (by omega)).bind λu hu=>one hu.1 (.store _ _ hu.2.1 hu.2.2 hreg)
 grind
theorem QS.mono {np i:Int} {T T':Int->Prop} (h:QS sl np i ps T x) (hT:∀ t,T t->T' t):QS sl np i ps T' x:=by
 cases h with
 | store a b h1 h2 h3=>exact .store a b h1 h2 h3
 | load a b h1 h2 h3=>exact .load a b h1 h2 h3
 | move a b h1 h2 h3=>exact .move a b h1 h2 h3
 | const a w h1 h2=>exact .const a w h1 h2
 | bin op a b c h1 h2 h3 h4 h5 h6=>exact .bin op a b c h1 h2 h3 h4 h5 h6
 | out a h1=>exact .out a h1
 | un op a h1 h2=>exact .un op a h1 h2
 | param a b h1 h2 h3=>exact .param a b h1 h2 h3
 | arg a b h1 h2 h3=>exact .arg a b h1 h2 h3
 | call j h1 h2=>exact .call j h1 h2
 | jump t h1=>exact .jump t (hT t h1)
 | branch a t h1 h2=>exact .branch a t h1 (hT t h2)
def Akw (x:OP):Prop:=x=⟨23,0,0,0,0⟩\/∃ w,W64 w/\x=⟨24,0,0,0,w⟩
def AfB (x:OP) (t:Int):OP :=
 if x.Op=20/\x.A<0 then⟨x.Op,t,x.B,x.C,x.Imm⟩else if x.Op=21/\x.B<0 then⟨x.Op,x.A,t,x.C,x.Imm⟩else x
theorem Akw.fix (h:Akw x) (t:Int):AfB x t=x:=by
 rcases h with rfl|⟨w,_,rfl⟩<;>simp[AfB]
theorem QS.fix {np i:Int} {T:Int->Prop} (h:QS sl np i ps (· = -1) x) {t:Int} (ht:T t):QS sl np i ps T (AfB x t):=by
 cases h with
 | store a b h1 h2 h3=>exact .store a b h1 h2 h3
 | load a b h1 h2 h3=>exact .load a b h1 h2 h3
 | move a b h1 h2 h3=>exact .move a b h1 h2 h3
 | const a w h1 h2=>exact .const a w h1 h2
 | bin op a b c h1 h2 h3 h4 h5 h6 =>
  have:AfB ⟨op,a,b,c,0⟩ t=⟨op,a,b,c,0⟩:=by grind [AfB]
  rw[this];exact .bin op a b c h1 h2 h3 h4 h5 h6
 | out a h1=>exact .out a h1
 | un op a h1 h2 =>
  have:AfB ⟨op,a,0,0,0⟩ t=⟨op,a,0,0,0⟩:=by grind [AfB]
  rw[this];exact .un op a h1 h2
 | param a b h1 h2 h3=>exact .param a b h1 h2 h3
 | arg a b h1 h2 h3=>exact .arg a b h1 h2 h3
 | call j h1 h2=>exact .call j h1 h2
 | jump q h1=>subst h1;exact .jump t ht
 | branch a q h1 h2=>subst h2;exact .branch a t h1 ht
theorem Ayl (h:code[k]? =some x) (r:Int×OV) (t:Int):QJ (k:Int) code r t=some (.inl (r.2.list,r.2.at_,code.set k (AfB x t),IntKind.i64.wrap ((k:Int)+1))):=by
 obtain⟨hl,hx⟩:=aAC.1 h;have hset:code.set k x=code:=by grind [aAo]
 obtain⟨op,a,b,c,w⟩:=x;unfold QJ SW
 by_cases h20:op=20
 ·subst h20
  by_cases ha:a<0
  ·simp_all[PN,AfB]
  ·simp[PN,hl,hx,AfB,ha,hset]
 ·by_cases h21:op=21
  ·subst h21
   by_cases hb:b<0
   ·simp_all[PN,AfB]
   ·simp[PN,hl,hx,AfB,hb,hset]
  ·have e20:(op==20)=false:=by simp_all
   have e21:(op==21)=false:=by simp_all
   simp[PN,hl,hx,AfB,e20,e21,h20,h21,hset]
structure SC (ps:List Int) (i most:Int) (f:Mk):Prop where
 par:ps[i.toNat]? =some f.Params
 slots:f.Slots.length<=6
 slot:∀ s∈f.Slots,Uc s
 len:1<=f.Code.length
 len':(f.Code.length:Int)<=7+5*most
 body:∀ (k:Nat) x,f.Code[k]? =some x->k+1<f.Code.length->QS f.Slots f.Params i ps (λt=>0<=t/\t<f.Code.length) x
 last:∀ x,f.Code[f.Code.length-1]? =some x->Akw x
theorem AxS {l:List Int} (h:okC ⟨l,a⟩) {np i:Int} (hpar:ps[i.toNat]? =some np) (hsl:sl.length<=6) (hsl':∀ s∈sl,Uc s) (hlen:1<=code.length) (hlen':(code.length:Int)<=7+5*most) (hm:most<=1000) (hb:∀ (k:Nat) x,code[k]? =some x->k+1<code.length->QS sl np i ps (· = -1) x) (he:∀ x,code[code.length-1]? =some x->Akw x) :
  Hs (Pc (λs:List Int×Int×List OP×Int=>Ut np sl s.1 s.2.1 s.2.2.1 s.2.2.2) (l,a,code,0)) λp=>okC p.2/\SC ps i most p.1:=by
 refine Hs.loop (λs=>okC ⟨s.1,s.2.1⟩/\s.2.2.1.length=code.length/\∃ k:Nat,s.2.2.2=(k:Int)/\k<=code.length/\(∀ x,s.2.2.1[code.length-1]? =some x->Akw x) /\
  ∀ (j:Nat) x,s.2.2.1[j]? =some x->j+1<code.length->QS sl np i ps (λt=>if j<k then 0<=t/\t<code.length else t= -1) x) (λs=>code.length-s.2.2.2.toNat) ⟨h,rfl,0,rfl,aAD _,he,λj x hj hj'=>(hb j x hj hj').mono λt ht=>by simp_all⟩ ?_
 rintro⟨l,a,code',k⟩ ⟨hc,hl,k,rfl,hk,he',hall⟩;simp only at hc hl he' hall;refine .dec (λhlt=>?_) λhlt=>?_
 ·have hlt:k<code.length:=by simp_all
  have w:=OX (show k<9223372036854775807 by omega)
  have hx:code'[k]? =some (code'[k]'(by omega)):=aAA _
  generalize code'[k]'(by omega)=x at hx
  have step:∀ (r:Int×OV) (t:Int),okC r.2->0<=t->t<code.length->Hs (QJ (k:Int) code' r t) (Rnd (λs:List Int×Int×List OP×Int=>okC ⟨s.1,s.2.1⟩/\s.2.2.1.length=code.length/\∃ k:Nat,s.2.2.2=(k:Int)/\k<=code.length/\(∀ x,s.2.2.1[code.length-1]? =some x->Akw x) /\
    ∀ (j:Nat) x,s.2.2.1[j]? =some x->j+1<code.length->QS sl np i ps (λt=>if j<k then 0<=t/\t<code.length else t= -1) x) (λs=>code.length-s.2.2.2.toNat) (l,a,code',(k:Int)) (λp:Mk×OV=>okC p.2/\SC ps i most p.1)):=by
   intro r t hr ht0 ht1;rw[Ayl hx];refine .pure ⟨⟨hr,by simp[hl],k+1,w,hlt,?_,?_⟩,by grind⟩
   ·intro y hy;simp only at hy
    by_cases e:k=code.length-1
    ·rw[<- e,aAO (by omega)]at hy
     obtain rfl:=Option.some.inj hy;have hex:=he' x (by simp_all)
     rw[hex.fix];exact hex
    simp_all
   ·intro j y hy hj;simp only at hy
    by_cases e:k=j
    ·subst e;rw[aAO (by omega)]at hy
     obtain rfl:=Option.some.inj hy;exact((hall k x hx hj).mono λt ht=>by simp_all).fix (by simp_all)
    grind
  refine(Qf hc (by omega) (by omega)).bind λr hr=>?_
  have w1:IntKind.i64.wrap ((k:Int)+r.1)=(k:Int)+r.1:=wrap64 (by omega) (by omega)
  grind [wrap64]
 ·have hlt:¬ k<code'.length:=λh=>hlt (aAT.2 h)
  have hkl:k=code.length:=by omega
  refine .lft (.pure ⟨hc,hpar,hsl,hsl',by simp_all,by simp_all,?_,?_⟩)
  all_goals grind
theorem Aws {l:List Int} (h:okC ⟨l,a⟩) {np i:Int} (hpar:ps[i.toNat]? =some np) (hsl:sl.length<=6) (hsl':∀ s∈sl,Uc s) (hlen:(code.length:Int)<=6+5*most) (hm:most<=1000) (hb:∀ x∈code,QS sl np i ps (· = -1) x) {e1 e2:Int} (he:Akw ⟨e1,0,0,0,e2⟩) :
  Hs (RF code np sl l a e1 e2) λp=>okC p.2/\SC ps i most p.1:=by
 unfold RF;refine .chk (by simp;omega) (AxS h hpar hsl hsl' (by simp) (by simp;omega) hm ?_ ?_)
 all_goals grind
theorem AsH (h:okC c) {i:Int} (hi:0<=i) (hi':i<ps.length) (hps:AoC ps) (hm0:0<=most) (hm:most<=1000) :
  Hs (Wf c i ps most) λp=>okC p.2/\SC ps i most p.1:=by
 refine(Hs.ix hi hi' λx hx=>hx).bind λnp hnp=>(Awh h (by omega) (by omega)).bind λsl hsl=>?_
 obtain⟨hc0,hsl1,hsl2⟩:=hsl;have hnp4:=hps.1 np (aAE hnp);refine Hs.loop (λs=>okC ⟨s.1,s.2.1⟩/\0<=s.2.2.2/\s.2.2.2<=sl.1.length/\(s.2.2.1.length:Int)<=s.2.2.2/\∀ x∈s.2.2.1,QS sl.1 np i ps (· = -1) x) (λs=>sl.1.length-s.2.2.2.toNat) ⟨hc0,by simp,by simp,by simp,by simp⟩ ?_
 rintro⟨l,a,code,s⟩ ⟨hc,hs0,hs1,hcl,hall⟩;simp only at hc hs0 hs1 hcl hall;refine .dec (λhlt=>?_) λhlt=>?_
 ·have hlt:s<sl.1.length:=hlt;have w:IntKind.i64.wrap (s+1)=s+1:=wrap64 (by omega) (by omega)
  refine(Qf hc (by omega) (by omega)).bind λr hr=>.dec (λ_=>?_) λ_=>?_
  ·refine(Qf hr.1 (by omega) (by omega)).bind λq hq=>.chk (by simp;omega) (.cnt ⟨⟨hq.1,by grind,by grind,by simp_all,?_⟩,by grind⟩)
   intro y hy;rcases aAK.1 hy with h2|h2
   ·simp_all
   ·rw[aAI]at h2;subst h2;exact .store _ _ hs0 hlt hq.2
  ·exact .cnt ⟨⟨hr.1,by grind,by grind,by grind,hall⟩,by grind⟩
 ·have w:IntKind.i64.wrap (most+1)=most+1:=wrap64 (by omega) (by omega)
  refine .lft ((Qf hc (by omega) (by omega)).bind λr hr=>?_)
  refine Hs.loop (λs=>okC ⟨s.1,s.2.1⟩/\s.2.2.2.1=sl.1/\0<=s.2.2.2.2/\s.2.2.2.2<=most/\(s.2.2.1.length:Int)<=6+5*(most-s.2.2.2.2)/\∀ x∈s.2.2.1,QS sl.1 np i ps (· = -1) x) (λs=>s.2.2.2.2.toNat) ⟨hr.1,rfl,hr.2.1,by grind,by grind,hall⟩ ?_
  rintro⟨l,a,code,sl',n⟩ ⟨hc,rfl,hn0,hn1,hcl,hall⟩;simp only at hc hn0 hn1 hcl hall;refine .dec (λhlt=>?_) λhlt=>.lft ?_
  ·have hlt:0<n:=hlt;have w:IntKind.i64.wrap (n-1)=n-1:=wrap64 (by omega) (by omega)
   refine(Awz hc (· = -1) (by grind) hnp4.2 hi hi' hps).bind λb hb=>.chk (by simp;omega) ?_
   have hall2:∀ x∈code++b.1,QS sl.1 np i ps (· = -1) x:=by
    grind
   have hall3:∀ x,QS sl.1 np i ps (· = -1) x->∀ y∈(code++b.1)++[x],QS sl.1 np i ps (· = -1) y:=by
    grind
   refine(Qf hb.1 (by omega) (by omega)).bind λr hr=>.beq (λ_=>?_) λ_=>.beq (λ_=>?_) λ_=>?_
   ·refine(Qf hr.1 (by omega) (by omega)).bind λq hq=>.chk (by simp;omega) (.cnt ⟨⟨hq.1,rfl,by grind,by grind,by grind,hall3 _ (.branch _ _ hq.2 rfl)⟩,by grind⟩)
   ·refine(Qf hr.1 (by omega) (by omega)).bind λq hq=>.beq (λ_=>?_) λ_=>?_
    ·exact .chk (by simp;omega) (.cnt ⟨⟨hq.1,rfl,by grind,by grind,by grind,hall3 _ (.jump _ rfl)⟩,by grind⟩)
    ·exact .cnt ⟨⟨hq.1,rfl,by grind,by grind,by grind,hall2⟩,by grind⟩
   ·exact .cnt ⟨⟨hr.1,rfl,by grind,by grind,by grind,hall2⟩,by grind⟩
  ·refine(Qf hc (by omega) (by omega)).bind λr hr=>.beq (λ_=>?_) λ_=>?_
   ·exact(Ato hr.1).bind λq hq=>Aws hq.1 hnp (by omega) hsl2 (by omega) hm hall (.inr ⟨_,hq.2,rfl⟩)
   ·exact Aws hr.1 hnp (by omega) hsl2 (by omega) hm hall (.inl rfl)
def AhS (funcs most:Int) (p:Pk):Prop :=
 ∃ ps,AoC ps/\ps[0]? =some 0/\1<=ps.length/\(ps.length:Int)<=funcs/\p.Funcs.length=ps.length/\∀ (j:Nat) f,p.Funcs[j]? =some f->SC ps j most f
theorem Aue (h:okC c) {funcs:Int} (hf:1<=funcs) (hf':funcs<=1000) (hm0:0<=most) (hm:most<=1000) :
  Hs (Xe c funcs most) λp=>okC p.2/\AhS funcs most p.1:=by
 refine(Qf h hf (by omega)).bind λr hr=>?_
 refine Hs.loop (λs=>okC ⟨s.1,s.2.1⟩/\(∀ v∈s.2.2.1,0<=v/\v<4)/\s.2.2.1[0]? =some 0/\0<=s.2.2.2/\(s.2.2.1.length:Int)+s.2.2.2<=funcs) (λs=>s.2.2.2.toNat) ⟨hr.1,by simp,by simp,hr.2.1,by simp;omega⟩ ?_
 rintro⟨l,a,ps,n⟩ ⟨hc,hv,hz,hn0,hn1⟩;simp only at hc hv hz hn0 hn1;have hp1:1<=ps.length:=by grind
 refine .dec (λhlt=>?_) λhlt=>.lft ?_
 ·have hlt:0<n:=hlt;have w:IntKind.i64.wrap (n-1)=n-1:=wrap64 (by omega) (by omega)
  refine(Qf hc (by omega) (by omega)).bind λq hq=>.chk (by simp;omega) (.cnt ⟨⟨hq.1,?_,by grind,by grind,by grind⟩,by grind⟩)
  grind
 ·have hps:AoC ps:=⟨hv,by omega⟩
  refine Hs.loop (λs=>okC ⟨s.1,s.2.1⟩/\s.2.2.2.2=ps/\∃ i:Nat,s.2.2.2.1=(i:Int)/\i<=ps.length/\s.2.2.1.length=i/\∀ (j:Nat) f,s.2.2.1[j]? =some f->SC ps j most f) (λs=>ps.length-s.2.2.2.1.toNat) ⟨hc,rfl,0,rfl,aAD _,rfl,λj f hj=>by simp at hj⟩ ?_
  rintro⟨l,a,fs,i',ps'⟩ ⟨hc,hpe,i,hie,hi,hfl,hall⟩;simp only at hc hpe hie hi hfl hall;subst hpe hie;unfold UX;refine .dec (λhlt=>?_) λhlt=>.lft (.pure ⟨hc,ps',hps,hz,hp1,by omega,?_,hall⟩)
  ·have hlt:i<ps'.length:=aAT.1 hlt;have w:=OX (show i<9223372036854775807 by omega)
   have hpl:=hps.2;refine .chk (by simp;omega) ((AsH hc (i:=(i:Int)) (ps:=ps') (by omega) (by omega) hps hm0 hm).bind λf hf=>.chk (by simp;omega) (.cnt ⟨⟨hf.1,rfl,i+1,w,hlt,by simp;omega,?_⟩,by grind⟩))
   grind
  grind
def WZ (f:Mk) (k:Nat):OP:=(f.Code[k]?).getD default
def Qa (x:OP) (k:Int):List Int :=
 if x.Op=20 then[x.A]else if x.Op=23\/x.Op=24 then[]else
 if x.Op=21 then(if x.B<k+1 then[x.B,k+1]else if k+1<x.B then[k+1,x.B]else[k+1])else[k+1]
theorem Asa (h:f.Code[k]? =some x) (hk:k<9223372036854775807):AbF f (k:Int)=some (Qa x k):=by
 obtain⟨hl,hx⟩:=aAC.1 h;have hnl:¬ f.Code.length<=k:=by omega
 have w:IntKind.i64.wrap ((k:Int)+1)=(k:Int)+1:=wrap64 (by omega) (by omega)
 unfold AbF Ada Qa;obtain⟨op,a,b,c,i⟩:=x
 by_cases h20:op=20
 ·subst h20;simp[hx,hl,hnl,show ¬ (k:Int)<0 by omega]
 ·by_cases h23:op=23
  ·simp_all[So]
  ·by_cases h24:op=24
   ·simp_all[So]
   ·by_cases h21:op=21
    ·subst h21
     by_cases hb:b<(k:Int)+1
     ·simp[hx,hl,hnl,show ¬ (k:Int)<0 by omega,So,w,hb]
     ·by_cases hb':(k:Int)+1<b
      ·simp[hx,hl,hnl,show ¬ (k:Int)<0 by omega,So,w,hb,hb']
      ·simp[hx,hl,hnl,show ¬ (k:Int)<0 by omega,So,w,hb,hb']
    ·simp[hx,hl,hnl,show ¬ (k:Int)<0 by omega,So,w,h20,h23,h24,h21]
def QE (x:OP):List Int:=if x.Op=15\/x.Op=17 then[x.B]else[]
structure Pu (f:Mk):Prop where
 len:1<=f.Code.length
 len':f.Code.length<=10000
 slots:f.Slots.length<=500
 next:∀ (k:Nat) x,f.Code[k]? =some x->∀ j∈Qa x k,0<=j/\j<f.Code.length
 uses:∀ x∈f.Code,∀ v∈QE x,0<=v/\v<f.Slots.length
theorem SC.Apt {i:Int} (h:SC ps i most f) (hm:most<=1000):Pu f:=by
 have hl:=h.len;have hl':=h.len';have hs:=h.slots;refine⟨hl,by omega,by omega,λk x hx j hj=>?_,λx hx v hv=>?_⟩
 ·have hkl:=(aAC.1 hx).1
  by_cases hk:k+1<f.Code.length
  ·have hins:=h.body k x hx hk;cases hins<;>grind [Qa]
  ·have he:=h.last x (by grind)
   rcases he with rfl|⟨w,_,rfl⟩<;>simp[Qa]at hj
 ·obtain⟨k,hk⟩:=aAM hx;have hkl:=(aAC.1 hk).1
  by_cases hk1:k+1<f.Code.length
  ·have hins:=h.body k x hk hk1;cases hins<;>grind [QE]
  ·have he:=h.last x (by grind)
   rcases he with rfl|⟨w,_,rfl⟩<;>simp[QE]at hv
def PH (n:Int) (s:List Int):Prop:=PV s/\∀ x∈s,x<n
theorem PH.nil (n:Int):PH n []:=⟨PV.nil,λx hx=>by cases hx⟩
theorem PH.add {n m:Int} (h:PH n s) (hm:0<=m/\m<n) (hn:n<=512):PH n (VG m s)/\Xt s m=some (VG m s):=by
 have hl:=h.1.length_le;refine⟨?_,add_eq s m (by omega)⟩
 unfold VG;rw[if_pos (by omega)]
 refine⟨h.1.XT (by omega),λx hx=>?_⟩
 rw[AfE]at hx;rcases hx with rfl|hx
 ·exact hm.2
 ·exact h.2 x hx
def RowsIn (n:Int) (g:List (List Int)):Prop:=∀ s∈g,PH n s
theorem RowsIn.set {n:Int} (h:RowsIn n g) (hs:PH n s):RowsIn n (g.set i s):=by
 intro x hx;rcases aAS hx with h1|rfl
 ·exact h x h1
 ·exact hs
def inN (x:OP) (s:List Int):List Int:=Ro (if x.Op=16\/x.Op=17 then s.filter (· != x.A)else s) (QE x)
theorem Awr (x:OP) (s:List Int) (h:s.length<=900000):AfO x s=some (inN x s):=by
 obtain⟨op,a,b,c,i⟩:=x;have hu:Vu ⟨op,a,b,c,i⟩=some (QE ⟨op,a,b,c,i⟩):=by
  grind [Vu,QE]
 have hul:(QE ⟨op,a,b,c,i⟩).length<=1:=by grind [QE]
 have hfl:(s.filter (· != a)).length<=s.length:=List.length_filter_le ..;have hr:=AuZ s a (by omega)
 grind [union_eq,AfO,Tb,SM,inN]
theorem Aec (hf:Pu f) (hx:x∈f.Code) (hs:PH f.Slots.length s) :
  PH f.Slots.length (inN x s)/\∀ v,v∈inN x s↔(v∈s/\¬ ((x.Op=16\/x.Op=17)/\x.A=v))\/v∈QE x:=by
 have hsl:=hf.slots;have h0:PH f.Slots.length (if x.Op=16\/x.Op=17 then s.filter (· != x.A)else s):=by
  split
  ·exact⟨hs.1.filter _,λv hv=>hs.2 v (aAb.1 hv).1⟩
  ·exact hs
 obtain⟨h1,h2⟩:=Vw (n:=f.Slots.length) (by omega) (b:=QE x) h0 (hf.uses x hx)
 refine⟨h1,λv=>?_⟩
 unfold inN
 grind
def OR (f:Mk) (j:Int):OP:=(f.Code[j.toNat]?).getD default
def Pr (l:List (List Int)) (j:Int):List Int:=(l[j.toNat]?).getD []
def QB (f:Mk) (l:List (List Int)) (k:Int):List Int:=(Qa (OR f k) k).foldl (λo j=>Ro o (inN (OR f j) (Pr l j))) []
def SO (f:Mk) (l:List (List Int)):List (List Int):=(aAf f.Code.length).map λk=>QB f l (k:Nat)
def QM (f:Mk) (l:List (List Int)):Prop:=l.length=f.Code.length/\∀ s∈l,PH f.Slots.length s
theorem Aof {f:Mk} (hf:Pu f) {l:List (List Int)} (hl:QM f l):∀ {js:List Int} {o:List Int},(∀ j∈js,0<=j/\j<f.Code.length)->PH f.Slots.length o ->
  PH f.Slots.length (js.foldl (λo j=>Ro o (inN (OR f j) (Pr l j))) o)/\∀ v,v∈js.foldl (λo j=>Ro o (inN (OR f j) (Pr l j))) o↔v∈o\/∃ j∈js,v∈inN (OR f j) (Pr l j)
 | [],o,_,ho=>⟨ho,λv=>by simp⟩
 | j::js,o,hj,ho=>by
  have hsl:=hf.slots;have h0:=hj j (aAQ ..);have hc:OR f j∈f.Code:=by
   grind [OR]
  have ho':PH f.Slots.length (Pr l j):=by
   unfold Pr;rw[aAA (show j.toNat<l.length by have:=hl.1;omega)]
   exact hl.2 _ (aAF _)
  obtain⟨h1,h2⟩:=Aec hf hc ho';obtain⟨h3,h4⟩:=Vw (n:=f.Slots.length) (by omega) (b:=inN (OR f j) (Pr l j)) ho λx hx=>⟨(h1.1.2 x hx).1,h1.2 x hx⟩
  obtain⟨h5,h6⟩:=Aof hf hl (λq hq=>hj q (aAL _ hq)) h3
  grind
theorem Ux (hf:Pu f) (hl:QM f l) (hk:k<f.Code.length) :
  PH f.Slots.length (QB f l k)/\∀ v,v∈QB f l k↔∃ j∈Qa (OR f k) k,v∈inN (OR f j) (Pr l j):=by
 have hx:f.Code[k]? =some (OR f k):=by grind [OR]
 obtain⟨h1,h2⟩:=Aof hf hl (js:=Qa (OR f k) k) (hf.next k _ hx) (PH.nil _)
 grind [QB]
theorem Aso (hf:Pu f) (hl:QM f l):QM f (SO f l):=by
 refine⟨by simp[SO],λs hs=>?_⟩
 obtain⟨k,hk,rfl⟩:=List.mem_map.1 hs
 grind [Ux]
theorem step_eq (hf:Pu f) (hl:QM f l):AeP f ⟨l⟩=some ⟨SO f l⟩:=by
 have hlen:=hf.len';unfold AeP;rw[PN (by omega)]
 have key:Hs (Pc (λs:List (List Int)×Int=>WQ f ⟨l⟩ s.1 s.2) (aAe (f.Code.length:Int).toNat ([]:List Int),0)) λr=>r=⟨SO f l⟩:=by
  refine Hs.loop (λs=>s.1.length=f.Code.length/\∃ k:Nat,s.2=(k:Int)/\k<=f.Code.length/\∀ (j:Nat) r,s.1[j]? =some r->r=if j<k then QB f l j else[]) (λs=>f.Code.length-s.2.toNat) ⟨by simp,0,rfl,aAD _,λj r hj=>?_⟩ ?_
  ·grind
  rintro⟨x,k'⟩ ⟨hxl,k,hke,hk,hall⟩;simp only at hxl hke hall;subst hke
  by_cases hlt:k<f.Code.length
  ·have w:=OX (show k<9223372036854775807 by omega)
   have hx:f.Code[k]? =some (OR f k):=by grind [OR]
   have hxk:x[k]? =some []:=by
    grind
   have hset:x.set k []=x:=by
    grind [aAo]
   have inner:=Rg (body:=λs:List (List Int)×Int=>WR (Qa (OR f k) k) k f ⟨l⟩ s.1 s.2) (Qa (OR f k) k) (λ(o:List Int) i=>(x.set k o,i)) (λo _=>PH f.Slots.length o)
    (λo js=>some (.inl (x.set k (js.foldl (λo j=>Ro o (inN (OR f j) (Pr l j))) o),((k+1:Nat):Int))))
    (λo _=>⟨_,by simp[WR,Adb,w];rfl,by simp⟩) (λo i j r ho hd hi hj=>by
     left
     have wi:=OX (show i<9223372036854775807 by
      grind [Qa])
     have hjm:=hf.next k _ hx j (aAE hj);have hjc:f.Code[j.toNat]? =some (OR f j):=by grind [OR]
     have hjl:j.toNat<l.length:=by have:=hl.1;omega
     have hjo:l[j.toNat]? =some (Pr l j):=by grind [Pr]
     have hos:PH f.Slots.length (Pr l j):=hl.2 _ (aAE hjo);have hsl:=hf.slots;obtain⟨g1,g2⟩:=Aec hf (aAE hjc) hos;obtain⟨g3,g4⟩:=Vw (n:=f.Slots.length) (by omega) (b:=inN (OR f j) (Pr l j)) ho λx hx=>⟨(g1.1.2 x hx).1,g1.2 x hx⟩
     have e1:=Awr (OR f j) (Pr l j) (by have:=hos.1.length_le;omega)
     have e2:=union_eq o (inN (OR f j) (Pr l j)) (by have:=ho.1.length_le;have:=g1.1.length_le;omega)
     obtain⟨_,hje⟩:=aAC.1 hj;refine⟨Ro o (inN (OR f j) (Pr l j)),g3,?_,by simp⟩
     simp_all[WR,QU]) [] (PH.nil _)
   simp only[hset]at inner;refine⟨.inl (x.set k (QB f l k),((k+1:Nat):Int)),?_,⟨by simp_all,k+1,rfl,hlt,λj r hj=>?_⟩,by grind⟩
   ·simp only[WQ,decide_eq_true (aAT.2 hlt),cond_true,Asa hx (by omega),aA]
    exact inner
   grind
  ·refine⟨.inr ⟨x⟩,by simp[WQ,hlt],?_⟩
   congr 1;refine List.ext_getElem (by grind [SO]) λj h1 h2=>?_
   have:=hall j _ (aAA h1);rw[this,if_pos (by omega)]
   simp[SO]
 obtain⟨r,h1,rfl⟩:=key;exact h1
def LE (a b:List (List Int)):Prop:=∀ (k:Nat) s t,a[k]? =some s->b[k]? =some t->∀ v∈s,v∈t
theorem LE.trans {a b c:List (List Int)} (h1:LE a b) (h2:LE b c) (hl:a.length=b.length):LE a c:=by
 intro k s t hs ht v hv;have hk:=(aAC.1 hs).1;have hb:b[k]? =some (b[k]'(by omega)):=aAA _
 exact h2 k _ t hb ht v (h1 k s _ hs hb v hv)
theorem Asq:∀ {a b:List (List Int)},a.length=b.length->(∀ s∈a,PV s)->(∀ s∈b,PV s)->LE a b->(a.map List.length).sum<=(b.map List.length).sum/\((a.map List.length).sum=(b.map List.length).sum->a=b)
 | [],[],_,_,_,_=>⟨aAY _,λ_=>rfl⟩
 | [],y::b,h,_,_,_=>by simp at h
 | x::a,[],h,_,_,_=>by simp at h
 | x::a,y::b,h,ha,hb,hle=>by
  have hsub:=(ha x (aAQ ..)).sub (hb y (aAQ ..)) (hle 0 x y rfl rfl);obtain⟨h1,h2⟩:=Asq (a:=a) (b:=b) (by simp_all) (λs hs=>ha s (aAL _ hs)) (λs hs=>hb s (aAL _ hs)) λk s t hs ht=>hle (k+1) s t (by simp_all) (by simp_all)
  grind
theorem AmU:∀ {a:List (List Int)},(∀ s∈a,PV s)->(a.map List.length).sum<=512*a.length
 | [],_=>by simp
 | x::a,ha=>by
  have h1:=(ha x (aAQ ..)).length_le;have h2:=AmU (a:=a) λs hs=>ha s (aAL _ hs)
  grind
theorem AvM (hf:Pu f) (hx:x∈f.Code) {t:List Int} (hs:PH f.Slots.length s) (ht:PH f.Slots.length t) (h:∀ v∈s,v∈t):∀ v∈inN x s,v∈inN x t:=by
 intro v hv;rw[(Aec hf hx hs).2]at hv;rw[(Aec hf hx ht).2]
 grind
theorem Ajl (hf:Pu f) {a b:List (List Int)} (ha:QM f a) (hb:QM f b) (h:LE a b):LE (SO f a) (SO f b):=by
 intro k s t hs ht v hv;have hk:k<f.Code.length:=by grind [SO]
 have e1:s=QB f a k:=by grind [SO]
 have e2:t=QB f b k:=by grind [SO]
 subst e1 e2;rw[(Ux hf ha hk).2]at hv;rw[(Ux hf hb hk).2];obtain⟨j,hj,hv⟩:=hv;have hx:f.Code[k]? =some (OR f k):=by grind [OR]
 have hjm:=hf.next k _ hx j hj;have hjc:f.Code[j.toNat]? =some (OR f j):=by grind [OR]
 have hja:a[j.toNat]? =some (Pr a j):=by simp[Pr,show j.toNat<a.length by have:=ha.1;omega]
 have hjb:b[j.toNat]? =some (Pr b j):=by simp[Pr,show j.toNat<b.length by have:=hb.1;omega]
 exact⟨j,hj,AvM hf (aAE hjc) (ha.2 _ (aAE hja)) (hb.2 _ (aAE hjb)) (h _ _ _ hja hjb) v hv⟩
structure Yn (f:Mk) (l:List (List Int)):Prop where
 ok:QM f l
 fix:SO f l=l
 least:∀ b,QM f b->LE (SO f b) b->LE l b
theorem Asf (hf:Pu f):Hs (AcD f) λl=>Yn f l.Out:=by
 have hlen:=hf.len';refine .chk (by omega) ?_
 refine Hs.loop (λl=>QM f l/\LE l (SO f l)/\∀ b,QM f b->LE (SO f b) b->LE l b) (λl=>512*f.Code.length-(l.map List.length).sum) ⟨⟨by simp,λs hs=>?_⟩,λk s t hs ht v hv=>?_,λb _ _ k s t hs ht v hv=>?_⟩ ?_
 ·grind [PH.nil]
 ·grind
 ·grind
 ·rintro l ⟨hl,hle,hleast⟩;have hl':=Aso hf hl;have e1:=step_eq hf hl;have e2:Vv ⟨SO f l⟩ ⟨l⟩=some (decide (SO f l=l)):=by
   unfold Vv;rw[Apj _ _ (by have:=hl'.1;grind) (λs hs=>by have:=(hl'.2 s hs).1.length_le;omega)]
   rfl
  obtain⟨s1,s2⟩:=Asq (by rw[hl.1,hl'.1]) (λs hs=>(hl.2 s hs).1) (λs hs=>(hl'.2 s hs).1) hle
  have s3:=AmU λs hs=>(hl'.2 s hs).1
  rw[hl'.1]at s3;unfold AbG;rw[e1,aA,e2,aA]
  by_cases he:SO f l=l
  ·simp only[he,decide_true,cond_true];exact .lft (.pure ⟨hl,he,hleast⟩)
  ·simp only[he,decide_false,cond_false];refine .cnt ⟨⟨hl',Ajl hf hl hl' hle,λb hb hb'=>(Ajl hf hl hb (hleast b hb hb')).trans hb' (by rw[hl'.1,(Aso hf hb).1])⟩,?_⟩
   grind
theorem Arv (x:OP):XS x=some (QE x):=by
 grind [XS,QE]
theorem AhK (x:OP):RG x=some (if x.Op=16\/x.Op=17 then(x.A,true)else(0,false)):=by
 grind [RG]
theorem Atm (x:OP):(QE x).length<=1:=by grind [QE]
theorem Avv (x:OP) (hu:∀ v∈QE x,0<=v/\v<512):Ro [] (QE x)=QE x:=by
 unfold QE at hu ⊢;split
 all_goals simp_all[Ro,VG,XT]
theorem Auw (hs:PV s) (hu:∀ v∈QE x,0<=v/\v<512):AdZ x s=some (inN x s):=by
 have hl:=Atm x;have h1:=AvD hu (by omega)
 rw[Avv x hu]at h1;have h2:=Ari hs x.A;have h3:=Agl (hs.filter (· != x.A)) hu (by omega)
 have h4:=Agl hs hu (by omega)
 unfold AdZ inN;rw[AhK,aA,Arv]
 grind
theorem AsB {a b:List Int} (ha:PV a) (hb:PV b):Yo a b=some (a.filter λv=>!decide (v∈b)):=by
 obtain⟨r,h1,h2⟩:=AsC a b (by have:=ha.length_le;omega) (by have:=hb.length_le;omega)
 rw[h1,h2.eq (Ur.AoX (ha.filter λv=>!decide (v∈b))) λv _ _=>by simp_all]
theorem Avb (a b:List Int) (ha:a.length<=16777215) (hb:b.length<=9223372036854775807):AcC a b=some (a.filter λv=>!decide (v∈b)):=by
 unfold AcC;have:=Rg (body:=λp:List Int×Int=>Uj a b p.1 p.2) a (λ(out:List Int) i=>(out,i)) (λout i=>out.length<=i) (λout l=>some (out++l.filter λv=>!decide (v∈b)))
  (λout _=>⟨out,by simp[Uj],by simp⟩) (λout i x r ho hd hi hx=>by
   have w:=OX (show i<9223372036854775807 by omega)
   obtain⟨_,rfl⟩:=aAC.1 hx;left
   by_cases h:a[i]∈b
   ·exact⟨out,by omega,by simp_all[Uj,AaW],by simp[h]⟩
   ·exact⟨out++[a[i]],by simp;omega,by simp[Uj,hi,AaW b _ hb,h,w,show out.length<=16777215 by omega],by simp[h]⟩)
  [] (by simp)
 simp_all
theorem AnG:Lib.compact ([]:List Int)=[]:=by simp[Lib.compact,Lib.compactUpTo]
theorem AnH (a:Int):Lib.compact [a]=[a]:=by simp[Lib.compact,Lib.compactUpTo,aAc,Lib.keeps]
theorem Ajx (a b:Int):Lib.compact [a,b]=if a=b then[a]else[a,b]:=by
 by_cases h:a=b
 ·simp_all[Lib.compact,Lib.compactUpTo,aAc,Lib.keeps]
 ·have h':¬ b=a:=λe=>h e.symm
  simp_all[Lib.compact,Lib.compactUpTo,aAc,Lib.keeps]
theorem Asj (a:Int):AaE [a]=[a]:=by simp[AaE]
theorem Asi:AaE []=[]:=by simp[AaE]
theorem Awi (a b:Int):AaE [a,b]=if a<=b then[a,b]else[b,a]:=by
 unfold AaE List.mergeSort
 by_cases h:a<=b<;>simp[List.MergeSort.Internal.splitInTwo,h]
theorem Aoe (h:f.Code[k]? =some x) (hk:k<9223372036854775807):AaU f (k:Int)=some (Qa x k):=by
 obtain⟨hl,hx⟩:=aAC.1 h;have hnl:¬ f.Code.length<=k:=by omega
 have w:IntKind.i64.wrap ((k:Int)+1)=(k:Int)+1:=wrap64 (by omega) (by omega)
 unfold AaU AeD AaV Qa AbP;obtain⟨op,a,b,c,i⟩:=x
 by_cases h20:op=20
 ·subst h20;simp[hx,hl,hnl,show ¬ (k:Int)<0 by omega,Asj,AnH]
 ·by_cases h23:op=23
  ·simp_all[Asi,AnG]
  ·by_cases h24:op=24
   ·simp_all[Asi,AnG]
   ·have e24:(op==24)=false:=by simp_all
    by_cases h21:op=21
    ·subst h21;simp[hx,hl,hnl,show ¬ (k:Int)<0 by omega,w,Awi]
     by_cases hb:b<(k:Int)+1
     ·simp[hb,show ¬ (k:Int)+1<=b by omega,Ajx,show ¬ b=(k:Int)+1 by omega]
     ·by_cases hb':(k:Int)+1<b
      ·simp[hb,hb',show(k:Int)+1<=b by omega,Ajx,show ¬ (k:Int)+1=b by omega]
      ·simp[Ajx,show(k:Int)+1=b by omega]
    ·simp[hx,hl,hnl,show ¬ (k:Int)<0 by omega,w,e24,h20,h23,h24,h21,Asj,AnH]
attribute [local simp] PN
theorem ArK (hs:s.Pairwise (· <·)) {n:Int} {h:s.length-1<s.length} (hl:s[s.length-1]<n):∀ v∈s,v<n:=by
 grind [List.getElem_of_mem,aAk]
theorem Awo (s:List Int) (f:Mk) (hs:s.length<=maxLen):Hs (Tl s f) λb=>(b=false↔PH f.Slots.length s):=by
 have hm:maxLen<=9223372036854775807:=by decide
 unfold Tl;rw[AdR s (by omega),aA]
 by_cases hc:TW none s=true
 ·have hset:=(AdQ s).1 hc;rw[hc];refine .dec (λhp=>?_) λhp=>?_
  ·have hi:s.length-1<s.length:=by omega
   have w:IntKind.i64.wrap ((s.length:Int)-1)=((s.length-1:Nat):Int):=by grind [wrap64]
   rw[w,Pq,aAA hi,aA];refine .pure ⟨λh=>⟨hset,ArK hset.1 (h:=hi) (by simp_all)⟩,λh=>?_⟩
   have:=h.2 _ (aAF hi);simp;omega
  ·have:s=[]:=aAX.1 (by omega)
   subst this;exact .pure ⟨λ_=>PH.nil _,λ_=>rfl⟩
 ·have hc':TW none s=false:=by simp_all
  rw[hc'];exact .pure ⟨λh=>(by cases h),λh=>(hc ((AdQ s).2 h.1)).elim⟩
theorem Aqa (f:Mk) (l:Pg) (hl:l.Out.length<=maxLen) (hr:∀ s∈l.Out,s.length<=maxLen):Hs (VT f l) λb=>(b=true↔QM f l.Out):=by
 have hm:maxLen<=9223372036854775807:=by decide
 refine .beq (λhe=>?_) λhne=>.pure ⟨λh=>(by cases h),λh=>(hne (by rw[h.1])).elim⟩
 have he:l.Out.length=f.Code.length:=by omega
 have key:Hs (Rv l.Out f) λi=>(0<=i↔¬ ∀ s∈l.Out,PH f.Slots.length s):=by
  refine Hs.loop (λi=>∃ k:Nat,i=(k:Int)/\k<=l.Out.length/\∀ (j:Nat) s,j<k->l.Out[j]? =some s->PH f.Slots.length s) (λi=>l.Out.length-i.toNat) ⟨0,rfl,aAD _,λj s h=>absurd h (aAG _)⟩ ?_
  rintro _ ⟨k,rfl,hk,hall⟩;refine .dec (λhlt=>?_) λhge=>?_
  ·have hlt:k<l.Out.length:=by omega
   rw[Pq,aAA hlt,aA];refine(Awo _ f (hr _ (aAF hlt))).bind λb hb=>.cond (λh=>?_) λh=>?_
   ·refine .lft (.pure ⟨λ_ hh=>?_,λ_=>by omega⟩)
    simp_all
   ·rw[OX (by omega)]
    refine .cnt ⟨⟨k+1,rfl,hlt,λj s hj hs=>?_⟩,by grind⟩
    grind
  ·refine .lft (.pure ⟨λh=>by omega,λh=>(h λs hs=>?_).elim⟩)
   grind [aAM]
 refine Hs.bind (P:=λb=>(b=true↔¬ ∀ s∈l.Out,PH f.Slots.length s)) (key.bind λi hi=>.pure (by simp_all)) λb hb=>.pure ?_
 constructor
 ·intro h;have hb':b=false:=by simp_all
  refine⟨he,λs hs=>?_⟩
  simp_all
 ·intro h;have:¬ b=true:=λhbt=>hb.1 hbt h.2
  simp_all
theorem Asd (f:Mk) (l:Pg) (hl:l.Out.length<=maxLen) (hr:∀ s∈l.Out,s.length<=maxLen):Hs (AcE f l) λb=>(b=true↔QM f l.Out):=by
 have hm:maxLen<=9223372036854775807:=by decide
 refine .bne (λhne=>.pure ⟨λh=>(by cases h),λh=>(hne (by rw[h.1])).elim⟩) λhe=>?_
 have he:l.Out.length=f.Code.length:=by omega
 refine Hs.loop (λi=>∃ k:Nat,i=(k:Int)/\k<=l.Out.length/\∀ (j:Nat) s,j<k->l.Out[j]? =some s->PH f.Slots.length s) (λi=>l.Out.length-i.toNat) ⟨0,rfl,aAD _,λj s h=>absurd h (aAG _)⟩ ?_
 rintro _ ⟨k,rfl,hk,hall⟩;refine .dec (λhlt=>?_) λhge=>?_
 ·have hlt:k<l.Out.length:=by omega
  have hg:l.Out[k]? =some l.Out[k]:=aAA hlt;have hlen:=hr _ (aAF hlt);rw[Pq,hg,aA,AhZ _ (by omega),aA]
  have next:PH f.Slots.length l.Out[k]->Hs (cnt (R:=Bool) (IntKind.i64.wrap ((k:Int)+1))) (Rnd (λi:Int=>∃ k:Nat,i=(k:Int)/\k<=l.Out.length/\∀ (j:Nat) s,j<k->l.Out[j]? =some s->PH f.Slots.length s) (λi=>l.Out.length-i.toNat) (k:Int) λb=>(b=true↔QM f l.Out)):=by
   intro hset;rw[OX (by omega)]
   refine .cnt ⟨⟨k+1,rfl,hlt,λj s hj hs=>?_⟩,by grind⟩
   grind
  have stop:¬ PH f.Slots.length l.Out[k]->((false:Bool)=true↔QM f l.Out):=λhn=>⟨λh=>(by cases h),λh=>(hn (h.2 _ (aAF hlt))).elim⟩
  by_cases hc:TW none l.Out[k]=true
  ·have hset:=(AdQ _).1 hc;rw[hc];simp only[aAi,cond_false,aA];refine .dec (λhp=>?_) λhp=>?_
   ·have hi:l.Out[k].length-1<l.Out[k].length:=by omega
    have w:IntKind.i64.wrap ((l.Out[k].length:Int)-1)=((l.Out[k].length-1:Nat):Int):=by grind [wrap64]
    rw[w,Pq,aAA hi,aA];refine .dec (λh=>.lft (.pure (stop λhh=>?_))) λh=>next ⟨hset,ArK hset.1 (h:=hi) (by omega)⟩
    have:=hh.2 _ (aAF hi);omega
   grind [aAX,PH.nil]
  ·have hc':TW none l.Out[k]=false:=by simp_all
   rw[hc'];exact .lft (.pure (stop λh=>hc ((AdQ _).2 h.1)))
 ·refine .lft (.pure ⟨λ_=>⟨he,λs hs=>?_⟩,λ_=>rfl⟩)
  grind [aAM]
def Wm (f:Mk) (l:List (List Int)) (k:Int):List Int :=
 (Qa (OR f k) k).foldl (λo j=>Ro o ((inN (OR f j) (Pr l j)).filter λv=>!decide (v∈Pr l k))) []
theorem QM.at (h:QM f l) {j:Int} (h0:0<=j) (h1:j<f.Code.length):l[j.toNat]? =some (Pr l j)/\PH f.Slots.length (Pr l j):=by
 have hl:j.toNat<l.length:=by have:=h.1;omega
 have:l[j.toNat]? =some (Pr l j):=by grind [Pr]
 exact⟨this,h.2 _ (aAE this)⟩
theorem Pu.at (_h:Pu f) {j:Int} (h0:0<=j) (h1:j<f.Code.length):f.Code[j.toNat]? =some (OR f j)/\OR f j∈f.Code:=by
 grind [OR]
theorem Pu.AxK (h:Pu f) (hx:x∈f.Code):∀ v∈QE x,0<=v/\v<512:=λv hv=>by have:=h.uses x hx v hv;have:=h.slots;omega
theorem Amz (hf:Pu f) (hl:QM f l) {k j:Int} (_hk:0<=k/\k<f.Code.length) (hj:0<=j/\j<f.Code.length) {o:List Int} (ho:PH f.Slots.length o) :
  PH f.Slots.length (Ro o ((inN (OR f j) (Pr l j)).filter λv=>!decide (v∈Pr l k)))/\∀ v,v∈Ro o ((inN (OR f j) (Pr l j)).filter λv=>!decide (v∈Pr l k))↔v∈o\/(v∈inN (OR f j) (Pr l j)/\v∉Pr l k):=by
 have hsl:=hf.slots;obtain⟨g1,g2⟩:=Aec hf (hf.at hj.1 hj.2).2 (hl.at hj.1 hj.2).2;obtain⟨g3,g4⟩:=Vw (n:=f.Slots.length) (by omega) (b:=(inN (OR f j) (Pr l j)).filter λv=>!decide (v∈Pr l k)) ho λx hx=>⟨(g1.1.2 x (aAb.1 hx).1).1,g1.2 x (aAb.1 hx).1⟩
 exact⟨g3,λv=>by simp_all⟩
theorem Aqg {f:Mk} (hf:Pu f) {l:List (List Int)} (hl:QM f l) {k:Int} (hk:0<=k/\k<f.Code.length):∀ {js:List Int} {o:List Int},(∀ j∈js,0<=j/\j<f.Code.length)->PH f.Slots.length o ->
  PH f.Slots.length (js.foldl (λo j=>Ro o ((inN (OR f j) (Pr l j)).filter λv=>!decide (v∈Pr l k))) o)/\∀ v,v∈js.foldl (λo j=>Ro o ((inN (OR f j) (Pr l j)).filter λv=>!decide (v∈Pr l k))) o↔v∈o\/∃ j∈js,v∈inN (OR f j) (Pr l j)/\v∉Pr l k
 | [],o,_,ho=>⟨ho,λv=>by simp⟩
 | j::js,o,hj,ho=>by
  obtain⟨h1,h2⟩:=Amz hf hl hk (hj j (aAQ ..)) ho;obtain⟨h5,h6⟩:=Aqg hf hl hk (λq hq=>hj q (aAL _ hq)) h1
  grind
theorem ArP (hf:Pu f) (hl:QM f l) (hk:k<f.Code.length):PH f.Slots.length (Wm f l k)/\∀ v,v∈Wm f l k↔∃ j∈Qa (OR f k) k,v∈inN (OR f j) (Pr l j)/\v∉Pr l k:=by
 have hx:f.Code[k]? =some (OR f k):=by grind [OR]
 obtain⟨h1,h2⟩:=Aqg hf hl (k:=(k:Int)) ⟨by omega,by omega⟩ (hf.next k _ hx) (PH.nil _)
 grind [Wm]
theorem Ati (x:OP) (k:Int):(Qa x k).length<=2:=by grind [Qa]
theorem AtN (hf:Pu f) {l:Pg} (hl:QM f l.Out) (hk:k<f.Code.length):QK f k l [] l k=some (true,Wm f l.Out k):=by
 have hlen:=hf.len';have hx:f.Code[k]? =some (OR f k):=by grind [OR]
 have hn:=hf.next k _ hx;have h2:=Ati (OR f k) k;obtain⟨hk1,hk2⟩:=hl.at (j:=(k:Int)) (by omega) (by omega)
 simp only[aAB]at hk1;unfold QK;rw[Aoe hx (by omega),aA]
 have:=Rg (body:=λs:List Int×Int=>Qh (Qa (OR f k) k) f l l k s.1 s.2) (Qa (OR f k) k) (λ(o:List Int) i=>(o,i)) (λo _=>PH f.Slots.length o)
  (λo js=>some (true,js.foldl (λo j=>Ro o ((inN (OR f j) (Pr l.Out j)).filter λv=>!decide (v∈Pr l.Out k))) o))
  (λo _=>⟨_,by simp[Qh];rfl,by simp⟩) (λo i j r ho hd hi hj=>by
   left;have wi:=OX (show i<9223372036854775807 by omega)
   have hjm:=hn j (aAE hj);obtain⟨c1,c2⟩:=hf.at hjm.1 hjm.2;obtain⟨o1,o2⟩:=hl.at hjm.1 hjm.2;obtain⟨g1,g2⟩:=Amz hf hl (k:=(k:Int)) ⟨by omega,by omega⟩ hjm ho
   obtain⟨s1,s2⟩:=Aec hf c2 o2;have hsl:=hf.slots;have e1:=Auw o2.1 (hf.AxK c2);have e2:=AsB s1.1 hk2.1;have e3:=Agl ho.1 (b:=(inN (OR f j) (Pr l.Out j)).filter λv=>!decide (v∈Pr l.Out k)) (λx hx=>by have:=s1.1.2 x (aAb.1 hx).1;exact this) (by have:=(s1.1.filter λv=>!decide (v∈Pr l.Out k)).length_le;omega)
   obtain⟨_,hje⟩:=aAC.1 hj;refine⟨_,g1,?_,rfl⟩
   simp_all[Qh,Wl,Tu,QU]) [] (PH.nil _)
 exact this
theorem AsS (hf:Pu f) {l:Pg} (hl:QM f l.Out) (hk:k<f.Code.length):ZA f l k=some (Wm f l.Out k):=by
 have hlen:=hf.len';have hx:f.Code[k]? =some (OR f k):=by grind [OR]
 have hn:=hf.next k _ hx;have h2:=Ati (OR f k) k;obtain⟨hk1,hk2⟩:=hl.at (j:=(k:Int)) (by omega) (by omega)
 simp only[aAB]at hk1;unfold ZA;rw[Asa hx (by omega),aA]
 have:=Rg (body:=λs:List Int×Int=>Uk (Qa (OR f k) k) f l k s.1 s.2) (Qa (OR f k) k) (λ(o:List Int) i=>(o,i)) (λo _=>PH f.Slots.length o)
  (λo js=>some (js.foldl (λo j=>Ro o ((inN (OR f j) (Pr l.Out j)).filter λv=>!decide (v∈Pr l.Out k))) o))
  (λo _=>⟨_,by simp[Uk];rfl,by simp⟩) (λo i j r ho hd hi hj=>by
   left;have wi:=OX (show i<9223372036854775807 by omega)
   have hjm:=hn j (aAE hj);obtain⟨c1,c2⟩:=hf.at hjm.1 hjm.2;obtain⟨o1,o2⟩:=hl.at hjm.1 hjm.2;obtain⟨g1,g2⟩:=Amz hf hl (k:=(k:Int)) ⟨by omega,by omega⟩ hjm ho
   obtain⟨s1,s2⟩:=Aec hf c2 o2;have hsl:=hf.slots;have e1:=Awr (OR f j) (Pr l.Out j) (by have:=o2.1.length_le;omega)
   have e2:=Avb (inN (OR f j) (Pr l.Out j)) (Pr l.Out k) (by have:=s1.1.length_le;omega) (by have:=hk2.1.length_le;omega)
   have e3:=union_eq o ((inN (OR f j) (Pr l.Out j)).filter λv=>!decide (v∈Pr l.Out k)) (by have:=(s1.1.filter λv=>!decide (v∈Pr l.Out k)).length_le;have:=ho.1.length_le;omega)
   obtain⟨_,hje⟩:=aAC.1 hj;refine⟨_,g1,?_,rfl⟩
   simp_all[Uk,QU]) [] (PH.nil _)
 exact this
def AhR (f:Mk) (l:List (List Int)) (r:Int×Int×Bool):Prop :=
 (QM f l/\∃ (k:Nat) (v:Int),k<f.Code.length/\(∀ j:Nat,j<k->Wm f l j=[])/\(Wm f l k)[0]? =some v/\r=((k:Int),v,true)) \/
 ((QM f l->∀ j:Nat,j<f.Code.length->Wm f l j=[])/\r=(0,0,false))
theorem AhR.unique {r q:Int×Int×Bool} (h:AhR f l r) (k:AhR f l q):r=q:=by
 rcases h with⟨h0,i,v,h1,h2,h3,rfl⟩|⟨h1,rfl⟩<;>rcases k with⟨k0,j,u,k1,k2,k3,rfl⟩|⟨k1,rfl⟩
 all_goals grind
def Acc (f:Mk) (l:List (List Int)):Prop:=QM f l/\∀ j:Nat,j<f.Code.length->Wm f l j=[]
theorem AhR.acc {r:Int×Int×Bool} (h:AhR f l r) (hl:QM f l):r.2.2=false↔Acc f l:=by
 rcases h with⟨h0,i,v,h1,h2,h3,rfl⟩|⟨h1,rfl⟩
 ·exact⟨λh=>(by cases h),λh=>by rw[h.2 i h1]at h3;cases h3⟩
 ·exact⟨λ_=>⟨hl,h1 hl⟩,λ_=>rfl⟩
def AhA (l:List (List Int)):Prop:=l.length<=maxLen/\∀ s∈l,s.length<=maxLen
theorem AvL (hf:Pu f) {l:Pg} (hl:AhA l.Out):Hs (Aaw f l) (AhR f l.Out):=by
 have hlen:=hf.len';refine(Aqa f l hl.1 hl.2).bind λb hb=>.cond (λh=>?_) λh=>?_
 ·have hb':¬ b=true:=by simp_all
  exact .pure (.inr ⟨λhh=>(hb' (hb.2 hh)).elim,rfl⟩)
 ·have hb':b=true:=by simp_all
  have hok:=hb.1 hb';refine Hs.loop (λi=>∃ k:Nat,i=(k:Int)/\k<=f.Code.length/\∀ j:Nat,j<k->Wm f l.Out j=[]) (λi=>f.Code.length-i.toNat) ⟨0,rfl,aAD _,λj h=>absurd h (aAG _)⟩ ?_
  rintro _ ⟨k,rfl,hk,hall⟩;refine .dec (λhlt=>?_) λhge=>?_
  ·have hlt:k<f.Code.length:=by omega
   rw[show AbA l=some l from rfl,aA,AtN hf hok hlt,aA]
   refine .dec (λhp=>?_) λhp=>?_
   ·have hp:0<(Wm f l.Out k).length:=by simp_all
    simp only[AvP];have hg:(Wm f l.Out k)[0]? =some ((Wm f l.Out k)[0]):=aAA hp;rw[hg,aA];exact .lft (.pure (.inl ⟨hok,k,_,hlt,hall,hg,rfl⟩))
   ·rw[OX (by omega)]
    refine .cnt ⟨⟨k+1,rfl,hlt,λj hj=>?_⟩,by grind⟩
    grind [aAX]
  ·exact .lft (.pure (.inr ⟨λ_ j hj=>hall j (by omega),rfl⟩))
theorem Ava (hf:Pu f) {l:Pg} (hl:AhA l.Out):Hs (Agr f l) (AhR f l.Out):=by
 have hlen:=hf.len';refine(Asd f l hl.1 hl.2).bind λb hb=>.cond (λh=>?_) λh=>?_
 ·have hb':¬ b=true:=by simp_all
  exact .pure (.inr ⟨λhh=>(hb' (hb.2 hh)).elim,rfl⟩)
 ·have hb':b=true:=by simp_all
  have hok:=hb.1 hb';refine Hs.loop (λi=>∃ k:Nat,i=(k:Int)/\k<=f.Code.length/\∀ j:Nat,j<k->Wm f l.Out j=[]) (λi=>f.Code.length-i.toNat) ⟨0,rfl,aAD _,λj h=>absurd h (aAG _)⟩ ?_
  rintro _ ⟨k,rfl,hk,hall⟩;refine .dec (λhlt=>?_) λhge=>?_
  ·have hlt:k<f.Code.length:=by omega
   rw[AsS hf hok hlt,aA];refine .dec (λhp=>?_) λhp=>?_
   ·have hp:0<(Wm f l.Out k).length:=by omega
    refine .chk (by omega) ?_
    have hg:(Wm f l.Out k)[0]? =some ((Wm f l.Out k)[0]):=aAA hp;rw[show(0:Int).toNat=0 from rfl,hg,aA]
    exact .lft (.pure (.inl ⟨hok,k,_,hlt,hall,hg,rfl⟩))
   ·rw[OX (by omega)]
    refine .cnt ⟨⟨k+1,rfl,hlt,λj hj=>?_⟩,by grind⟩
    grind [aAX]
  ·exact .lft (.pure (.inr ⟨λ_ j hj=>hall j (by omega),rfl⟩))
theorem Arl (hf:Pu f) {l:Pg} (hl:AhA l.Out):Hs (Xm f l) λe=>(e=0\/e=11)/\(e=0↔Acc f l.Out):=by
 refine(Aqa f l hl.1 hl.2).bind λb hb=>.cond (λh=>?_) λh=>?_
 ·have hb':¬ b=true:=by simp_all
  exact .pure ⟨.inr rfl,λh=>by omega,λh=>(hb' (hb.2 h.1)).elim⟩
 ·have hb':b=true:=by simp_all
  refine(AvL hf hl).bind λr hr=>.cond (λh=>.pure ⟨.inr rfl,λh=>by omega,λh'=>?_⟩) λh=>.pure ⟨.inl rfl,λ_=>(hr.acc (hb.1 hb')).1 h,λ_=>rfl⟩
  rw[(hr.acc h'.1).2 h']at h;cases h
theorem AuX (hf:Pu f) {l:Pg} (hl:AhA l.Out):Hs (Agq f l) λe=>(e=0\/e=11)/\(e=0↔Acc f l.Out):=by
 refine(Ava hf hl).bind λr hr=>.cond (λh=>.pure ⟨.inr rfl,λh=>by omega,λh'=>?_⟩) λh=>?_
 ·rw[(hr.acc h'.1).2 h']at h;cases h
 ·refine(Asd f l hl.1 hl.2).bind λb hb=>.cond (λh=>?_) λh2=>?_
  ·have hb':¬ b=true:=by simp_all
   exact .pure ⟨.inr rfl,λh=>by omega,λh=>(hb' (hb.2 h.1)).elim⟩
  ·have hb':b=true:=by simp_all
   exact .pure ⟨.inl rfl,λ_=>(hr.acc (hb.1 hb')).1 h,λ_=>rfl⟩
theorem QM.len (hf:Pu f) (h:QM f l):AhA l:=by
 have hm:(100000:Nat)<=maxLen:=by decide
 have:=hf.len';have:=h.1;exact⟨by omega,λs hs=>by have:=(h.2 s hs).1.length_le;omega⟩
theorem Aww (hf:Pu f) (hl:QM f l):Acc f l↔LE (SO f l) l:=by
 constructor
 ·rintro⟨_,h⟩ k s t hs ht v hv;have hk:k<f.Code.length:=by have:=(aAC.1 ht).1;have:=hl.1;omega
  have e1:s=QB f l k:=by grind [SO]
  have e2:t=Pr l k:=by grind [Pr]
  subst e1 e2;rw[(Ux hf hl hk).2]at hv;obtain⟨j,hj,hv⟩:=hv;refine aAl λhn=>?_
  have:v∈Wm f l k:=((ArP hf hl hk).2 v).2 ⟨j,hj,hv,hn⟩;simp_all
 ·intro h;refine⟨hl,λk hk=>?_⟩
  refine List.eq_nil_iff_forall_not_mem.2 λv hv=>?_
  obtain⟨j,hj,h1,h2⟩:=((ArP hf hl hk).2 v).1 hv;refine h2 (h k (QB f l k) (Pr l k) (by grind [SO]) ?_ v (((Ux hf hl hk).2 v).2 ⟨j,hj,h1⟩))
  have:=(hl.at (j:=(k:Int)) (by omega) (by omega)).1
  simp_all
theorem Yn.acc (hf:Pu f) (h:Yn f l):Acc f l:=by
 rw[Aww hf h.ok,h.fix];intro k s t hs ht v hv;simp_all
def I64 (v:Int):Prop:=-9223372036854775808<=v/\v<=9223372036854775807
def AqW (l:List (List Int)):Prop:=∀ s∈l,s.length<=512/\∀ v∈s,I64 v
def AlT (l:List (List Int)):Prop:=∀ s∈l,PV s
theorem AlT.rows (h:AlT l):AqW l:=λs hs=>⟨(h s hs).length_le,λv hv=>by have:=(h s hs).2 v hv;grind [I64]⟩
theorem AlT.set (h:AlT l) (hs:PV s):AlT (l.set k s):=by
 intro t ht;rcases aAS ht with h1|rfl
 ·exact h t h1
 ·exact hs
theorem PV.add (h:PV s) (n:Int):PV (VG n s):=by
 unfold VG;split
 ·exact h.XT (by assumption)
 ·exact h
theorem AqW.len (hf:Pu f) (h1:l.length<=f.Code.length) (h2:AqW l):AhA l:=by
 have hm:(100000:Nat)<=maxLen:=by decide
 have:=hf.len';exact⟨by omega,λs hs=>by have:=(h2 s hs).1;omega⟩
def Ajy (x:OP):Int×Bool:=if x.Op=16\/x.Op=17 then(x.A,true)else(0,false)
theorem Anb (x:OP):Tb x=some (Ajy x):=by
 grind [Tb,SM,Ajy]
def RW (f:Mk):Prop:=∀ x∈f.Code,(x.Op=16\/x.Op=17)->0<=x.A/\x.A<f.Slots.length
theorem SC.defs {i:Int} (h:SC ps i most f):RW f:=by
 intro x hx hop;obtain⟨k,hk⟩:=aAM hx;have hkl:=(aAC.1 hk).1
 by_cases hk1:k+1<f.Code.length
 ·have hins:=h.body k x hk hk1;cases hins with
  | store a b h0 h1 h2=>simp_all
  | move a b h0 h1 h2=>exact⟨h0.1,h0.2.1⟩
  | bin op a b c h1 h2 h3 h4 h5 h6=>grind
  | un op a h1 h2=>grind
  | _=>simp at hop
 ·have he:=h.last x (by grind)
  rcases he with rfl|⟨w,_,rfl⟩<;>simp at hop
def Rm (x:OP) (v:Int):Bool:=x.Op==17&&x.B==v
def Ri (_:OP) (_:Int):Bool:=false
def AqT (mv:OP->Int->Bool) (f:Mk) (l:List (List Int)) (k:Nat) (a v:Int):Prop :=
 a=(OR f k).A/\((OR f k).Op=16\/(OR f k).Op=17)/\¬ ((OR f k).Op=17/\(OR f k).A=(OR f k).B)/\v∈Pr l k/\v≠a/\mv (OR f k) v=false
def Wp (mv:OP->Int->Bool) (f:Mk) (l:List (List Int)) (k:Nat) (a v:Int):Prop:=∃ j<k,AqT mv f l j a v
def Ed (mv:OP->Int->Bool) (f:Mk) (l:List (List Int)) (a v:Int):Prop:=Wp mv f l f.Code.length a v
def AbW (mv:OP->Int->Bool) (f:Mk) (l:List (List Int)) (k i:Nat) (a v:Int):Prop :=
 Wp mv f l k a v\/(a=(OR f k).A/\v∈(Pr l k).take i/\v≠a/\mv (OR f k) v=false)
theorem ApY:Wp mv f l (k+1) a v↔Wp mv f l k a v\/AqT mv f l k a v:=by
 constructor
 ·rintro⟨j,hj,h⟩
  by_cases e:j=k
  ·simp_all
  ·exact .inl ⟨j,by omega,h⟩
 ·rintro(⟨j,hj,h⟩|h)
  ·exact⟨j,by omega,h⟩
  ·exact⟨k,by omega,h⟩
theorem Amm:AbW mv f l k 0 a v↔Wp mv f l k a v:=by simp[AbW]
theorem AnY (h1:(OR f k).Op=16\/(OR f k).Op=17) (h2:¬ ((OR f k).Op=17/\(OR f k).A=(OR f k).B)) :
  AbW mv f l k (Pr l k).length a v↔Wp mv f l (k+1) a v:=by
 grind [ApY,AbW,AqT]
theorem AiT {x:Int} (hx:(Pr l k)[i]? =some x) :
  AbW mv f l k (i+1) a v↔AbW mv f l k i a v\/(a=(OR f k).A/\v=x/\x≠a/\mv (OR f k) x=false):=by
 grind [aAP,AbW]
theorem AdY (h:((OR f k).Op≠16/\(OR f k).Op≠17)\/((OR f k).Op=17/\(OR f k).A=(OR f k).B)) :
  Wp mv f l (k+1) a v↔Wp mv f l k a v:=by
 rw[ApY];constructor
 ·rintro(h1|⟨_,h2,h3,_⟩)
  all_goals omega
 simp_all
theorem Aml {x:Int} (hx:(Pr l k)[i]? =some x) (h:x=(OR f k).A\/mv (OR f k) x=true) :
  AbW mv f l k (i+1) a v↔AbW mv f l k i a v:=by
 grind [AiT]
def AcM (m:List (List Bool)) (a v:Nat):Bool:=(((m[a]?).getD [])[v]?).getD false
def TF (n:Nat) (m:List (List Bool)) (P:Int->Int->Prop):Prop :=
 m.length=n/\(∀ row∈m,row.length=n)/\∀ a v:Nat,a<n->v<n->(AcM m a v=true↔P a v\/P v a)
theorem TF.congr {n:Nat} {P Q:Int->Int->Prop} (h:TF n m P) (hq:∀ a v,Q a v↔P a v):TF n m Q :=
 ⟨h.1,h.2.1,λa v ha hv=>by rw[h.2.2 a v ha hv,hq,hq]⟩
theorem ApW {n:Nat} (hl:m.length=n) {d:Nat} (hd:d<n) (r:List Bool) (a v:Nat):AcM (m.set d r) a v=if a=d then(r[v]?).getD false else AcM m a v:=by
 unfold AcM
 grind
theorem ArE {n:Nat} {r:List Bool} (hl:r.length=n) {v:Nat} (hv:v<n) (b:Nat):((r.set v true)[b]?).getD false=if b=v then true else(r[b]?).getD false:=by
 grind
theorem TF.set {n:Nat} {P:Int->Int->Prop} (h:TF n m P) {d v:Nat} {r1 r2:List Bool} (hd:d<n) (hv:v<n) (hne:d≠v) (h1:m[d]? =some r1) (h2:m[v]? =some r2) :
  TF n ((m.set d (r1.set v true)).set v (r2.set d true)) (λa b=>P a b\/(a=d/\b=v)):=by
 obtain⟨hl,hr,hc⟩:=h;have l1:=hr _ (aAE h1);have l2:=hr _ (aAE h2);refine⟨by simp[hl],λrow hrow=>?_,λa b ha hb=>?_⟩
 ·grind
 ·rw[ApW (n:=n) (by simp[hl]) hv,ApW hl hd,ArE l2 hd,ArE l1 hv]
  have e1:(r1[b]?).getD false=AcM m d b:=by grind [AcM]
  have e2:(r2[b]?).getD false=AcM m v b:=by grind [AcM]
  grind
def PX (n:Nat) (out:List (List Int)) (Q:Nat->Int->Prop):Prop:=out.length=n/\∀ (a:Nat) s,out[a]? =some s->PH n s/\∀ v,v∈s↔Q a v
theorem PX.congr {n:Nat} {out:List (List Int)} {P:Nat->Int->Prop} (h:PX n out P) (hq:∀ a v,a<n->(Q a v↔P a v)):PX n out Q :=
 ⟨h.1,λa s hs=>⟨(h.2 a s hs).1,λv=>by rw[(h.2 a s hs).2 v,hq a v (by have:=(aAC.1 hs).1;have:=h.1;omega)]⟩⟩
theorem PX.ext {n:Nat} {o1 o2:List (List Int)} (h1:PX n o1 Q) (h2:PX n o2 Q):o1=o2:=by
 apply aAZ;intro a
 by_cases ha:a<n
 ·have e1:o1[a]? =some (o1[a]'(by have:=h1.1;omega)):=aAA _
  have e2:o2[a]? =some (o2[a]'(by have:=h2.1;omega)):=aAA _
  rw[e1,e2,(h1.2 a _ e1).1.1.ext (h2.2 a _ e2).1.1 λv=>by rw[(h1.2 a _ e1).2 v,(h2.2 a _ e2).2 v]]
 ·rw[aAJ (by have:=h1.1;omega),aAJ (by have:=h2.1;omega)]
theorem PX.nil (n:Nat) (hq:∀ a v,¬ Q a v):PX n (aAe n []) Q :=
 ⟨by simp,λa s hs=>by
  grind [PH.nil]⟩
theorem PX.set {n:Nat} {out:List (List Int)} {P:Nat->Int->Prop} (h:PX n out P) {d:Nat} (hd:d<n) (hs:PH n s) (h1:∀ v,v∈s↔Q d v) (h2:∀ a v,a≠d->(Q a v↔P a v)):PX n (out.set d s) Q:=by
 refine⟨by simp[h.1],λa t ht=>?_⟩
 by_cases e:a=d
 ·grind
 ·rw[aAN (λh=>e h.symm)]at ht
  exact⟨(h.2 a t ht).1,λv=>by rw[(h.2 a t ht).2 v,h2 a v e]⟩
def SV (mv:OP->Int->Bool) (f:Mk) (l:List (List Int)) (r:List (List Int)×Int):Prop :=
 (r.2=0/\Acc f l/\PX f.Slots.length r.1 λa v=>Ed mv f l a v\/Ed mv f l v a)\/(r.2=11/\¬ Acc f l/\r.1=[])
theorem SV.unique {r q:List (List Int)×Int} (h:SV mv f l r) (k:SV mv f l q):r=q:=by
 obtain⟨r1,r2⟩:=r;obtain⟨q1,q2⟩:=q;rcases h with⟨h1,h2,h3⟩|⟨h1,h2,h3⟩<;>rcases k with⟨k1,k2,k3⟩|⟨k1,k2,k3⟩
 ·simp only at h1 k1 h3 k3;rw[h1,k1,h3.ext k3]
 all_goals simp_all
def Pd (to:List Int) (s:Int):Int:=(to[s.toNat]?).getD 0
def Sk (f:Mk) (s:Int):Int:=((f.Slots[s.toNat]?).map Pa.Size).getD 0
def AhU (f:Mk) (to:List Int):Prop :=
 to.length=f.Slots.length/\∀ s:Nat,s<to.length->0<=Pd to s/\Pd to s<to.length/\Sk f (Pd to s)=Sk f s/\Pd to (Pd to s)=Pd to s
theorem Qv {s:Int} (h0:0<=s) (h:s<to.length):to[s.toNat]? =some (Pd to s):=by
 grind [Pd]
theorem AhG {s:Int} {x:Pa} (h:f.Slots[s.toNat]? =some x):x.Size=Sk f s:=by
 simp[Sk,h]
def Pt (keep:List Bool) (k:Nat):Bool:=(keep[k]?).getD true
def XF (f:Mk) (r:Pl):Prop :=
 AhU f r.To/\r.Keep.length=f.Code.length/\∀ k:Nat,k<f.Code.length->Pt r.Keep k=false->(OR f k).Op=16\/(OR f k).Op=17
theorem Ayb {n:Nat} {out:List (List Int)} {P:Int->Int->Prop} (hs:PX n out λa v=>P a v\/P v a) (hn:n<=500) {d y:Nat} (hd:d<n) (hy:y<n) (hne:d≠y) (t:Bool) (hi:i<1000000) (p q r s:Bool) :
  ∃ out',Tp ((d:Int),t) out (y:Int) (i:Int) p q r s=some (.inl (out',((i+1:Nat):Int)))/\PX n out' λa v=>(P a v\/((a:Int)=d/\v=y))\/(P v a\/(v=d/\(a:Int)=y)):=by
 have e1:out[d]? =some (out[d]'(by have:=hs.1;omega)):=aAA _
 have e2:out[y]? =some (out[y]'(by have:=hs.1;omega)):=aAA _
 generalize out[d]'(by grind)=sd at e1
 generalize out[y]'(by grind)=sy at e2
 have q1:=hs.2 d _ e1;have q2:=hs.2 y _ e2;have a1:=q1.1.add (m:=(y:Int)) (by omega) (by omega)
 have a2:=q2.1.add (m:=(d:Int)) (by omega) (by omega)
 have m1:=(PH.AqY (m:=(y:Int)) q1.1 (by omega) (by omega)).2.2
 have m2:=(PH.AqY (m:=(d:Int)) q2.1 (by omega) (by omega)).2.2
 have e3:(out.set d (VG y sd))[y]? =some sy:=by simp_all
 have hl:=hs.1;have h1:0<=(d:Int)/\(d:Int)<out.length:=by omega
 have h2:0<=(y:Int)/\(y:Int)<out.length:=by omega
 have h3:0<=(y:Int)/\(y:Int)<(out.set d (VG y sd)).length:=by simp_all
 have w:=OX (show i<9223372036854775807 by omega)
 refine⟨(out.set d (VG y sd)).set y (VG d sy),by grind [Tp,aAB,PN,AwA],by simp[hl],λa s hs'=>?_⟩
 by_cases ea:a=y
 ·grind
 ·rw[aAN (λh=>ea h.symm)]at hs'
  by_cases ed:a=d
  ·grind
  ·rw[aAN (λh=>ed h.symm)]at hs'
   refine⟨(hs.2 a s hs').1,λv=>?_⟩
   rw[(hs.2 a s hs').2 v]
   grind
def AqU (mv:OP->Int->Bool) (f:Mk) (l:List (List Int)) (s:List (List Int)×Int):Prop :=
 ∃ k:Nat,s.2=(k:Int)/\k<=f.Code.length/\PX f.Slots.length s.1 λa v=>Wp mv f l k a v\/Wp mv f l k v a
def Atp (mv:OP->Int->Bool) (f:Mk) (l:List (List Int)) (k:Nat) (s:List (List Int)×Int):Prop :=
 ∃ i:Nat,s.2=(i:Int)/\i<=(Pr l k).length/\PX f.Slots.length s.1 λa v=>AbW mv f l k i a v\/AbW mv f l k i v a
theorem AmO (hf:Pu f) (hd:RW f) {l:Pg} (hl:AhA l.Out) (b:Bool):Hs (AcG f l b) (SV (bif b then Ri else Rm) f l.Out):=by
 have hlen:=hf.len';have hsl:=hf.slots;refine(AuX hf hl).bind λe he=>.bne (λh=>.pure (.inr ⟨he.1.resolve_left h,λha=>h (he.2.2 ha),rfl⟩)) λh=>?_
 have hacc:Acc f l.Out:=he.2.1 h;refine .chk (by omega) ?_
 generalize hmv:(bif b then Ri else Rm)=mv
 refine Hs.loop (AqU mv f l.Out) (λs=>f.Code.length-s.2.toNat) ⟨0,rfl,aAD _,?_⟩ ?_
 ·exact PX.nil _ λa v h=>by rcases h with⟨j,hj,_⟩|⟨j,hj,_⟩<;>omega
 rintro⟨out,_⟩ ⟨k,rfl,hk,hs⟩;refine .dec (λhlt=>?_) λhge=>.lft (.pure (.inl ⟨rfl,hacc,?_⟩))
 ·have hlt:k<f.Code.length:=by omega
  have hx:=hf.at (j:=(k:Int)) (by omega) (by omega)
  rw[aAB]at hx;have hrow:=hacc.1.at (j:=(k:Int)) (by omega) (by omega)
  rw[aAB]at hrow;simp only[Pq,hx.1,aA,Anb];have next:∀ out',(PX f.Slots.length out' λa v=>Wp mv f l.Out (k+1) a v\/Wp mv f l.Out (k+1) v a)->∀ a b c d e,Hs (Un (k:Int) a b c d e out') (Rnd (AqU mv f l.Out) (λs=>f.Code.length-s.2.toNat) (out,(k:Int)) (SV mv f l.Out)):=by
   intro out' h' a b c d e;unfold Un;rw[OX (by omega)]
   exact .cnt ⟨⟨k+1,rfl,hlt,h'⟩,by grind⟩
  have inner:¬ ((OR f k).Op=17/\(OR f k).A=(OR f k).B)->Hs (YM l (k:Int) (Ajy (OR f k)) b (OR f k) out) (Rnd (AqU mv f l.Out) (λs=>f.Code.length-s.2.toNat) (out,(k:Int)) (SV mv f l.Out)):=by
   intro hnm
   by_cases hdef:(OR f k).Op=16\/(OR f k).Op=17
   ·have hdn:Ajy (OR f k)=((OR f k).A,true):=if_pos hdef;have hA:=hd _ hx.2 hdef;rw[hdn];have hlo:=hrow.2.1.length_le;refine Hs.loop (Atp mv f l.Out k) (λs=>(Pr l.Out k).length-s.2.toNat) ⟨0,rfl,aAD _,hs.congr λa v _=>by grind [Amm]⟩ ?_
    rintro⟨out2,_⟩ ⟨i,rfl,hi,hs2⟩;unfold YL;simp only[Pq,hrow.1,aA];refine .dec (λhlt2=>?_) λhge2=>.lft (next _ (hs2.congr λa v _=>?_) _ _ _ _ _)
    ·have hlt2:i<(Pr l.Out k).length:=by omega
     have hgx:(Pr l.Out k)[i]? =some (Pr l.Out k)[i]:=aAA _;have hxm:=aAF hlt2;generalize(Pr l.Out k)[i]=x at hgx hxm;have hx0:=hrow.2.1.2 x hxm;have hxn:=hrow.2.2 x hxm;unfold AbI;simp only[Pq,hrow.1,hgx,aA];have skip:x=(OR f k).A\/mv (OR f k) x=true->Hs (cnt (out2,IntKind.i64.wrap ((i:Int)+1))) (Rnd (Atp mv f l.Out k) (λs=>(Pr l.Out k).length-s.2.toNat) (out2,(i:Int)) (Rnd (AqU mv f l.Out) (λs=>f.Code.length-s.2.toNat) (out,(k:Int)) (SV mv f l.Out))):=by
      intro hh;rw[OX (by omega)]
      exact .cnt ⟨⟨i+1,rfl,hlt2,hs2.congr λa v _=>by grind [Aml]⟩,by grind⟩
     have add:x≠(OR f k).A->mv (OR f k) x=false->∀ p q r s,Hs (Tp ((OR f k).A,true) out2 x (i:Int) p q r s) (Rnd (Atp mv f l.Out k) (λs=>(Pr l.Out k).length-s.2.toNat) (out2,(i:Int)) (Rnd (AqU mv f l.Out) (λs=>f.Code.length-s.2.toNat) (out,(k:Int)) (SV mv f l.Out))):=by
      intro hne hmf p q r s;obtain⟨d,hde⟩:∃ d:Nat,(OR f k).A=(d:Int):=⟨_,(aAW hA.1).symm⟩;obtain⟨y,rfl⟩:∃ y:Nat,x=(y:Int):=⟨_,(aAW hx0.1).symm⟩;obtain⟨out',h1,h2⟩:=Ayb (P:=AbW mv f l.Out k i) hs2 (by omega) (d:=d) (y:=y) (by omega) (by omega) (by omega) true (i:=i) (by omega) p q r s
      rw[hde,h1];refine .pure ⟨⟨i+1,rfl,hlt2,h2.congr λa v _=>?_⟩,by grind⟩
      grind [AiT]
     refine .beq (λh=>skip (.inl h)) λhne=>?_
     subst hmv;cases b
     ·simp only[aAp,cond_true,cond_false] 
      grind [Rm]
     ·simp only[aAi,cond_true,cond_false] ;exact add hne rfl _ _ _ _
    grind [AnY]
   ·have hdn:Ajy (OR f k)=(0,false):=if_neg hdef;rw[hdn];have hs':=hs.congr (Q:=λa v=>Wp mv f l.Out (k+1) a v\/Wp mv f l.Out (k+1) v a) λa v _=>by grind [AdY]
    refine Hs.loop (λs=>s=(out,0)) (λ_=>0) rfl ?_
    rintro _ rfl;unfold YL;simp only[Pq,hrow.1,aA,cond_false];exact .dec (λ_=>.lft (next _ hs' _ _ _ _ _)) λ_=>.lft (next _ hs' _ _ _ _ _)
  refine .beq (λh17=>.beq (λhab=>next _ ?_ _ _ _ _ _) λhab=>inner λhh=>hab hh.2) λh17=>inner λhh=>h17 hh.1
  simp_all[AdY]
 ·have hk:k=f.Code.length:=by omega
  subst hk;exact hs
def Acv (f:Mk):Prop:=∀ x∈f.Code,x.Op=17->0<=x.A/\x.A<f.Slots.length/\0<=x.B/\x.B<f.Slots.length/\Sk f x.A=Sk f x.B
theorem SC.AxW {i:Int} (h:SC ps i most f):Acv f:=by
 intro x hx hop;obtain⟨k,hk⟩:=aAM hx;have hkl:=(aAC.1 hk).1
 by_cases hk1:k+1<f.Code.length
 ·have hins:=h.body k x hk hk1;cases hins with
  | move a b h0 h1 h2 =>
   obtain⟨q0,q1,x,y,e1,e2,e3⟩:=h0
   grind [Sk]
  | bin op a b c h1 h2 h3 h4 h5 h6=>simp_all
  | un op a h1 h2=>simp_all
  | _=>simp at hop
 ·have he:=h.last x (by grind)
  rcases he with rfl|⟨w,_,rfl⟩<;>simp at hop
def AoB (f:Mk) (out:List Po):Prop:=∀ p∈out,∃ x∈f.Code,x.Op=17/\p=⟨x.A,x.B⟩
theorem ApT (hlen:f.Code.length<=10000):Hs (XU f) λout=>out.length<=10000/\AoB f out:=by
 unfold XU;refine Hs.loop (λs=>∃ k:Nat,s.2=(k:Int)/\k<=f.Code.length/\s.1.length<=k/\AoB f s.1) (λs=>f.Code.length-s.2.toNat) ⟨0,rfl,aAD _,aAY _,λp hp=>by cases hp⟩ ?_
 rintro⟨out,_⟩ ⟨k,rfl,hk,hol,hmv⟩;replace hol:out.length<=k:=hol;replace hmv:AoB f out:=hmv;unfold RJ;refine .dec (λhlt=>?_) λhge=>.lft (.pure ⟨show out.length<=10000 by omega,hmv⟩)
 have hlt:k<f.Code.length:=by omega
 have hx:f.Code[k]? =some f.Code[k]:=aAA _;have hxm:=aAF hlt;generalize f.Code[k]=x at hx hxm;simp only[Pq,hx,aA];have j3:∀ old:Bool,(old=false->x.Op=17)->Hs (VE out x (k:Int) old) (Rnd (λs:List Po×Int=>∃ k:Nat,s.2=(k:Int)/\k<=f.Code.length/\s.1.length<=k/\AoB f s.1) (λs=>f.Code.length-s.2.toNat) (out,(k:Int)) λout=>out.length<=10000/\AoB f out):=by
  intro old hold;refine Hs.loop (λs=>∃ i:Nat,s.2=(i:Int)/\i<=out.length/\(s.1=false->x.Op=17)) (λs=>out.length-s.2.toNat) ⟨0,rfl,aAD _,hold⟩ ?_
  rintro⟨old,_⟩ ⟨i,rfl,hi,hold⟩;refine .dec (λhlt2=>?_) λ_=>.lft ?_
  ·have hlt2:i<out.length:=by omega
   have hg:out[i]? =some out[i]:=aAA _;simp only[aAB];rw[OX (by omega)]
   refine .cond (λh=>.cnt ⟨⟨i+1,rfl,hlt2,λh'=>(by cases h')⟩,by grind⟩) λh=>.chk (by omega) ?_
   rw[hg,aA];exact .cnt ⟨⟨i+1,rfl,hlt2,λ_=>hold h⟩,by grind⟩
  ·unfold Um;rw[OX (by omega)]
   refine .cond (λh=>.chk (by simp;omega) (.cnt ⟨⟨k+1,rfl,hlt,by simp;omega,λp hp=>?_⟩,by grind⟩)) λ_=>.cnt ⟨⟨k+1,rfl,hlt,by grind,hmv⟩,by grind⟩
   rcases aAK.1 hp with hp|hp
   ·exact hmv p hp
   grind
 grind
theorem AhM (hl:to.length<=500) (s:Int):Hs (WS to s) λl=>l.length<=to.length/\∀ t,t∈l↔∃ j:Nat,j<to.length/\t=(j:Int)/\Pd to j=s:=by
 refine Hs.loop (λz=>∃ k:Nat,z.2=(k:Int)/\k<=to.length/\z.1.length<=k/\∀ t,t∈z.1↔∃ j:Nat,j<k/\t=(j:Int)/\Pd to j=s) (λz=>to.length-z.2.toNat) ⟨0,rfl,aAD _,aAY _,λt=>⟨λh=>(by cases h),λ⟨j,h,_⟩=>absurd h (aAG _)⟩⟩ ?_
 rintro⟨l,_⟩ ⟨k,rfl,hk,hll,hm⟩;replace hll:l.length<=k:=hll;refine .dec (λhlt=>?_) λhge=>.lft (.pure ?_)
 ·have hlt:k<to.length:=by omega
  have hg:=Qv (to:=to) (s:=(k:Int)) (by omega) (by omega)
  rw[aAB]at hg;simp only[Pq,hg,aA];rw[OX (by omega)]
  refine .beq (λh=>.chk (by simp;omega) (.cnt ⟨⟨k+1,rfl,hlt,by simp;omega,λt=>?_⟩,by grind⟩)) λh=>.cnt ⟨⟨k+1,rfl,hlt,by grind,λt=>?_⟩,by grind⟩
  all_goals grind
 ·have hk:k=to.length:=by omega
  subst hk;exact⟨hll,hm⟩
def SY (g:List (List Int)) (to:List Int) (a b:Int):Prop:=∀ (x y:Nat) row,x<to.length->y<to.length->Pd to x=a->Pd to y=b->g[x]? =some row->(y:Int)∉row
theorem Avz {n:Nat} (hg:PX n g Q) (htn:to.length=n) (hl:n<=500) (a b:Int):Hs (AcH g to a b) λr=>r=true->SY g to a b:=by
 refine(AhM (by omega) a).bind λxs hx=>(AhM (by omega) b).bind λys hy=>?_
 have fin:(∀ x∈xs,∀ y∈ys,∀ row,g[x.toNat]? =some row->y∉row)->SY g to a b:=by
  intro h x y row h1 h2 h3 h4 h5;exact h x ((hx.2 x).2 ⟨x,h1,rfl,h3⟩) y ((hy.2 y).2 ⟨y,h2,rfl,h4⟩) row (by simp_all)
 refine Hs.loop (λi=>∃ k:Nat,i=(k:Int)/\k<=xs.length/\∀ x∈xs.take k,∀ y∈ys,∀ row,g[x.toNat]? =some row->y∉row) (λi=>xs.length-i.toNat) ⟨0,rfl,aAD _,λx h=>by simp at h⟩ ?_
 rintro _ ⟨k,rfl,hk,hall⟩;refine .dec (λhlt=>?_) λhge=>.lft (.pure λ_=>fin λx hx=>hall x (by grind))
 have hlt:k<xs.length:=by omega
 have hgx:xs[k]? =some xs[k]:=aAA _;have hxm:=aAF hlt;have htk:xs.take (k+1)=xs.take k++[xs[k]]:=by simp_all
 generalize xs[k]=x at hgx hxm htk;obtain⟨jx,hjx,rfl,_⟩:=(hx.2 x).1 hxm;have hgl:=hg.1;have hrow:g[jx]? =some (g[jx]'(by omega)):=aAA _
 generalize g[jx]'(by omega)=row at hrow
 have hset:=(hg.2 jx row hrow).1;have hrl:=hset.1.length_le;refine Hs.loop (λi=>∃ m:Nat,i=(m:Int)/\m<=ys.length/\∀ y∈ys.take m,y∉row) (λi=>ys.length-i.toNat) ⟨0,rfl,aAD _,λx h=>by simp at h⟩ ?_
 rintro _ ⟨m,rfl,hm,hno⟩;refine .dec (λhlt2=>?_) λhge2=>.lft ?_
 ·have hlt2:m<ys.length:=by omega
  have hgy:ys[m]? =some ys[m]:=aAA _;have htm:ys.take (m+1)=ys.take m++[ys[m]]:=by simp_all
  generalize ys[m]=y at hgy htm;refine .chk (by omega) ?_
  simp only[aAB,hgx,aA,Pq,hrow];refine .chk (by omega) ?_
  rw[hgy,aA,AaW _ _ (by omega),aA,OX (by omega)]
  refine .dec (λ_=>.lft (.lft (.pure λh=>(by cases h)))) λh=>.cnt ⟨⟨m+1,rfl,hlt2,λz hz=>?_⟩,by grind⟩
  grind
 ·unfold YN;rw[OX (by omega)]
  refine .cnt ⟨⟨k+1,rfl,hlt,λz hz y hy row' hr=>?_⟩,by grind⟩
  grind [aAB]
structure Abq (f:Mk) (g:List (List Int)) (to:List Int):Prop where
 ok:AhU f to
 apart:∀ (x y:Nat) row,x<to.length->y<to.length->Pd to x=Pd to y->g[x]? =some row->(y:Int)∉row
def Qz (a b c:Int):Int:=if c=a\/c=b then RQ a b else c
theorem Ath (a b:Int):RQ a b=a\/RQ a b=b:=by grind [RQ]
theorem Abq.join (hg:PX f.Slots.length g Q) (hsym:∀ (x y:Nat) r s,g[x]? =some r->g[y]? =some s->(y:Int)∈r->(x:Int)∈s) {to':List Int} (h:Abq f g to) {b:Int} (ha:0<=a/\a<f.Slots.length) (hb:0<=b/\b<f.Slots.length) (haa:Pd to a=a) (hbb:Pd to b=b) (hs:Sk f a=Sk f b) (hap:SY g to a b) (hl:to'.length=to.length) (hto:∀ j:Nat,j<to.length->Pd to' j=Qz a b (Pd to j)):Abq f g to':=by
 have htl:=h.ok.1;have hto2:∀ j:Int,0<=j->j<to.length->Pd to' j=Qz a b (Pd to j):=by
  intro j h0 h1;obtain⟨i,rfl⟩:∃ i:Nat,j=(i:Int):=⟨j.toNat,by omega⟩
  simp_all
 have hm:Pd to (RQ a b)=RQ a b/\0<=RQ a b/\RQ a b<f.Slots.length/\Sk f (RQ a b)=Sk f a:=by
  grind [Ath]
 have hj:Qz a b (RQ a b)=RQ a b:=by
  simp_all[Qz]
 refine⟨⟨by omega,λs hs'=>?_⟩,λx y row hx hy he hr hyr=>?_⟩
 ·obtain⟨q1,q2,q3,q4⟩:=h.ok.2 s (by omega)
  rw[hto s (by omega)]
  by_cases e:Pd to s=a\/Pd to s=b
  ·have ej:Qz a b (Pd to s)=RQ a b:=by simp_all[Qz]
   grind
  simp_all[Qz]
 ·rw[hto x (by omega),hto y (by omega)]at he
  have hgl:=hg.1;have hrow:g[y]? =some (g[y]'(by omega)):=aAA _
  by_cases ex:Pd to x=a\/Pd to x=b<;>by_cases ey:Pd to y=a\/Pd to y=b
  ·rcases ex with ex|ex<;>rcases ey with ey|ey
   ·exact h.apart x y row (by omega) (by omega) (by rw[ex,ey]) hr hyr
   ·exact hap x y row (by omega) (by omega) ex ey hr hyr
   ·exact hap y x _ (by omega) (by omega) ey ex hrow (hsym x y _ _ hr hrow hyr)
   ·exact h.apart x y row (by omega) (by omega) (by rw[ex,ey]) hr hyr
  ·have e1:Qz a b (Pd to x)=RQ a b:=by simp_all[Qz]
   have e2:Qz a b (Pd to y)=Pd to y:=by simp_all[Qz]
   grind [Ath]
  ·simp_all[Qz,Pd,RQ]
  ·have e1:Qz a b (Pd to y)=Pd to y:=by simp_all[Qz]
   have e2:Qz a b (Pd to x)=Pd to x:=by simp_all[Qz]
   rw[e1,e2]at he;exact h.apart x y row (by omega) (by omega) he hr hyr
theorem AoH (hlen:f.Code.length<=10000) (hsl:f.Slots.length<=500) (hml:Acv f) (hg:PX f.Slots.length g Q) (hsym:∀ (x y:Nat) r s,g[x]? =some r->g[y]? =some s->(y:Int)∈r->(x:Int)∈s) (hirr:∀ (x:Nat) r,g[x]? =some r->(x:Int)∉r):Hs (Sp f g) λto=>Abq f g to:=by
 unfold Sp;refine Hs.loop (λs=>∃ k:Nat,s.2=(k:Int)/\k<=f.Slots.length/\s.1.length=k/\∀ j:Nat,j<k->s.1[j]? =some (j:Int)) (λs=>f.Slots.length-s.2.toNat) ⟨0,rfl,aAD _,rfl,λj hj=>absurd hj (aAG _)⟩ ?_
 rintro⟨to,_⟩ ⟨k,rfl,hk,htl,hto⟩;replace htl:to.length=k:=htl;replace hto:∀ j:Nat,j<k->to[j]? =some (j:Int):=hto;refine .dec (λhlt=>?_) λhge=>.lft ?_
 ·have hlt:k<f.Slots.length:=by omega
  refine .chk (by simp;omega) ?_
  rw[OX (by omega)]
  refine .cnt ⟨⟨k+1,rfl,hlt,by simp[htl],λj hj=>?_⟩,by grind⟩
  grind
 have hkk:k=f.Slots.length:=by omega
 subst hkk;have hid:∀ j:Nat,j<f.Slots.length->Pd to j=(j:Int):=by
  grind [Pd]
 have hc0:Abq f g to:=by
  refine⟨⟨htl,λs hs=>?_⟩,λx y row hx hy he hr hyr=>?_⟩
  all_goals grind
 clear hto hid;refine(ApT hlen).bind λmv hmv=>?_
 obtain⟨hmvl,hmv⟩:=hmv;refine Hs.loop (λs=>∃ i:Nat,s.2=(i:Int)/\i<=mv.length/\Abq f g s.1) (λs=>mv.length-s.2.toNat) ⟨0,rfl,aAD _,hc0⟩ ?_
 clear hc0 htl hge;rintro⟨to,_⟩ ⟨i,rfl,hi,hc⟩;replace hc:Abq f g to:=hc;have htl:=hc.ok.1;unfold VW;refine .dec (λhlt=>?_) λ_=>.lft (.pure hc)
 have hlt:i<mv.length:=by omega
 have hgp:mv[i]? =some mv[i]:=aAA _;have hpm:=aAF hlt;generalize mv[i]=p at hgp hpm;obtain⟨x,hx,hop,rfl⟩:=hmv p hpm;obtain⟨a0,a1,b0,b1,hsz⟩:=hml x hx hop;have hA:=Qv (to:=to) (s:=x.A) a0 (by omega)
 have hB:=Qv (to:=to) (s:=x.B) b0 (by omega)
 simp only[aAB,hgp,aA,hA,hB];have skip:Hs (QQ (i:Int) to) (Rnd (λs:List Int×Int=>∃ i:Nat,s.2=(i:Int)/\i<=mv.length/\Abq f g s.1) (λs=>mv.length-s.2.toNat) (to,(i:Int)) λto=>Abq f g to):=by
  unfold QQ;rw[OX (by omega)]
  exact .cnt ⟨⟨i+1,rfl,hlt,hc⟩,by grind⟩
 refine .chk (by omega) (.chk (by omega) (.chk (by omega) (.chk (by omega) (.beq (λ_=>skip) λhne=>?_))))
 refine(Avz hg htl hsl (Pd to x.A) (Pd to x.B)).bind λr hr=>.cond (λ_=>skip) λhrt=>?_
 have hap:=hr (by simp_all)
 have nat:∀ {s:Int},0<=s->s<to.length->0<=Pd to s/\Pd to s<to.length/\Sk f (Pd to s)=Sk f s/\Pd to (Pd to s)=Pd to s:=by
  intro s h0 h1;obtain⟨j,rfl⟩:∃ j:Nat,s=(j:Int):=⟨s.toNat,by omega⟩
  exact hc.ok.2 j (by omega)
 obtain⟨qa1,qa2,qa3,qa4⟩:=nat a0 (by omega)
 obtain⟨qb1,qb2,qb3,qb4⟩:=nat b0 (by omega)
 generalize Pd to x.A=a at *;generalize Pd to x.B=b at *;unfold VY;refine Hs.loop (λs=>∃ k:Nat,s.2=(k:Int)/\k<=to.length/\s.1.length=to.length/\∀ j:Nat,j<to.length->Pd s.1 j=if j<k then Qz a b (Pd to j)else Pd to j) (λs=>to.length-s.2.toNat) ⟨0,rfl,aAD _,rfl,λj _=>(by simp)⟩ ?_
 rintro⟨t2,_⟩ ⟨k,rfl,hk,h2l,h2⟩;replace h2l:t2.length=to.length:=h2l;replace h2:∀ j:Nat,j<to.length->Pd t2 j=if j<k then Qz a b (Pd to j)else Pd to j:=h2
 unfold VX;refine .dec (λhlt2=>?_) λhge2=>.lft ?_
 ·have hlt2:k<to.length:=by simp_all
  have hgk:=Qv (to:=t2) (s:=(k:Int)) (by omega) (by omega)
  rw[h2 k hlt2,if_neg (Nat.lt_irrefl _)]at hgk;refine .chk (by omega) ?_
  rw[hgk,aA];have fin:∀ q:Bool,(q=true↔Pd to k=a\/Pd to k=b)->Hs (Sj (k:Int) t2 a b q) (Rnd (λs:List Int×Int=>∃ k:Nat,s.2=(k:Int)/\k<=to.length/\s.1.length=to.length/\∀ j:Nat,j<to.length->Pd s.1 j=if j<k then Qz a b (Pd to j)else Pd to j) (λs=>to.length-s.2.toNat) (t2,(k:Int)) (Rnd (λs:List Int×Int=>∃ i:Nat,s.2=(i:Int)/\i<=mv.length/\Abq f g s.1) (λs=>mv.length-s.2.toNat) (to,(i:Int)) λto=>Abq f g to)):=by
   intro q hq;unfold Sj;rw[OX (by omega)]
   refine .cond (λh=>.chk (by omega) ?_) λh=>.cnt ⟨⟨k+1,rfl,hlt2,h2l,λj hj=>?_⟩,by grind⟩
   ·rw[hgk,aA];refine .cnt ⟨⟨k+1,rfl,hlt2,by simp[h2l],λj hj=>?_⟩,by grind⟩
    by_cases e:j=k
    ·simp_all[Pd,Qz]
    ·have:=h2 j hj;simp only[Pd,aAB]at this ⊢
     grind
   ·show Pd t2 j=_;rw[h2 j hj]
    by_cases e:j=k
    ·simp_all[Qz]
    omega
  refine .beq (λh=>fin true ⟨λ_=>.inl h,λ_=>rfl⟩) λh=>.chk (by omega) ?_
  exact fin _ ⟨λh'=>.inr (by simp_all),λh'=>by simp_all⟩
 ·have hkk:k=to.length:=by grind
  subst hkk;unfold QQ;rw[OX (by omega)]
  refine .cnt ⟨⟨i+1,rfl,hlt,?_⟩,by simp only;omega⟩
  refine hc.join hg hsym (a:=a) (b:=b) ⟨qa1,by omega⟩ ⟨qb1,by omega⟩ qa4 qb4 (by rw[qa3,qb3,hsz]) hap h2l λj hj=>?_
  simp_all
def Uq (f:Mk) (l:List (List Int)) (k:Nat):Prop:=((OR f k).Op=16\/(OR f k).Op=17)/\(OR f k).A∉Pr l k
theorem Axf (hf:Pu f) {l:Pg} (hl:QM f l.Out) (hk:k<f.Code.length):Hs (AeV f l (k:Int)) λb=>b=true↔Uq f l.Out k:=by
 have hx:=hf.at (j:=(k:Int)) (by omega) (by omega)
 have hrow:=hl.at (j:=(k:Int)) (by omega) (by omega)
 rw[aAB]at hx hrow;have hlo:=hrow.2.1.length_le;unfold AeV;simp only[Pq,hx.1,aA,Anb,Ajy]
 by_cases hd:(OR f k).Op=16\/(OR f k).Op=17
 ·rw[if_pos hd];simp only[cond_true,hrow.1,aA];rw[AaW _ _ (by omega),aA]
  exact .pure ⟨λh=>⟨hd,by simp_all⟩,λh=>by simpa using h.2⟩
 ·rw[if_neg hd];exact .pure ⟨λh=>(by cases h),λh=>(hd h.1).elim⟩
theorem Apx (hf:Pu f) {l:Pg} (hl:QM f l.Out) (hml:Acv f) (htl:to.length=f.Slots.length):Hs (AbJ f l to) λkeep=>keep.length=f.Code.length/\∀ k:Nat,k<f.Code.length->(Pt keep k=true↔¬ Uq f l.Out k/\¬ ((OR f k).Op=17/\Pd to (OR f k).A=Pd to (OR f k).B)):=by
 have hlen:=hf.len';refine Hs.loop (λs=>∃ k:Nat,s.2=(k:Int)/\k<=f.Code.length/\s.1.length=k/\∀ j:Nat,j<k->(Pt s.1 j=true↔¬ Uq f l.Out j/\¬ ((OR f j).Op=17/\Pd to (OR f j).A=Pd to (OR f j).B))) (λs=>f.Code.length-s.2.toNat) ⟨0,rfl,aAD _,rfl,λj hj=>absurd hj (aAG _)⟩ ?_
 rintro⟨keep,_⟩ ⟨k,rfl,hk,hkl,hkp⟩;replace hkl:keep.length=k:=hkl;refine .dec (λhlt=>?_) λhge=>.lft (.pure ?_)
 ·have hlt:k<f.Code.length:=by omega
  have hx:=hf.at (j:=(k:Int)) (by omega) (by omega)
  rw[aAB]at hx;simp only[Pq,hx.1,aA];rw[OX (by omega)]
  have fin:∀ q:Bool,(q=true↔¬ Uq f l.Out k/\¬ ((OR f k).Op=17/\Pd to (OR f k).A=Pd to (OR f k).B))->Hs (chk (keep.length+([q]:List Bool).length<=16777216) (cnt (keep++([q]:List Bool),((k+1:Nat):Int)):Option ((List Bool×Int)⊕List Bool))) (Rnd (λs:List Bool×Int=>∃ k:Nat,s.2=(k:Int)/\k<=f.Code.length/\s.1.length=k/\∀ j:Nat,j<k->(Pt s.1 j=true↔¬ Uq f l.Out j/\¬ ((OR f j).Op=17/\Pd to (OR f j).A=Pd to (OR f j).B))) (λs=>f.Code.length-s.2.toNat) (keep,(k:Int)) λkeep=>keep.length=f.Code.length/\∀ k:Nat,k<f.Code.length->(Pt keep k=true↔¬ Uq f l.Out k/\¬ ((OR f k).Op=17/\Pd to (OR f k).A=Pd to (OR f k).B))):=by
   intro q hq;refine .chk (by simp;omega) (.cnt ⟨⟨k+1,rfl,hlt,by simp[hkl],λj hj=>?_⟩,by grind⟩)
   grind [Pt,List.getElem?_concat_length]
  refine(Axf hf hl hlt).bind λr hr=>.cond (λh=>?_) λh=>fin false ⟨λh=>(by cases h),λh'=>(h'.1 (hr.1 (by simp_all))).elim⟩
  have hnd:¬ Uq f l.Out k:=λh'=>by simp_all
  refine .beq (λh17=>?_) λh17=>fin true ⟨λ_=>⟨hnd,λh=>h17 h.1⟩,λ_=>rfl⟩
  obtain⟨a0,a1,b0,b1,_⟩:=hml _ hx.2 h17
  grind [QU,Qv]
 ·have hkk:k=f.Code.length:=by omega
  subst hkk;exact⟨hkl,hkp⟩
def rnS (to:List Int) (s:Int):Int:=if 0<=s/\s<to.length then Pd to s else s
theorem Ayc (to:List Int) (s:Int):TV s to=some (rnS to s):=by
 unfold TV rnS
 by_cases h0:s<0
 ·grind
 ·rw[decide_eq_false h0,cond_false]
  by_cases h1:s>=(to.length:Int)
  ·grind
  ·rw[decide_eq_false h1,cond_false,if_pos (by omega),QU _ (by omega),Qv (by omega) (by omega)]
   rfl
def rnI (to:List Int) (x:OP):OP :=
 if x.Op=15 then⟨x.Op,x.A,rnS to x.B,x.C,x.Imm⟩else if x.Op=16 then⟨x.Op,rnS to x.A,x.B,x.C,x.Imm⟩else if x.Op=17 then⟨x.Op,rnS to x.A,rnS to x.B,x.C,x.Imm⟩else x
theorem ArZ (x:OP) (to:List Int):WO x to=some (rnI to x):=by
 unfold WO rnI;simp only[Ayc,aA]
 grind
theorem AiH (to:List Int) (x:OP):(rnI to x).Op=x.Op:=by
 unfold rnI
 grind
def kept (keep:List Bool) (k:Nat):Nat:=(keep.take k).countP id
theorem Ana (keep:List Bool) (k:Nat):kept keep k<=k:=by
 grind [kept,List.countP_le_length]
theorem AaY {keep:List Bool} {b:Bool} (h:keep[k]? =some b):kept keep (k+1)=kept keep k+(if b then 1 else 0):=by
 grind [kept,aAP]
theorem Aqj (r:Pl) (hl:r.Keep.length<=1000000):Hs (AeW r) λl=>l.length=r.Keep.length/\∀ j:Nat,j<r.Keep.length->l[j]? =some (kept r.Keep j:Int):=by
 refine Hs.loop (λs=>∃ k:Nat,s.2.2=(k:Int)/\k<=r.Keep.length/\s.2.1=(kept r.Keep k:Int)/\s.1.length=k/\∀ j:Nat,j<k->s.1[j]? =some (kept r.Keep j:Int)) (λs=>r.Keep.length-s.2.2.toNat) ⟨0,rfl,aAD _,rfl,rfl,λj hj=>absurd hj (aAG _)⟩ ?_
 rintro⟨l,n,_⟩ ⟨k,rfl,hk,hn,hll,hj⟩;subst hn;replace hll:l.length=k:=hll;refine .dec (λhlt=>?_) λhge=>.lft (.pure ?_)
 ·have hlt:k<r.Keep.length:=by simp_all
  have hg:r.Keep[k]? =some r.Keep[k]:=aAA _;generalize r.Keep[k]=b at hg;have hkl:=Ana r.Keep k;have hks:=AaY hg;have hap:∀ j:Nat,j<k+1->(l++[(kept r.Keep k:Int)])[j]? =some (kept r.Keep j:Int):=by
   grind
  refine .chk (by simp;omega) ?_
  simp only[Pq,hg,aA];rw[OX (show k<9223372036854775807 by omega),OX (show kept r.Keep k<9223372036854775807 by omega)]
  refine .cond (λh=>?_) λh=>?_
  ·subst h;exact .cnt ⟨⟨k+1,rfl,hlt,by simp_all,by simp[hll],hap⟩,by grind⟩
  ·subst h;exact .cnt ⟨⟨k+1,rfl,hlt,by simp_all,by simp[hll],hap⟩,by grind⟩
 ·have hkk:k=r.Keep.length:=by grind
  subst hkk;exact⟨hll,hj⟩
theorem Are (x:OP):Vu x=some (QE x):=by
 grind [Vu,QE]
theorem AhU.rng (h:AhU f to) {s:Int} (h0:0<=s) (h1:s<f.Slots.length):0<=rnS to s/\rnS to s<f.Slots.length/\rnS to s=Pd to s:=by
 obtain⟨j,rfl⟩:∃ j:Nat,s=(j:Int):=⟨s.toNat,by omega⟩
 have hl:=h.1;have:=h.2 j (by omega)
 simp_all[rnS]
def PW (x:OP):List Int:=QE x++(if x.Op=16\/x.Op=17 then[x.A]else[])
theorem AgL (hf:Pu f) (hd:RW f) (h:AhU f to) (hx:x∈f.Code):∀ v∈PW (rnI to x),0<=v/\v<f.Slots.length:=by
 intro v hv;have hu:=hf.uses x hx;have hdf:=hd x hx;have key:∀ s:Int,0<=s->s<f.Slots.length->0<=rnS to s/\rnS to s<f.Slots.length:=λs h0 h1=>⟨(h.rng h0 h1).1,(h.rng h0 h1).2.1⟩
 grind [PW,QE,rnI]
theorem AxJ (hf:Pu f) (hd:RW f) (hr:XF f r):Hs (AbN f r) λl=>PH f.Slots.length l/\∀ k:Nat,k<f.Code.length->Pt r.Keep k=true->∀ v∈PW (rnI r.To (OR f k)),v∈l:=by
 have hlen:=hf.len';have hsl:=hf.slots;have hkl:=hr.2.1;unfold AbN;refine Hs.loop (λs=>∃ k:Nat,s.2=(k:Int)/\k<=f.Code.length/\PH f.Slots.length s.1/\∀ j:Nat,j<k->Pt r.Keep j=true->∀ v∈PW (rnI r.To (OR f j)),v∈s.1) (λs=>f.Code.length-s.2.toNat) ⟨0,rfl,aAD _,PH.nil _,λj hj=>absurd hj (aAG _)⟩ ?_
 rintro⟨l,_⟩ ⟨k,rfl,hk,hs,hj⟩;replace hs:PH f.Slots.length l:=hs;replace hj:∀ j:Nat,j<k->Pt r.Keep j=true->∀ v∈PW (rnI r.To (OR f j)),v∈l:=hj;unfold Ade;refine .dec (λhlt=>.dec (λ_=>?_) λh=>?_) λhge=>.lft (.pure ⟨hs,λj h=>hj j (by omega)⟩)
 ·have hlt:k<f.Code.length:=by omega
  have hx:=hf.at (j:=(k:Int)) (by omega) (by omega)
  rw[aAB]at hx;have hg:r.Keep[k]? =some (Pt r.Keep k):=by grind [Pt]
  have hnr:=AgL hf hd hr.1 hx.2;unfold ZB;simp only[Pq,hg,hx.1,aA,ArZ,Are,Anb,OX (show k<9223372036854775807 by omega)]
  refine .cond (λh=>.cnt ⟨⟨k+1,rfl,hlt,hs,λj h' hkj=>?_⟩,by grind⟩) λh=>?_
  ·grind
  ·obtain⟨y,hy⟩:∃ y,y=rnI r.To (OR f k):=⟨_,rfl⟩;rw[<- hy]at hnr ⊢;have hul:(QE y).length<=1:=by grind [QE]
   have hll:=hs.1.length_le;rw[union_eq _ _ (by omega),aA]
   obtain⟨u1,u2⟩:=Vw (n:=f.Slots.length) (by omega) (b:=QE y) (a:=l) hs (λx hx=>hnr x (by grind [PW]))
   by_cases hdy:y.Op=16\/y.Op=17
   ·simp only[Ajy,if_pos hdy,cond_true];have hA:=hnr y.A (by simp_all[PW])
    obtain⟨a1,a2⟩:=PH.add (n:=f.Slots.length) u1 hA (by omega)
    have a3:=(PH.AqY u1 hA (by omega)).2.2
    rw[a2,aA];refine .cnt ⟨⟨k+1,rfl,hlt,a1,λj h' hkj v hv=>?_⟩,by grind⟩
    show v∈VG y.A (Ro l (QE y));rw[a3,u2]
    by_cases e:j=k
    ·subst e;rw[<- hy]at hv;unfold PW at hv
     grind
    grind
   ·simp only[Ajy,if_neg hdy,cond_false];refine .cnt ⟨⟨k+1,rfl,hlt,u1,λj h' hkj v hv=>?_⟩,by grind⟩
    show v∈Ro l (QE y);rw[u2]
    by_cases e:j=k
    ·simp_all[PW]
    grind
 omega
theorem AoW (hl:r.To.length<=500) (hu:used.length<=512):Hs (ZC r used) λl=>l.length=r.To.length/\∀ (s:Nat) x,l[s]? =some x->0<=x/\(Pd r.To s∈used->used[x.toNat]? =some (Pd r.To s)):=by
 unfold ZC;refine Hs.loop (λz=>∃ k:Nat,z.2=(k:Int)/\k<=r.To.length/\z.1.length=k/\∀ (s:Nat) x,z.1[s]? =some x->0<=x/\(Pd r.To s∈used->used[x.toNat]? =some (Pd r.To s))) (λz=>r.To.length-z.2.toNat) ⟨0,rfl,aAD _,rfl,λs x h=>by simp at h⟩ ?_
 rintro⟨l,_⟩ ⟨k,rfl,hk,hll,hq⟩;replace hll:l.length=k:=hll;refine .dec (λhlt=>?_) λhge=>.lft (.pure ?_)
 ·have hlt:k<r.To.length:=by omega
  have hg:=Qv (to:=r.To) (s:=(k:Int)) (by omega) (by omega)
  rw[aAB]at hg;refine Hs.loop (λz=>∃ i:Nat,z.2=(i:Int)/\i<=used.length/\0<=z.1/\(Pd r.To k∈used.take i->used[z.1.toNat]? =some (Pd r.To k))) (λz=>used.length-z.2.toNat) ⟨0,rfl,aAD _,Int.le_refl _,λh=>by simp at h⟩ ?_
  rintro⟨n,_⟩ ⟨i,rfl,hi,hn,hm⟩;refine .dec (λhlt2=>?_) λhge2=>.lft (.chk (by simp;omega) ?_)
  ·have hlt2:i<used.length:=by omega
   have hgx:used[i]? =some used[i]:=aAA _;have htk:used.take (i+1)=used.take i++[used[i]]:=by simp_all
   generalize used[i]=y at hgx htk;simp only[Pq,hgx,hg,aA];rw[OX (by omega)]
   refine .beq (λh=>.cnt ⟨⟨i+1,rfl,hlt2,by omega,λ_=>?_⟩,by grind⟩) λh=>.cnt ⟨⟨i+1,rfl,hlt2,hn,λh'=>?_⟩,by simp only;omega⟩
   all_goals grind [aAB]
  ·have hii:i=used.length:=by omega
   subst hii;unfold Zp;rw[OX (by omega)]
   refine .cnt ⟨⟨k+1,rfl,hlt,by simp[hll],λs x hx=>?_⟩,by simp only;omega⟩
   have hx:(l++[n])[s]? =some x:=hx
   by_cases e:s=k
   ·simp_all
   ·have hsl:s<l.length:=by
     have:=(aAC.1 hx).1;simp at this;omega
    rw[aAd hsl]at hx;exact hq s x hx
 ·have hkk:k=r.To.length:=by simp only at hge;omega
  subst hkk;exact⟨hll,hq⟩
def mvI (pl:List Int) (x:OP):OP :=
 if x.Op=20 then⟨x.Op,(pl[x.A.toNat]?).getD 0,x.B,x.C,x.Imm⟩else if x.Op=21 then⟨x.Op,x.A,(pl[x.B.toNat]?).getD 0,x.C,x.Imm⟩else x
def UL (f:Mk) (keep:List Bool) (to pl:List Int) (k:Nat):List OP:=(aAf k).filterMap λj=>if Pt keep j=true then some (mvI pl (rnI to (OR f (j:Nat))))else none
theorem AmA (f:Mk) (keep:List Bool) (to pl:List Int) (k:Nat):UL f keep to pl (k+1)=UL f keep to pl k++(if Pt keep k=true then[mvI pl (rnI to (OR f (k:Nat)))]else[]):=by
 grind [UL,aAc]
theorem AdB {f:Mk} {keep:List Bool} {to pl:List Int}:∀ k:Nat,k<=keep.length->(UL f keep to pl k).length=kept keep k/\∀ (p:Nat) x,(UL f keep to pl k)[p]? =some x->∃ j:Nat,j<k/\Pt keep j=true/\kept keep j=p/\x=mvI pl (rnI to (OR f (j:Nat)))
 | 0,_=>⟨rfl,λp x h=>by grind [UL]⟩
 | k+1,hk=>by
  obtain⟨h1,h2⟩:=AdB (f:=f) (keep:=keep) (to:=to) (pl:=pl) k (by omega)
  have hg:keep[k]? =some (Pt keep k):=by grind [Pt]
  rw[AmA]
  by_cases h:Pt keep k=true
  ·rw[if_pos h];rw[h]at hg;have hs:=AaY hg
   grind
  ·rw[if_neg h,aAm]
   grind [AaY]
theorem AgO (h:x.Op=20\/x.Op=21):rnI to x=x:=by
 unfold rnI
 grind
theorem Alg (hf:Pu f) (hk:k<f.Code.length):((OR f k).Op=20->0<=(OR f k).A/\(OR f k).A<f.Code.length)/\((OR f k).Op=21->0<=(OR f k).B/\(OR f k).B<f.Code.length):=by
 have hx:=hf.at (j:=(k:Int)) (by omega) (by omega)
 rw[aAB]at hx;have hn:=hf.next k _ hx.1;refine⟨λh=>hn _ (by simp[Qa,h]),λh=>hn _ ?_⟩
 unfold Qa
 grind
theorem AqX (hf:Pu f) (hkl:r.Keep.length=f.Code.length) (to pl:List Int) (hpl:pl.length=r.Keep.length) (sl:List Pa) :
  Hs (Pc (λs=>AbK f r to pl sl s.1 s.2) ([],0)) λq=>q=(⟨f.Params,sl,UL f r.Keep to pl f.Code.length⟩,0):=by
 have hlen:=hf.len';refine Hs.loop (λs=>∃ k:Nat,s.2=(k:Int)/\k<=f.Code.length/\s.1=UL f r.Keep to pl k) (λs=>f.Code.length-s.2.toNat) ⟨0,rfl,aAD _,rfl⟩ ?_
 rintro⟨_,_⟩ ⟨k,rfl,hk,rfl⟩;refine .dec (λhlt=>?_) λhge=>.lft (.pure ?_)
 ·have hlt:k<f.Code.length:=by omega
  have hx:=hf.at (j:=(k:Int)) (by omega) (by omega)
  rw[aAB]at hx;have hg:r.Keep[k]? =some (Pt r.Keep k):=by grind [Pt]
  have hol:=(AdB (f:=f) (keep:=r.Keep) (to:=to) (pl:=pl) k (by omega)).1
  have hkk:=Ana r.Keep k;have hs:=AmA f r.Keep to pl k;obtain⟨t1,t2⟩:=Alg hf hlt;simp only[Pq,hg,hx.1,aA,ArZ];refine .cond (λh=>?_) λh=>?_
  ·have hkf:¬ Pt r.Keep k=true:=λh'=>by simp_all
   rw[if_neg hkf,aAm]at hs;rw[OX (by omega)]
   exact .cnt ⟨⟨k+1,rfl,hlt,hs.symm⟩,by grind⟩
  ·have hkt:Pt r.Keep k=true:=by simp_all
   rw[if_pos hkt]at hs;have fin:∀ a b:Int,(⟨(rnI to (OR f k)).Op,a,b,(rnI to (OR f k)).C,(rnI to (OR f k)).Imm⟩:OP)=mvI pl (rnI to (OR f k))->Hs (Uo (UL f r.Keep to pl k) (rnI to (OR f k)) (k:Int) a b) (Rnd (λs:List OP×Int=>∃ k:Nat,s.2=(k:Int)/\k<=f.Code.length/\s.1=UL f r.Keep to pl k) (λs=>f.Code.length-s.2.toNat) (UL f r.Keep to pl k,(k:Int)) λq=>q=(⟨f.Params,sl,UL f r.Keep to pl f.Code.length⟩,0)):=by
    intro a b hab;unfold Uo;refine .chk (by simp;omega) (.chk (by simp;omega) ?_)
    rw[OX (by omega)]
    refine .cnt ⟨⟨k+1,rfl,hlt,?_⟩,by grind⟩
    simp_all
   refine .beq (λh20=>?_) λh20=>.beq (λh21=>?_) λh21=>fin _ _ ?_
   ·simp_all[AiH,AgO,chk,mvI]
   ·simp_all[AiH,AgO,chk,mvI]
   simp_all[mvI]
 ·have hkk:k=f.Code.length:=by omega
  subst hkk;rfl
theorem Avh (f:Mk) (to:List Int) (hsl:f.Slots.length<=500):Hs (Ags f to) λb=>b=true↔AhU f to:=by
 refine .bne (λh=>.pure ⟨λh'=>(by cases h'),λh'=>(h (by rw[h'.1])).elim⟩) λh=>?_
 have hl:to.length=f.Slots.length:=by omega
 refine Hs.loop (λi=>∃ k:Nat,i=(k:Int)/\k<=to.length/\∀ s:Nat,s<k->0<=Pd to s/\Pd to s<to.length) (λi=>to.length-i.toNat) ⟨0,rfl,aAD _,λs hs=>absurd hs (aAG _)⟩ ?_
 rintro _ ⟨k,rfl,hk,hall⟩;refine .dec (λhlt=>?_) λhge=>.lft ?_
 ·have hlt:k<to.length:=by omega
  have hg:to[k]? =some (Pd to k):=by have:=Qv (to:=to) (s:=k) (by omega) (by omega);simp_all
  simp only[Pq,hg,aA];refine .dec (λh0=>.lft (.pure ⟨λh=>(by cases h),λh=>?_⟩)) λh0=>.dec (λh1=>.lft (.pure ⟨λh=>(by cases h),λh=>?_⟩)) λh1=>?_
  ·have:=(h.2 k hlt).1;omega
  ·have:=(h.2 k hlt).2.1;omega
  rw[OX (by omega)]
  refine .cnt ⟨⟨k+1,rfl,hlt,λs hs=>?_⟩,by grind⟩
  grind
 have hkk:k=to.length:=by omega
 subst hkk;refine Hs.loop (λi=>∃ k:Nat,i=(k:Int)/\k<=to.length/\∀ s:Nat,s<k->Sk f (Pd to s)=Sk f s/\Pd to (Pd to s)=Pd to s) (λi=>to.length-i.toNat) ⟨0,rfl,aAD _,λs hs=>absurd hs (aAG _)⟩ ?_
 rintro _ ⟨k,rfl,hk,hall2⟩;refine .dec (λhlt=>?_) λhge=>.lft (.pure ?_)
 ·have hlt:k<to.length:=by omega
  obtain⟨q0,q1⟩:=hall k hlt;have hg:to[k]? =some (Pd to k):=by have:=Qv (to:=to) (s:=k) (by omega) (by omega);simp_all
  simp only[Pq,hg,aA];refine Hs.bind (Hs.ix (i:=Pd to k) (P:=λx=>x.Size=Sk f (Pd to k)) (by omega) (by omega) λx hx=>AhG hx) λa ha=>?_
  refine Hs.bind (Hs.get (i:=(k:Int)) (P:=λx=>x.Size=Sk f k) (by omega) (by omega) λx hx=>AhG hx) λb hb=>?_
  rw[ha,hb];refine .bne (λh2=>.lft (.pure ⟨λh=>(by cases h),λh=>(h2 (h.2 k hlt).2.2.1).elim⟩)) λh2=>?_
  rw[QU _ (by omega),Qv (by omega) (by omega),aA]
  refine .bne (λh3=>.lft (.pure ⟨λh=>(by cases h),λh=>(h3 (h.2 k hlt).2.2.2).elim⟩)) λh3=>?_
  rw[OX (by omega)]
  refine .cnt ⟨⟨k+1,rfl,hlt,λs hs=>?_⟩,by grind⟩
  grind
 ·exact⟨λ_=>⟨hl,λs hs=>⟨(hall s hs).1,(hall s hs).2,(hall2 s (by omega)).1,(hall2 s (by omega)).2⟩⟩,λ_=>rfl⟩
theorem Avf (x:OP):SM x=some (decide (x.Op=16\/x.Op=17)):=by
 unfold SM
 grind
theorem AnM (hf:Pu f) (r:Pl):Hs (AcI f r) λe=>(e=0\/e=12)/\(e=0↔XF f r):=by
 have hlen:=hf.len';unfold AcI;refine(Avh f r.To hf.slots).bind λb hb=>.cond (λh=>.pure ⟨.inr rfl,λh=>by omega,λh'=>?_⟩) λh=>?_
 ·rw[hb.2 h'.1]at h;cases h
 have hv:AhU f r.To:=hb.1 (by simp_all)
 refine .bne (λh=>.pure ⟨.inr rfl,λh=>by omega,λh'=>(h (by rw[h'.2.1])).elim⟩) λh=>?_
 have hkl:r.Keep.length=f.Code.length:=by omega
 unfold AbM;refine Hs.loop (λi=>∃ k:Nat,i=(k:Int)/\k<=f.Code.length/\∀ j:Nat,j<k->Pt r.Keep j=false->(OR f j).Op=16\/(OR f j).Op=17) (λi=>f.Code.length-i.toNat) ⟨0,rfl,aAD _,λs hs=>absurd hs (aAG _)⟩ ?_
 rintro _ ⟨k,rfl,hk,hall⟩;unfold AbL;refine .dec (λhlt=>?_) λhge=>.lft (.pure ⟨.inl rfl,λ_=>⟨hv,hkl,λj hj=>hall j (by omega)⟩,λ_=>rfl⟩)
 have hlt:k<f.Code.length:=by omega
 have hx:=hf.at (j:=(k:Int)) (by omega) (by omega)
 rw[aAB]at hx;have hg:r.Keep[k]? =some (Pt r.Keep k):=by grind [Pt]
 have stp:(Pt r.Keep k=false->(OR f k).Op=16\/(OR f k).Op=17)->∀ j:Nat,j<k+1->Pt r.Keep j=false->(OR f j).Op=16\/(OR f j).Op=17:=by
  grind
 simp only[Pq,hx.1,hg,aA,Avf];rw[OX (by omega)]
 refine .cond (λh=>?_) λh=>.cnt ⟨⟨k+1,rfl,hlt,stp λh'=>by simp_all⟩,by grind⟩
 have hkf:Pt r.Keep k=false:=by simp_all
 refine .cond (λh=>.lft (.pure ⟨.inr rfl,λh=>by omega,λh'=>?_⟩)) λh=>.cnt ⟨⟨k+1,rfl,hlt,stp λ_=>aAl λhn=>by simp_all⟩,by grind⟩
 have:=h'.2.2 k hlt hkf;simp_all
theorem AmZ:∀ {l:List Int} {a n:Int},l.Pairwise (· <·)->(∀ x∈l,a<=x/\x<n)->(l.length:Int)<=max 0 (n-a)
 | [],a,n,_,_=>by simp;omega
 | x::l,a,n,hp,hr=>by
  have h:=aAU.1 hp;have hx:=hr x (by simp)
  have:=AmZ (l:=l) (a:=x+1) (n:=n) h.2 λy hy=>⟨by grind,(hr y (by simp[hy])).2⟩
  grind
theorem AvA (hsl:f.Slots.length<=500) (htl:r.To.length=f.Slots.length) {u:Int} {x:Pa} {out:List Pa} (hi:i<=1000) {l:List Int} (hll:l.length<=1000) (ho:out.length=i) (hl:∀ t∈l,0<=t/\t<f.Slots.length) {Q:Mk×Int->Prop} (hI:∀ y:Pa,y.Size=x.Size->(∃ t∈x::f.Slots,y.Align=t.Align)->Rnd I μ s0 Q (.inl (out++[y],((i+1:Nat):Int)))):Hs (Pc (λs=>YO l f out x (i:Int) s.1 s.2) (x.Align,0)) (Rnd I μ s0 Q):=by
 refine Hs.loop (λs=>∃ k:Nat,s.2=(k:Int)/\k<=l.length/\∃ t∈x::f.Slots,s.1=t.Align) (λs=>l.length-s.2.toNat) ⟨0,rfl,aAD _,x,by simp,rfl⟩ ?_
 rintro⟨a,_⟩ ⟨k,rfl,hk,t0,ht0,hat⟩;refine .dec (λhlt=>?_) λ_=>.lft (.chk (by simp;omega) (.chk (by simp;omega) ?_))
 ·have hlt:k<l.length:=by omega
  refine .chk (by omega) ((Hs.get (by omega) (by omega) λt ht=>aAE ht).bind λt ht=>?_)
  have:=hl t ht;refine(Hs.ix (P:=λy=>y∈f.Slots) this.1 this.2 λy hy=>aAE hy).bind λy hy=>?_
  rw[OX (by omega),AbB]
  refine .cnt ⟨⟨k+1,rfl,hlt,?_⟩,by grind⟩
  grind
 ·unfold YP;rw[OX (by omega)]
  exact .cnt (hI _ rfl ⟨t0,ht0,hat⟩)
def AhT (f:Mk) (used:List Int) (out:List Pa):Prop :=
 ∀ (j:Nat) y,out[j]? =some y->∃ u x,used[j]? =some u/\f.Slots[u.toNat]? =some x/\y.Size=x.Size/\∃ t∈f.Slots,y.Align=t.Align
theorem AhT.snoc {out:List Pa} (h:AhT f used out) (ho:out.length=i) (hu:used[i]? =some u) {x y:Pa} (hx:f.Slots[u.toNat]? =some x) (h1:y.Size=x.Size) (h2:∃ t∈x::f.Slots,y.Align=t.Align):AhT f used (out++[y]):=by
 intro j z hz
 by_cases e:j<out.length
 ·rw[aAd e]at hz;exact h j z hz
 grind
theorem Auk (hf:Pu f) (hd:RW f) (hr:XF f r):Hs (TB f r) λq=>q.2=0/\∃ used to pl:List Int,PH f.Slots.length used/\(∀ k:Nat,k<f.Code.length->Pt r.Keep k=true->∀ v∈PW (rnI r.To (OR f k)),v∈used)/\to.length=r.To.length/\(∀ (s:Nat) x,to[s]? =some x->0<=x/\(Pd r.To s∈used->used[x.toNat]? =some (Pd r.To s))) /\
  pl.length=r.Keep.length/\(∀ j:Nat,j<r.Keep.length->pl[j]? =some (kept r.Keep j:Int))/\q.1.Slots.length=used.length/\q.1.Params=f.Params/\q.1.Code=UL f r.Keep to pl f.Code.length/\AhT f used q.1.Slots:=by
 have hlen:=hf.len';have hsl:=hf.slots;have hkl:=hr.2.1;have htl:=hr.1.1;refine(AnM hf r).bind λe he=>.bne (λh=>(h (he.2.2 hr)).elim) λ_=>?_
 refine(AxJ hf hd hr).bind λused ⟨hu1,hu2⟩=>?_
 have hul:=hu1.1.length_le;refine Hs.loop (λs=>∃ i:Nat,s.2=(i:Int)/\i<=used.length/\s.1.length=i/\AhT f used s.1) (λs=>used.length-s.2.toNat) ⟨0,rfl,aAD _,rfl,λj y hj=>by simp at hj⟩ ?_
 rintro⟨out,_⟩ ⟨i,rfl,hi,ho,hsa⟩;refine .dec (λhlt=>?_) λhge=>.lft ?_
 ·have hlt:i<used.length:=by omega
  have hgx:used[i]? =some used[i]:=aAA _;have hxm:=aAF hlt;generalize used[i]=u at hgx hxm;have h0:=(hu1.1.2 u hxm).1;have h1:=hu1.2 u hxm;refine .chk (by omega) ?_
  simp only[aAB,hgx,aA];refine(Hs.ix (P:=λx=>f.Slots[u.toNat]? =some x) h0 h1 λx hx=>hx).bind λx hfx=>.chk (by omega) ?_
  refine(AhM (by omega) u).bind λl hm=>?_
  refine AvA (u:=u) hsl htl (by omega) (l:=l) (by omega) ho (λt ht=>?_) λy hy1 hy2=>⟨⟨i+1,rfl,hlt,by simp[ho],hsa.snoc ho hgx hfx hy1 hy2⟩,by grind⟩
  grind
 have hii:i=used.length:=by omega
 subst hii;refine(AoW (by omega) hul).bind λto ⟨n1,n2⟩=>(Aqj r (by omega)).bind λpl ⟨p1,p2⟩=>?_
 refine(AqX hf hkl to pl p1 out).mono λq hq=>?_
 subst hq;exact⟨rfl,used,to,pl,hu1,hu2,n1,n2,p1,p2,ho,rfl,rfl,hsa⟩
theorem Ara (hf:Pu f) (hd:RW f) (hr:XF f r):Hs (TB f r) λq=>q.2=0/\∃ used to pl:List Int,PH f.Slots.length used/\(∀ k:Nat,k<f.Code.length->Pt r.Keep k=true->∀ v∈PW (rnI r.To (OR f k)),v∈used)/\to.length=r.To.length/\(∀ (s:Nat) x,to[s]? =some x->0<=x/\(Pd r.To s∈used->used[x.toNat]? =some (Pd r.To s))) /\
  pl.length=r.Keep.length/\(∀ j:Nat,j<r.Keep.length->pl[j]? =some (kept r.Keep j:Int))/\q.1.Slots.length=used.length/\q.1.Params=f.Params/\q.1.Code=UL f r.Keep to pl f.Code.length :=
 (Auk hf hd hr).mono λq ⟨h0,used,to,pl,u1,u2,n1,n2,p1,p2,sl,pr,cd,_⟩=>⟨h0,used,to,pl,u1,u2,n1,n2,p1,p2,sl,pr,cd⟩
theorem Aqd {keep:List Bool} {j:Nat}:∀ {k:Nat},j<=k->k<=keep.length->kept keep j<=kept keep k
 | 0,h,_=>by
  simp_all
 | k+1,h,hk=>by
  by_cases e:j=k+1
  ·simp_all
  ·have h1:=Aqd (keep:=keep) (j:=j) (k:=k) (by omega) (by omega)
   have hg:keep[k]? =some (keep[k]'(by omega)):=aAA _
   grind [AaY]
def Agw (f:Mk):Prop:=(OR f (f.Code.length-1:Nat)).Op=23\/(OR f (f.Code.length-1:Nat)).Op=24
theorem Apy (hf:Pu f) (hlast:Agw f) (hr:XF f r) {t:Nat} (ht:t<f.Code.length):kept r.Keep t<kept r.Keep f.Code.length:=by
 have hkl:=hr.2.1;have hl:=hf.len;have hk:Pt r.Keep (f.Code.length-1)=true:=by
  cases h:Pt r.Keep (f.Code.length-1)
  ·have:=hr.2.2 _ (by omega) h
   grind [Agw]
  ·rfl
 have hg:r.Keep[f.Code.length-1]? =some true:=by
  grind [Pt]
 have h1:=AaY hg;have h2:=Aqd (keep:=r.Keep) (j:=t) (k:=f.Code.length-1) (by omega) (by omega)
 grind
theorem Atr (hf:Pu f) (hlast:Agw f) (hr:XF f r) {pl:List Int} (hpl:∀ j:Nat,j<r.Keep.length->pl[j]? =some (kept r.Keep j:Int)) {p:Nat} (hx:(UL f r.Keep to pl f.Code.length)[p]? =some x):∀ t∈Qa x p,0<=t/\t<(kept r.Keep f.Code.length:Int):=by
 have hkl:=hr.2.1;obtain⟨j,hj,hk,rfl,rfl⟩:=(AdB (f:=f) (keep:=r.Keep) (to:=to) (pl:=pl) f.Code.length (by omega)).2 p x hx
 have hcode:=(hf.at (j:=(j:Int)) (by omega) (by omega)).1
 have hn:=hf.next j _ hcode;obtain⟨t1,t2⟩:=Alg hf hj;have hg:r.Keep[j]? =some true:=by
  grind [Pt]
 have hs:=AaY hg;simp at hs;have at_:∀ t:Int,0<=t->t<f.Code.length->(pl[t.toNat]?).getD 0=(kept r.Keep t.toNat:Int)/\kept r.Keep t.toNat<kept r.Keep f.Code.length:=λt h0 h1=>by
  simp_all[Apy]
 have nx:(j:Int)+1<f.Code.length->(kept r.Keep j:Int)+1<kept r.Keep f.Code.length:=λh=>by
  have:=Apy hf hlast hr (t:=j+1) (by omega)
  omega
 intro t ht
 by_cases h20:(OR f j).Op=20
 ·simp_all[AgO,mvI,Qa]
 ·by_cases h21:(OR f j).Op=21
  ·rw[AgO (.inr h21)]at ht;have a:=at_ _ (t2 h21).1 (t2 h21).2
   have b:=nx (by
    have:=hn ((j:Int)+1) (by
     unfold Qa
     grind)
    omega)
   have hmem:t=(pl[(OR f j).B.toNat]?).getD 0\/t=(kept r.Keep j:Int)+1:=by
    simp only[mvI,if_neg h20,if_pos h21,Qa]at ht
    grind
   omega
  ·have hop:(mvI pl (rnI to (OR f j))).Op=(OR f j).Op:=by
    have h:=AiH to (OR f j);simp_all[mvI]
   unfold Qa at ht;rw[hop,if_neg h20]at ht
   by_cases h23:(OR f j).Op=23\/(OR f j).Op=24
   ·simp_all
   ·rw[if_neg h23,if_neg h21]at ht
    have b:=nx (by
     simp_all[Qa])
    grind
theorem Aon (to:List Int) (x:OP) (v:Int):v∈PW (rnI to x)↔∃ s∈PW x,v=rnS to s:=by
 grind [PW,QE,rnI]
theorem AvV (pl:List Int) (x:OP):PW (mvI pl x)=PW x:=by
 grind [mvI,PW,QE]
theorem Aqh (hf:Pu f) (hd:RW f) (hx:x∈f.Code) {s:Int} (hs:s∈PW x):0<=s/\s<f.Slots.length:=by
 rcases aAK.1 hs with h|h
 ·exact hf.uses x hx s h
 ·by_cases hop:x.Op=16\/x.Op=17
  ·rw[if_pos hop]at h;rw[aAI.1 h];exact hd x hx hop
  simp_all
theorem Asz (hf:Pu f) (hd:RW f) (hr:XF f r) {pl:List Int} (hu:∀ k:Nat,k<f.Code.length->Pt r.Keep k=true->∀ v∈PW (rnI r.To (OR f k)),v∈used) (htl:to.length=r.To.length) (hto:∀ (s:Nat) x,to[s]? =some x->0<=x/\(Pd r.To s∈used->used[x.toNat]? =some (Pd r.To s))) {p:Nat} (hx:(UL f r.Keep to pl f.Code.length)[p]? =some x):∀ v∈PW x,0<=v/\v<used.length:=by
 have hkl:=hr.2.1;have hrl:=hr.1.1;obtain⟨j,hj,hk,rfl,rfl⟩:=(AdB (f:=f) (keep:=r.Keep) (to:=to) (pl:=pl) f.Code.length (by omega)).2 p x hx
 have hxm:=(hf.at (j:=(j:Int)) (by omega) (by omega)).2
 intro v hv;rw[AvV,Aon]at hv;obtain⟨s,hs,rfl⟩:=hv;obtain⟨h0,h1⟩:=Aqh hf hd hxm hs;have hm:=hu j hj hk (rnS r.To s) ((Aon _ _ _).2 ⟨s,hs,rfl⟩);rw[(hr.1.rng h0 h1).2.2]at hm;have hg:=Qv (to:=to) (s:=s) h0 (by omega)
 have e:rnS to s=Pd to s:=by simp_all[rnS]
 grind [aAW]
theorem SC.AxU {i:Int} (h:SC ps i most f):Agw f:=by
 have hl:=h.len;have hg:f.Code[f.Code.length-1]? =some (OR f (f.Code.length-1:Nat)):=by grind [OR]
 have he:=h.last _ hg;unfold Agw;rcases he with e|⟨w,_,e⟩<;>rw[e]<;>simp
theorem Atq (hf:Pu f) (hd:RW f) (hlast:Agw f) (hr:XF f r):Hs (TB f r) λq=>q.2=0/\Pu q.1/\RW q.1:=by
 have hkl:=hr.2.1;have hsl:=hf.slots;have hlen:=hf.len';have hl1:=hf.len;refine(Ara hf hd hr).mono λq ⟨h0,used,to,pl,u1,u2,n1,n2,p1,p2,sl,_,cd⟩=>⟨h0,?_⟩
 have hcl:q.1.Code.length=kept r.Keep f.Code.length:=by grind [AdB]
 have hk0:=Apy hf hlast hr (t:=0) (by omega)
 have hkl2:=Ana r.Keep f.Code.length;have hul:=AmZ (l:=used) (a:=0) (n:=f.Slots.length) u1.1.1 λx hx=>⟨(u1.1.2 x hx).1,u1.2 x hx⟩
 have nm:∀ x∈q.1.Code,∀ v∈PW x,0<=v/\v<q.1.Slots.length:=by
  intro x hx v hv;obtain⟨p,hp⟩:=aAM hx;rw[cd]at hp;have:=Asz hf hd hr u2 n1 n2 hp v hv;omega
 refine⟨⟨by omega,by omega,by omega,λk x hx j hj=>?_,λx hx v hv=>nm x hx v (aAg _ hv)⟩,λx hx hop=>nm x hx x.A (by simp_all[PW])⟩
 rw[cd]at hx;have:=Atr hf hlast hr p2 hx j hj;omega
def Afq (n:Nat) (f:Mk):Prop:=∀ x∈f.Code,x.Op=22->0<=x.A/\x.A<n
theorem SC.calls {i:Int} (h:SC ps i most f) (hi:0<=i):Afq ps.length f:=by
 intro x hx hop;obtain⟨k,hk⟩:=aAM hx;have hkl:=(aAC.1 hk).1
 by_cases hk1:k+1<f.Code.length
 ·have hins:=h.body k x hk hk1;cases hins<;>grind
 ·have he:=h.last x (by grind)
  rcases he with rfl|⟨w,_,rfl⟩<;>simp at hop
theorem AtZ {n:Nat} (h:Afq n f) {keep:List Bool} {pl:List Int} (hk:f.Code.length<=keep.length):∀ x∈UL f keep to pl f.Code.length,x.Op=22->0<=x.A/\x.A<n:=by
 intro x hx hop;obtain⟨p,hp⟩:=aAM hx;obtain⟨j,h1,_,_,rfl⟩:=(AdB (f:=f) (keep:=keep) (to:=to) (pl:=pl) _ hk).2 p x hp;have hm:OR f (j:Nat)∈f.Code:=by
  grind [OR]
 have ho:(mvI pl (rnI to (OR f (j:Nat)))).Op=(OR f (j:Nat)).Op:=by
  refine Eq.trans ?_ (AiH to _)
  grind [mvI]
 rw[ho]at hop;have e:mvI pl (rnI to (OR f (j:Nat)))=OR f (j:Nat):=by grind [mvI,rnI]
 rw[e];exact h _ hm hop
theorem Asy (hf:Pu f) (hd:RW f) (hlast:Agw f) {n:Nat} (hc:Afq n f) (hr:XF f r):Hs (TB f r) λq=>q.2=0/\Pu q.1/\RW q.1/\Afq n q.1:=by
 obtain⟨q,e,h1,h2,h3⟩:=Atq hf hd hlast hr;obtain⟨q',e',_,used,to,pl,_,_,_,_,_,_,_,_,cd⟩:=Ara hf hd hr;rw[e]at e';cases e';refine⟨q,e,h1,h2,h3,?_⟩;unfold Afq;rw[cd];exact AtZ hc (by rw[hr.2.1];omega)
theorem Atv (hf:Pu f) (hd:RW f) (hml:Acv f) {l:Pg} (hacc:Acc f l.Out):Hs (ZN f l) λg=>Hs (Sp f g.1) λto=>Hs (AbJ f l to) λkeep=>XF f ⟨to,keep⟩:=by
 have hlen:=hf.len';have hsl:=hf.slots;refine Hs.mono (P:=SV Rm f l.Out) ?_ λg hg=>?_
 ·exact(AmO hf hd (hacc.1.len hf) false).bind λr hr=>.pure hr
 rcases hg with⟨_,_,hg⟩|⟨_,hn,_⟩
 rotate_left
 ·simp_all
 refine(AoH hlen hsl hml hg (λx y r s hr hs hy=>((hg.2 y s hs).2 _).2 (((hg.2 x r hr).2 _).1 hy).symm) λx r hr hx=>?_).mono λto hto=>?_
 ·rcases((hg.2 x r hr).2 _).1 hx with⟨_,_,_,_,_,_,h',_⟩|⟨_,_,_,_,_,_,h',_⟩<;>exact h' rfl
 refine(Apx hf hacc.1 hml hto.ok.1).mono λkeep ⟨hkl,hkp⟩=>⟨hto.ok,hkl,λk hk h=>?_⟩
 by_cases h1:Uq f l.Out k
 ·exact h1.1
 grind
theorem Awy (ht:SG t) (n:Int):UA t n=some (decide (0<=n/\n<512)&&hasB t n,t):=by
 unfold UA;rw[Ajp,aA]
 by_cases h:0<=n/\n<512
 ·rw[decide_eq_true h];obtain⟨h0,h1⟩:=h;have hi:n.toNat / 64<8:=by omega
  have hw:=ht.word hi;simp only[cond_true,Bool.true_and];rw[Aug h0 h1,PN (by omega),aAB,Abp hi,aA,PN (AqR n).1,(AqR n).2 h0 h1]
  have e:Nat.min (n.toNat % 64) IntKind.u64.bits=n.toNat % 64:=Nat.min_eq_left (by show n.toNat % 64<=64;omega)
  have e2:(Uz t (n.toNat / 64)).fdiv (2 ^ (n.toNat % 64))=(((Uz t (n.toNat / 64)).toNat / 2 ^ (n.toNat % 64):Nat):Int):=by
   rw[Int.fdiv_eq_ediv_of_nonneg _ (Int.pow_nonneg (by omega))]
   have:Uz t (n.toNat / 64)=(((Uz t (n.toNat / 64)).toNat:Nat):Int):=by have:=hw.1;omega
   grind
  have hlt:(Uz t (n.toNat / 64)).toNat / 2 ^ (n.toNat % 64)<18446744073709551616:=Nat.lt_of_le_of_lt (Nat.div_le_self ..) hw.toNat_lt;rw[e,e2,Awq (WW.nat hlt) ⟨by omega,by omega⟩]
  congr 2;unfold hasB Aft
  grind
 grind
theorem AvC (hs:PV s) (n:Int):Aej s n=some (decide (n∈s)):=by
 unfold Aej;obtain⟨t,h1,h2,h3⟩:=AkY s (by have:=hs.length_le;omega)
 rw[h1,aA,Awy h2,aA]
 by_cases h:0<=n/\n<512
 ·simp_all
 ·rw[decide_eq_false h,Bool.false_and,decide_eq_false λhm=>h (hs.2 n hm)]
theorem AvG (hf:Pu f) {l:Pg} (hl:QM f l.Out):Hs (Abu f l) λd=>d.length<=f.Code.length/\∀ v,v∈d↔∃ k:Nat,k<f.Code.length/\v=(k:Int)/\Uq f l.Out k:=by
 have hlen:=hf.len';refine Hs.loop (λs=>∃ k:Nat,s.2=(k:Int)/\k<=f.Code.length/\s.1.length<=k/\∀ v,v∈s.1↔∃ j:Nat,j<k/\v=(j:Int)/\Uq f l.Out j) (λs=>f.Code.length-s.2.toNat) ⟨0,rfl,aAD _,aAY _,λv=>⟨λh=>(by cases h),λ⟨j,h,_⟩=>absurd h (aAG _)⟩⟩ ?_
 rintro⟨d,_⟩ ⟨k,rfl,hk,hdl,hd⟩;replace hdl:d.length<=k:=hdl;refine .dec (λhlt=>?_) λhge=>.lft (.pure ?_)
 ·have hlt:k<f.Code.length:=by omega
  have hx:=hf.at (j:=(k:Int)) (by omega) (by omega)
  have hrow:=hl.at (j:=(k:Int)) (by omega) (by omega)
  rw[aAB]at hx hrow;simp only[Pq,hx.1,aA,AhK,OX (show k<9223372036854775807 by omega)]
  have no:¬ Uq f l.Out k->Rnd (λs:List Int×Int=>∃ k:Nat,s.2=(k:Int)/\k<=f.Code.length/\s.1.length<=k/\∀ v,v∈s.1↔∃ j:Nat,j<k/\v=(j:Int)/\Uq f l.Out j) (λs=>f.Code.length-s.2.toNat) (d,(k:Int)) (λd:List Int=>d.length<=f.Code.length/\∀ v,v∈d↔∃ k:Nat,k<f.Code.length/\v=(k:Int)/\Uq f l.Out k) (.inl (d,((k+1:Nat):Int))):=λhn=>by
   refine⟨⟨k+1,rfl,hlt,by grind,λv=>?_⟩,by grind⟩
   grind
  by_cases hop:(OR f k).Op=16\/(OR f k).Op=17
  ·rw[if_pos hop];simp only[cond_true,hrow.1,aA];rw[AvC hrow.2.1,aA];refine .cond (λh=>?_) λh=>.cnt (no λhk=>by have:=hk.2;simp_all)
   have hdk:Uq f l.Out k:=⟨hop,by simp_all⟩
   refine .chk (by simp;omega) (.cnt ⟨⟨k+1,rfl,hlt,by simp;omega,λv=>?_⟩,by grind⟩)
   grind
  ·rw[if_neg hop];exact .cnt (no λh=>hop h.1)
 ·have hkk:k=f.Code.length:=by omega
  subst hkk;exact⟨hdl,hd⟩
theorem AvH (hf:Pu f) {l:Pg} (hl:QM f l.Out) (hml:Acv f) (htl:to.length=f.Slots.length):Hs (Yx f l to) λkeep=>keep.length=f.Code.length/\∀ k:Nat,k<f.Code.length->(Pt keep k=true↔¬ Uq f l.Out k/\¬ ((OR f k).Op=17/\Pd to (OR f k).A=Pd to (OR f k).B)):=by
 have hlen:=hf.len';refine .chk (by omega) ((AvG hf hl).bind λd ⟨hdl,hd⟩=>?_)
 refine Hs.loop (λs=>∃ k:Nat,s.2=(k:Int)/\k<=f.Code.length/\s.1.length=f.Code.length/\(∀ j:Nat,j<k->(Pt s.1 j=true↔¬ Uq f l.Out j/\¬ ((OR f j).Op=17/\Pd to (OR f j).A=Pd to (OR f j).B)))/\∀ j:Nat,k<=j->j<f.Code.length->Pt s.1 j=false) (λs=>f.Code.length-s.2.toNat)
  ⟨0,rfl,aAD _,by simp,λj hj=>absurd hj (aAG _),λj _ hj=>by grind [Pt]⟩ ?_
 rintro⟨keep,_⟩ ⟨k,rfl,hk,hkl,hk1,hk2⟩;replace hkl:keep.length=f.Code.length:=hkl;refine .dec (λhlt=>?_) λhge=>.lft (.pure ?_)
 rotate_left
 ·have hkk:k=f.Code.length:=by omega
  subst hkk;exact⟨hkl,hk1⟩
 have hlt:k<f.Code.length:=by omega
 have hx:=hf.at (j:=(k:Int)) (by omega) (by omega)
 rw[aAB]at hx;simp only[Pq,hx.1,aA];refine Hs.loop (λi=>∃ m:Nat,i=(m:Int)/\m<=d.length/\∀ v∈d.take m,v≠(k:Int)) (λi=>d.length-i.toNat) ⟨0,rfl,aAD _,λv h=>by simp at h⟩ ?_
 rintro _ ⟨m,rfl,hm,hno⟩;unfold Yh;rw[OX (by omega),OX (by omega)]
 refine .dec (λhlt2=>?_) λhge2=>.lft ?_
 ·have hlt2:m<d.length:=by omega
  have hg:d[m]? =some d[m]:=aAA _;have htk:d.take (m+1)=d.take m++[d[m]]:=by simp_all
  have hdm:=aAF hlt2;generalize d[m]=x at hg htk hdm;refine .chk (by omega) ?_
  rw[aAB,hg,aA];refine .beq (λhe=>?_) λhe=>.cnt ⟨⟨m+1,rfl,hlt2,λv hv=>?_⟩,by grind⟩
  ·subst he;obtain⟨j,_,e,hdk⟩:=(hd _).1 hdm;have e:j=k:=by omega
   subst e;refine .lft (.cnt ⟨⟨j+1,rfl,hlt,hkl,λi hi=>?_,λi h1 h2=>hk2 i (by omega) h2⟩,by grind⟩)
   grind
  grind
 ·have hmm:m=d.length:=by omega
  subst hmm;rw[aAR]at hno;have hnd:¬ Uq f l.Out k:=λh=>hno k ((hd _).2 ⟨k,hlt,rfl,h⟩) rfl
  have hgk:keep[k]? =some (Pt keep k):=by grind [Pt]
  have fin:∀ q:Bool,(q=true↔¬ ((OR f k).Op=17/\Pd to (OR f k).A=Pd to (OR f k).B))->Rnd (λs:List Bool×Int=>∃ k:Nat,s.2=(k:Int)/\k<=f.Code.length/\s.1.length=f.Code.length/\(∀ j:Nat,j<k->(Pt s.1 j=true↔¬ Uq f l.Out j/\¬ ((OR f j).Op=17/\Pd to (OR f j).A=Pd to (OR f j).B)))/\∀ j:Nat,k<=j->j<f.Code.length->Pt s.1 j=false) (λs=>f.Code.length-s.2.toNat) (keep,(k:Int)) (λkeep:List Bool=>keep.length=f.Code.length/\∀ k:Nat,k<f.Code.length->(Pt keep k=true↔¬ Uq f l.Out k/\¬ ((OR f k).Op=17/\Pd to (OR f k).A=Pd to (OR f k).B))) (.inl (keep.set k q,((k+1:Nat):Int))):=by
   intro q hq;have at_:∀ i:Nat,Pt (keep.set k q) i=if i=k then q else Pt keep i:=λi=>by
    unfold Pt
    grind
   refine⟨⟨k+1,rfl,hlt,by simp[hkl],λi hi=>?_,λi h1 h2=>?_⟩,by grind⟩
   ·show Pt (keep.set k q) i=true↔_;rw[at_]
    grind
   grind
  refine .bne (λh17=>.chk (by omega) ?_) λh17=>?_
  ·rw[aAB,hgk,aA];exact .cnt (fin true ⟨λ_ h=>h17 h.1,λ_=>rfl⟩)
  ·obtain⟨a0,a1,b0,b1,_⟩:=hml _ hx.2 h17;rw[QU _ a0,Qv a0 (by omega),aA,QU _ b0,Qv b0 (by omega),aA]
   refine .chk (by omega) ?_
   rw[aAB,hgk,aA];exact .cnt (fin _ ⟨λh h'=>by simp_all,λh=>by simp_all⟩)
theorem AsJ {n:Nat} {a b:List Bool} {p:Nat->Prop} (ha:a.length=n/\∀ k:Nat,k<n->(Pt a k=true↔p k)) (hb:b.length=n/\∀ k:Nat,k<n->(Pt b k=true↔p k)):a=b:=by
 refine aAZ λk=>?_
 by_cases hk:k<n
 ·have e1:a[k]? =some (Pt a k):=by grind [Pt]
  have e2:b[k]? =some (Pt b k):=by grind [Pt]
  grind
 simp_all
theorem AuI (hf:Pu f) {l:Pg} (hl:QM f l.Out) (hml:Acv f) (htl:to.length=f.Slots.length):∃ keep,Yx f l to=some keep/\AbJ f l to=some keep:=by
 obtain⟨a,h1,h2⟩:=AvH hf hl hml htl;obtain⟨b,k1,k2⟩:=Apx hf hl hml htl;exact⟨a,h1,by rw[k1,AsJ k2 h2]⟩
def alS (f:Mk) (t:Int):Int:=((f.Slots[t.toNat]?).map Pa.Align).getD 0
def Adl (f:Mk) (l:List Int) (a0 a:Int):Prop:=a0<=a/\(∀ t∈l,alS f t<=a)/\(a=a0\/∃ t∈l,a=alS f t)
theorem Adl.unique {l l':List Int} {a0 b:Int} (h:Adl f l a0 a) (k:Adl f l' a0 b) (e:∀ t,t∈l↔t∈l'):a=b:=by
 obtain⟨h1,h2,h3⟩:=h;obtain⟨k1,k2,k3⟩:=k
 grind
theorem Adl.nil (f:Mk) (a:Int):Adl f [] a a:=⟨Int.le_refl _,λt h=>(by cases h),.inl rfl⟩
theorem Adl.snoc {l:List Int} {a0:Int} (h:Adl f l a0 a) (t:Int):Adl f (l++[t]) a0 (max a (alS f t)):=by
 obtain⟨h1,h2,h3⟩:=h;refine⟨by omega,λu hu=>?_,?_⟩
 all_goals grind
def Avx (to:List Int) (s:Int) (l:List Int):Prop:=∀ t,t∈l↔∃ j:Nat,j<to.length/\t=(j:Int)/\Pd to j=s
def AqV (f:Mk) (r:Pl) (used:List Int):Prop:=Ur used λv=>∃ k:Nat,k<f.Code.length/\Pt r.Keep k=true/\v∈PW (rnI r.To (OR f k))
structure Zt (f:Mk) (r:Pl) (used:List Int) (out:List Pa):Prop where
 len:out.length=used.length
 at_:∀ (i:Nat) (u:Int) (y:Pa),used[i]? =some u->out[i]? =some y->∃ x l,f.Slots[u.toNat]? =some x/\y.Size=x.Size/\Avx r.To u l/\Adl f l x.Align y.Align
theorem Zt.unique {a b:List Pa} (h:Zt f r used a) (k:Zt f r used b):a=b:=by
 refine aAZ λi=>?_
 by_cases hi:i<used.length
 ·have e1:a[i]? =some (a[i]'(by have:=h.len;omega)):=aAA _
  have e2:b[i]? =some (b[i]'(by have:=k.len;omega)):=aAA _
  have hu:used[i]? =some used[i]:=aAA _;obtain⟨x,l,x1,x2,x3,x4⟩:=h.at_ i _ _ hu e1;obtain⟨x',l',y1,y2,y3,y4⟩:=k.at_ i _ _ hu e2;rw[x1]at y1;cases y1;rw[e1,e2];have ea:=x4.unique y4 λt=>(x3 t).trans (y3 t).symm
  congr 1;generalize a[i]'_=p at *;generalize b[i]'_=q at *;cases p;cases q;simp_all
 ·rw[aAJ (by have:=h.len;omega),aAJ (by have:=k.len;omega)]
def AqL (r:Pl) (used to:List Int):Prop:=to.length=r.To.length/\∀ (s:Nat) x,to[s]? =some x->Pd r.To s∈used->0<=x/\used[x.toNat]? =some (Pd r.To s)
def AjI (r:Pl) (pl:List Int):Prop:=pl.length=r.Keep.length/\∀ j:Nat,j<r.Keep.length->pl[j]? =some (kept r.Keep j:Int)
theorem AjI.unique {a b:List Int} (h:AjI r a) (k:AjI r b):a=b:=by
 refine aAZ λj=>?_
 by_cases hj:j<r.Keep.length
 ·rw[h.2 j hj,k.2 j hj]
 ·rw[aAJ (by have:=h.1;omega),aAJ (by have:=k.1;omega)]
theorem Avc {to':List Int} (h:∀ s∈PW x,rnS to s=rnS to' s):rnI to x=rnI to' x:=by
 simp_all[rnI,PW,QE]
theorem PV.inj {l:List Int} (h:PV l) {j:Nat} (hi:l[i]? =some v) (hj:l[j]? =some v):i=j:=by
 obtain⟨a1,a2⟩:=aAC.1 hi;obtain⟨b1,b2⟩:=aAC.1 hj;have hp:=aAk.1 h.1
 grind
theorem AjV {α β:Type} {f g:α->Option β}:∀ {l:List α},(∀ x∈l,f x=g x)->l.filterMap f=l.filterMap g
 | [],_=>rfl
 | a::l,h=>by
  have h0:=h a (aAQ ..);have h1:=AjV (l:=l) λx hx=>h x (aAL _ hx)
  grind
theorem Aua (hf:Pu f) (hd:RW f) (hr:XF f r) {to' pl:List Int} (hs:PV used) (hu:∀ k:Nat,k<f.Code.length->Pt r.Keep k=true->∀ v∈PW (rnI r.To (OR f k)),v∈used) (h:AqL r used to) (h':AqL r used to') :
  UL f r.Keep to pl f.Code.length=UL f r.Keep to' pl f.Code.length:=by
 have hrl:=hr.1.1;unfold UL;refine AjV λj hj=>?_
 have hj:=List.mem_range.1 hj
 by_cases hk:Pt r.Keep j=true
 ·have hxm:=(hf.at (j:=(j:Int)) (by omega) (by omega)).2
  rw[Avc λs hs'=>?_]
  obtain⟨h0,h1⟩:=Aqh hf hd hxm hs';have hm:=hu j hj hk (rnS r.To s) ((Aon _ _ _).2 ⟨s,hs',rfl⟩);rw[(hr.1.rng h0 h1).2.2]at hm;have one:∀ {t:List Int},AqL r used t->rnS t s=Pd t s/\0<=Pd t s/\used[(Pd t s).toNat]? =some (Pd r.To s):=fun{t} ht=>by
   have htl:=ht.1;have hg:=Qv (to:=t) (s:=s) h0 (by omega)
   have:=ht.2 s.toNat _ hg;rw[aAW h0]at this;simp_all[rnS]
  obtain⟨a1,a2,a3⟩:=one h;obtain⟨b1,b2,b3⟩:=one h';have:=hs.inj a3 b3;omega
 simp_all
def AhQ (f:Mk) (r:Pl) (q:Mk×Int):Prop:=q.2=0/\q.1.Params=f.Params/\∃ used to pl:List Int,AqV f r used/\Zt f r used q.1.Slots/\AqL r used to/\AjI r pl/\q.1.Code=UL f r.Keep to pl f.Code.length
theorem AhQ.unique (hf:Pu f) (hd:RW f) (hr:XF f r) {q q':Mk×Int} (h:AhQ f r q) (k:AhQ f r q'):q=q':=by
 obtain⟨h1,h2,used,to,pl,h3,h4,h5,h6,h7⟩:=h;obtain⟨k1,k2,used',to',pl',k3,k4,k5,k6,k7⟩:=k;have e1:used=used':=Ur.eq h3 k3 λv _ _=>Iff.rfl
 subst e1;have e2:=h6.unique k6;subst e2;have hm:∀ k:Nat,k<f.Code.length->Pt r.Keep k=true->∀ v∈PW (rnI r.To (OR f k)),v∈used:=λj hj hk v hv=>by
  have hsl:=hf.slots;have hxm:=(hf.at (j:=(j:Int)) (by omega) (by omega)).2
  have:=AgL hf hd hr.1 hxm v hv;exact(h3.2 v).2 ⟨⟨this.1,by omega⟩,j,hj,hk,hv⟩
 rw[Aua hf hd hr h3.1 hm h5 k5]at h7;obtain⟨⟨p,s,c⟩,e⟩:=q;obtain⟨⟨p',s',c'⟩,e'⟩:=q';simp only at *;rw[h1,k1,h2,k2,h7,k7,h4.unique k4]
section
variable {f:Mk}
theorem Aum (hsl:f.Slots.length<=500) {x:Pa} {out:List Pa} (hi:i<=1000) {l:List Int} (hll:l.length<=1000) (ho:out.length=i) (hl:∀ t∈l,0<=t/\t<f.Slots.length) {Q:Mk×Int->Prop} (hI:∀ y:Pa,y.Size=x.Size->Adl f l x.Align y.Align->Rnd I μ s0 Q (.inl (out++[y],((i+1:Nat):Int)))):Hs (Pc (λs=>YO l f out x (i:Int) s.1 s.2) (x.Align,0)) (Rnd I μ s0 Q):=by
 refine Hs.loop (λs=>∃ k:Nat,s.2=(k:Int)/\k<=l.length/\Adl f (l.take k) x.Align s.1) (λs=>l.length-s.2.toNat) ⟨0,rfl,aAD _,by grind [Adl.nil]⟩ ?_
 rintro⟨a,_⟩ ⟨k,rfl,hk,hm⟩;refine .dec (λhlt=>?_) λhge=>.lft (.chk (by simp;omega) (.chk (by simp;omega) ?_))
 ·have hlt:k<l.length:=by omega
  have hg:l[k]? =some l[k]:=aAA _;have htk:l.take (k+1)=l.take k++[l[k]]:=by simp_all
  have ht:=hl _ (aAF hlt);generalize l[k]=t at hg htk ht;refine .chk (by omega) ?_
  rw[aAB,hg,aA];refine(Hs.ix (P:=λy=>alS f t=y.Align) ht.1 ht.2 λy hy=>by grind [alS]).bind λy hy=>?_
  rw[OX (by omega),AbB,<- hy]
  refine .cnt ⟨⟨k+1,rfl,hlt,?_⟩,by grind⟩
  rw[htk];exact hm.snoc t
 ·have hkk:k=l.length:=by omega
  subst hkk;rw[aAR]at hm;unfold YP;rw[OX (by omega)]
  exact .cnt (hI _ rfl hm)
theorem Zt.snoc {out:List Pa} (ho:out.length=i) (hi:i<=used.length) (h:Zt f r (used.take i) out) (hu:used[i]? =some u) {x y:Pa} {l:List Int} (hx:f.Slots[u.toNat]? =some x) (h1:y.Size=x.Size) (hl:Avx r.To u l) (h2:Adl f l x.Align y.Align):Zt f r (used.take (i+1)) (out++[y]):=by
 have hlt:=(aAC.1 hu).1;refine⟨by grind,λj v z hv hz=>?_⟩
 by_cases e:j<i
 ·rw[aAd (by omega)]at hz
  refine h.at_ j v z ?_ hz
  grind
 grind
theorem Ayd (hf:Pu f) (hd:RW f) (hr:XF f r):Hs (AbN f r) λl=>AqV f r l/\PH f.Slots.length l:=by
 have hlen:=hf.len';have hsl:=hf.slots;have hkl:=hr.2.1;refine Hs.loop (λs=>∃ k:Nat,s.2=(k:Int)/\k<=f.Code.length/\PH f.Slots.length s.1/\∀ v,v∈s.1↔∃ j:Nat,j<k/\Pt r.Keep j=true/\v∈PW (rnI r.To (OR f j))) (λs=>f.Code.length-s.2.toNat) ⟨0,rfl,aAD _,PH.nil _,λv=>⟨λh=>(by cases h),λ⟨j,hj,_⟩=>absurd hj (aAG _)⟩⟩ ?_
 rintro⟨l,_⟩ ⟨k,rfl,hk,hs,hj⟩;replace hs:PH f.Slots.length l:=hs;have split:∀ v,(∃ j:Nat,j<k+1/\Pt r.Keep j=true/\v∈PW (rnI r.To (OR f j)))↔v∈l\/(Pt r.Keep k=true/\v∈PW (rnI r.To (OR f k))):=λv=>by
  grind
 refine .dec (λhlt=>.dec (λ_=>?_) λh=>?_) λhge=>.lft (.pure ⟨⟨hs.1,λv=>?_⟩,hs⟩)
 ·have hlt:k<f.Code.length:=by omega
  have hx:=hf.at (j:=(k:Int)) (by omega) (by omega)
  rw[aAB]at hx;have hg:r.Keep[k]? =some (Pt r.Keep k):=by grind [Pt]
  have hnr:=AgL hf hd hr.1 hx.2;unfold ZB;simp only[Pq,hg,hx.1,aA,ArZ,Are,Anb,OX (show k<9223372036854775807 by omega)]
  refine .cond (λh=>.cnt ⟨⟨k+1,rfl,hlt,hs,λv=>?_⟩,by grind⟩) λh=>?_
  ·simp_all
  ·have hkt:Pt r.Keep k=true:=by simp_all
   obtain⟨y,hy⟩:∃ y,y=rnI r.To (OR f k):=⟨_,rfl⟩;rw[<- hy]at hnr ⊢;have hul:(QE y).length<=1:=by grind [QE]
   have hll:=hs.1.length_le;rw[union_eq _ _ (by omega),aA]
   obtain⟨u1,u2⟩:=Vw (n:=f.Slots.length) (by omega) (b:=QE y) (a:=l) hs (λx hx=>hnr x (by grind [PW]))
   by_cases hdy:y.Op=16\/y.Op=17
   ·simp only[Ajy,if_pos hdy,cond_true];have hA:=hnr y.A (by simp_all[PW])
    obtain⟨a1,a2⟩:=PH.add (n:=f.Slots.length) u1 hA (by omega)
    have a3:=(PH.AqY u1 hA (by omega)).2.2
    rw[a2,aA];refine .cnt ⟨⟨k+1,rfl,hlt,a1,λv=>?_⟩,by grind⟩
    show v∈VG y.A (Ro l (QE y))↔_;rw[split v,a3,u2,<- hy];unfold PW
    grind
   ·simp only[Ajy,if_neg hdy,cond_false];refine .cnt ⟨⟨k+1,rfl,hlt,u1,λv=>?_⟩,by grind⟩
    simp_all[PW]
 ·omega
 ·have hkk:k=f.Code.length:=by omega
  subst hkk;constructor
  ·intro h;have:=hs.2 v h;exact⟨⟨(hs.1.2 v h).1,by omega⟩,(hj v).1 h⟩
  simp_all
theorem Awc (hf:Pu f) (hd:RW f) (hr:XF f r):Hs (TB f r) (AhQ f r):=by
 have hlen:=hf.len';have hsl:=hf.slots;have hkl:=hr.2.1;have htl:=hr.1.1;refine(AnM hf r).bind λe he=>.bne (λh=>(h (he.2.2 hr)).elim) λ_=>?_
 refine(Ayd hf hd hr).bind λused ⟨hu0,hu1⟩=>?_
 have hul:=hu1.1.length_le;refine Hs.loop (λs=>∃ i:Nat,s.2=(i:Int)/\i<=used.length/\s.1.length=i/\Zt f r (used.take i) s.1) (λs=>used.length-s.2.toNat) ⟨0,rfl,aAD _,rfl,rfl,λj u y hj=>by simp at hj⟩ ?_
 rintro⟨out,_⟩ ⟨i,rfl,hi,ho,hsa⟩;refine .dec (λhlt=>?_) λhge=>.lft ?_
 ·have hlt:i<used.length:=by omega
  have hgx:used[i]? =some used[i]:=aAA _;have hxm:=aAF hlt;generalize used[i]=u at hgx hxm;have h0:=(hu1.1.2 u hxm).1;have h1:=hu1.2 u hxm;refine .chk (by omega) ?_
  simp only[aAB,hgx,aA];refine(Hs.ix (P:=λx=>f.Slots[u.toNat]? =some x) h0 h1 λx hx=>hx).bind λx hfx=>.chk (by omega) ?_
  refine(AhM (by omega) u).bind λl hm=>?_
  refine Aum hsl (by omega) (l:=l) (by omega) ho (λt ht=>?_) λy hy1 hy2=>⟨⟨i+1,rfl,hlt,by simp[ho],hsa.snoc ho (by omega) hgx hfx hy1 hm.2 hy2⟩,by grind⟩
  grind
 have hii:i=used.length:=by omega
 subst hii;rw[aAR]at hsa;refine(AoW (by omega) hul).bind λto ⟨n1,n2⟩=>(Aqj r (by omega)).bind λpl ⟨p1,p2⟩=>?_
 refine(AqX hf hkl to pl p1 out).mono λq hq=>?_
 subst hq;exact⟨rfl,rfl,used,to,pl,hu0,hsa,⟨n1,λs x hs hm=>⟨(n2 s x hs).1,(n2 s x hs).2 hm⟩⟩,⟨p1,p2⟩,rfl⟩
end
open Go Go.Dw Go.Proofs
theorem Awn (f:Mk) (to:List Int) (hsl:f.Slots.length<=500):Hs (Yu f to) λb=>b=true↔AhU f to:=by
 unfold Yu;refine .bne (λh=>.pure ⟨λh'=>(by cases h'),λh'=>(h (by rw[h'.1])).elim⟩) λh=>?_
 have hl:to.length=f.Slots.length:=by omega
 refine Hs.loop (λi=>∃ k:Nat,i=(k:Int)/\k<=to.length/\∀ s:Nat,s<k->0<=Pd to s/\Pd to s<to.length/\Sk f (Pd to s)=Sk f s/\Pd to (Pd to s)=Pd to s) (λi=>to.length-i.toNat) ⟨0,rfl,aAD _,λs hs=>absurd hs (aAG _)⟩ ?_
 rintro _ ⟨k,rfl,hk,hall⟩;unfold Yd;refine .dec (λhlt=>?_) λhge=>.lft (.pure ⟨λ_=>⟨hl,λs hs=>hall s (by omega)⟩,λ_=>rfl⟩)
 have hlt:k<to.length:=by omega
 have hg:to[k]? =some (Pd to k):=by have:=Qv (to:=to) (s:=k) (by omega) (by omega);simp_all
 rw[Pq,hg,aA];have no:∀ {p:Prop},¬ p->(AhU f to->p)->Hs (lft (some false):Option (Int⊕Bool)) (Rnd (λi=>∃ k:Nat,i=(k:Int)/\k<=to.length/\∀ s:Nat,s<k->0<=Pd to s/\Pd to s<to.length/\Sk f (Pd to s)=Sk f s/\Pd to (Pd to s)=Pd to s) (λi=>to.length-i.toNat) (k:Int) λb=>b=true↔AhU f to) :=
  λhp hq=>.lft (.pure ⟨λh=>(by cases h),λh=>(hp (hq h)).elim⟩)
 refine .dec (λh0=>no (p:=0<=Pd to k) (by omega) λh=>(h.2 k hlt).1) λh0=>?_
 refine .dec (λh1=>no (p:=Pd to k<to.length) (by omega) λh=>(h.2 k hlt).2.1) λh1=>?_
 refine Hs.bind (Hs.ix (i:=Pd to k) (P:=λx=>x.Size=Sk f (Pd to k)) (by omega) (by omega) λx hx=>AhG hx) λa ha=>?_
 refine Hs.bind (Hs.ix (i:=(k:Int)) (P:=λx=>x.Size=Sk f k) (by omega) (by omega) λx hx=>AhG hx) λb hb=>?_
 rw[ha,hb];refine .bne (λh2=>no h2 λh=>(h.2 k hlt).2.2.1) λh2=>?_
 rw[QU _ (by omega),Qv (by omega) (by omega),aA]
 refine .bne (λh3=>no h3 λh=>(h.2 k hlt).2.2.2) λh3=>?_
 rw[OX (by omega)]
 refine .cnt ⟨⟨k+1,rfl,hlt,λs hs=>?_⟩,by grind⟩
 grind
theorem Auj (hf:Pu f) (r:Pl):Hs (Adg f r) λe=>(e=0\/e=12)/\(e=0↔XF f r):=by
 have hlen:=hf.len';refine(Awn f r.To hf.slots).bind λb hb=>.cond (λh=>.pure ⟨.inr rfl,λh=>by omega,λh'=>?_⟩) λh=>?_
 ·rw[hb.2 h'.1]at h;cases h
 have hv:AhU f r.To:=hb.1 (by simp_all)
 refine .bne (λh=>.pure ⟨.inr rfl,λh=>by omega,λh'=>(h (by rw[h'.2.1])).elim⟩) λh=>?_
 have hkl:r.Keep.length=f.Code.length:=by omega
 refine Hs.loop (λi=>∃ k:Nat,i=(k:Int)/\k<=f.Code.length/\∀ j:Nat,j<k->Pt r.Keep j=false->(OR f j).Op=16\/(OR f j).Op=17) (λi=>f.Code.length-i.toNat) ⟨0,rfl,aAD _,λs hs=>absurd hs (aAG _)⟩ ?_
 rintro _ ⟨k,rfl,hk,hall⟩;refine .dec (λhlt=>?_) λhge=>.lft (.pure ⟨.inl rfl,λ_=>⟨hv,hkl,λj hj=>hall j (by omega)⟩,λ_=>rfl⟩)
 have hlt:k<f.Code.length:=by omega
 have hx:=hf.at (j:=(k:Int)) (by omega) (by omega)
 rw[aAB]at hx;have hg:r.Keep[k]? =some (Pt r.Keep k):=by grind [Pt]
 have stp:(Pt r.Keep k=false->(OR f k).Op=16\/(OR f k).Op=17)->∀ j:Nat,j<k+1->Pt r.Keep j=false->(OR f j).Op=16\/(OR f j).Op=17:=by
  grind
 simp only[Pq,hx.1,hg,aA];rw[OX (by omega)]
 refine .cond (λh=>?_) λh=>.cnt ⟨⟨k+1,rfl,hlt,stp λh'=>by simp_all⟩,by grind⟩
 have hkf:Pt r.Keep k=false:=by simp_all
 unfold Zk;rw[AhK,aA,aA]
 by_cases hd:(OR f k).Op=16\/(OR f k).Op=17
 ·rw[if_pos hd];exact .cnt ⟨⟨k+1,rfl,hlt,stp λ_=>hd⟩,by grind⟩
 ·rw[if_neg hd];exact .lft (.pure ⟨.inr rfl,λh=>by omega,λh=>(hd (h.2.2 k hlt hkf)).elim⟩)
attribute [local simp] PN aAH
def Ain (v:Int):Nat->List Int->Int
 | _,[]=>-1
 | a,x::r=>if v=x then a else Ain v (a+1) r
theorem AnJ (v:Int):∀ (a:Nat) (s:List Int),0<=Ain v a s↔v∈s
 | a,[]=>by simp[Ain]
 | a,x::r=>by
  simp only[Ain];split
  ·simp_all
  ·rename_i h;rw[AnJ v (a+1) r];simp[h]
theorem ArH (s:List Int) (v:Int) (hs:s.length<=9223372036854775807):SB s v=some (Ain v 0 s):=by
 unfold SB;refine Rg s (λ(_:Nat) i=>i) (λa i=>a=i) (λa l=>some (Ain v a l)) (λ_ _=>⟨-1,by simp[SD],by simp[Ain]⟩) (λa i x r ha hd hi hx=>?_) 0 rfl
 subst ha;have w:=OX (show a<9223372036854775807 by omega)
 obtain⟨_,rfl⟩:=aAC.1 hx
 by_cases h:v=s[a]
 all_goals simp_all[SD,Ain]
theorem ArG (v:Int):∀ (a:Nat) (s:List Int),v∈s->∃ i:Nat,Ain v a s=((a+i:Nat):Int)/\s[i]? =some v
 | a,[],h=>by cases h
 | a,x::r,h=>by
  simp only[Ain]
  by_cases e:v=x
  ·rw[if_pos e];exact⟨0,rfl,by rw[e];rfl⟩
  ·obtain⟨i,h1,h2⟩:=ArG v (a+1) r ((aAa.1 h).resolve_left e);exact⟨i+1,by omega,by simp_all⟩
theorem Axi (to:List Int) (s:Int):Rq s to=some (rnS to s):=by
 unfold Rq rnS
 by_cases h0:s<0
 ·grind
 ·rw[decide_eq_false h0,cond_false]
  by_cases h1:s>=(to.length:Int)
  ·grind
  ·rw[decide_eq_false h1,cond_false,if_pos (by omega),QU _ (by omega),Qv (by omega) (by omega)]
   rfl
theorem Axh (x:OP) (to:List Int):Yz x to=some (rnI to x):=by
 unfold Yz rnI;simp only[Axi,aA]
 grind
def Wj (f:Mk) (keep:List Bool) (to:List Int) (k:Nat):List OP:=(aAf k).filterMap λj=>if Pt keep j=true then some (rnI to (OR f (j:Nat)))else none
theorem AtW (f:Mk) (keep:List Bool) (to:List Int) (k:Nat):Wj f keep to (k+1)=Wj f keep to k++(if Pt keep k=true then[rnI to (OR f (k:Nat))]else[]):=by
 grind [Wj,aAc]
theorem Amw (f:Mk) (keep:List Bool) (to:List Int) (k:Nat):(Wj f keep to k).length<=k:=by
 grind [Wj]
theorem AuQ (f:Mk) (keep:List Bool) (to pl:List Int) (k:Nat):UL f keep to pl k=(Wj f keep to k).map (mvI pl):=by
 unfold UL Wj;rw[List.map_filterMap];simp_all
section
variable {f:Mk}
theorem Aru (hf:Pu f) (hkl:r.Keep.length=f.Code.length) (to:List Int):YT f r to=some (Wj f r.Keep to f.Code.length):=by
 have hlen:=hf.len';have key:Hs (YT f r to) λl=>l=Wj f r.Keep to f.Code.length:=by
  refine Hs.loop (λs=>∃ k:Nat,s.2=(k:Int)/\k<=f.Code.length/\s.1=Wj f r.Keep to k) (λs=>f.Code.length-s.2.toNat) ⟨0,rfl,aAD _,rfl⟩ ?_
  rintro⟨_,_⟩ ⟨k,rfl,hk,rfl⟩;refine .dec (λhlt=>?_) λhge=>.lft (.pure ?_)
  ·have hlt:k<f.Code.length:=by omega
   have hx:=hf.at (j:=(k:Int)) (by omega) (by omega)
   rw[aAB]at hx;have hg:r.Keep[k]? =some (Pt r.Keep k):=by grind [Pt]
   have hs:=AtW f r.Keep to k;have hl:=Amw f r.Keep to k;simp only[Pq,hx.1,aA];refine .dec (λ_=>?_) λh=>by omega
   rw[hg,aA];unfold XB;rw[Axh,OX (by omega)]
   refine .cond (λh=>?_) λh=>?_
   ·rw[if_pos h]at hs;exact .chk (by simp;omega) (.cnt ⟨⟨k+1,rfl,hlt,hs.symm⟩,by grind⟩)
   ·rw[if_neg (by simp_all),aAm]at hs
    exact .cnt ⟨⟨k+1,rfl,hlt,hs.symm⟩,by grind⟩
  ·have hkk:k=f.Code.length:=by omega
   subst hkk;rfl
 obtain⟨l,h,rfl⟩:=key;exact h
theorem Aoi {keep:List Bool}:x∈Wj f keep to k↔∃ j:Nat,j<k/\Pt keep j=true/\x=rnI to (OR f j):=by
 unfold Wj
 grind
theorem Axj (hf:Pu f) (hd:RW f) (hr:XF f r):Hs (Abj f r) λl=>AqV f r l/\PH f.Slots.length l:=by
 have hlen:=hf.len';have hkl:=hr.2.1;unfold Abj;rw[Aru hf hkl,aA];have hK:=Amw f r.Keep r.To f.Code.length;have hin:∀ x∈Wj f r.Keep r.To f.Code.length,∀ v∈PW x,0<=v/\v<f.Slots.length:=λx hx v hv=>by
  obtain⟨j,hj,_,rfl⟩:=Aoi.1 hx;exact AgL hf hd hr.1 (hf.at (j:=(j:Int)) (by omega) (by omega)).2 v hv
 generalize hKe:Wj f r.Keep r.To f.Code.length=K at hK hin;have nm:∀ x:OP,(PW x).length<=2:=λx=>by
  grind [PW,QE]
 refine Hs.loop (λs=>∃ k:Nat,s.2=(k:Int)/\k<=K.length/\s.1.length<=2*k/\s.1=(K.take k).flatMap PW) (λs=>K.length-s.2.toNat) ⟨0,rfl,aAD _,aAY _,by simp⟩ ?_
 rintro⟨l,_⟩ ⟨k,rfl,hk,hll,hl⟩;replace hll:l.length<=2*k:=hll;replace hl:l=(K.take k).flatMap PW:=hl;refine .dec (λhlt=>?_) λhge=>.lft ?_
 ·have hlt:k<K.length:=by omega
  have hg:K[k]? =some K[k]:=aAA _;have htk:K.take (k+1)=K.take k++[K[k]]:=by simp_all
  generalize K[k]=x at hg htk;have hu:=Atm x;have hn:=nm x;have step:(K.take (k+1)).flatMap PW=l++PW x:=by simp_all
  refine .chk (by omega) ?_
  simp only[aAB,hg,aA,Arv,AhK,OX (show k<9223372036854775807 by omega)]
  refine .chk (by omega) ?_
  by_cases hdy:x.Op=16\/x.Op=17
  ·rw[if_pos hdy];simp only[cond_true];have e:PW x=QE x++[x.A]:=by simp_all[PW]
   rw[e]at step hn;refine .chk (by simp;omega) (.cnt ⟨⟨k+1,rfl,hlt,?_,?_⟩,by grind⟩)
   all_goals grind
  ·rw[if_neg hdy];have e:PW x=QE x:=by simp_all[PW]
   rw[e]at step;refine .cnt ⟨⟨k+1,rfl,hlt,?_,step.symm⟩,by grind⟩
   simp;omega
 ·have hkk:k=K.length:=by omega
  subst hkk;rw[aAR]at hl;refine(Arh l (by omega)).bind λq hq=>.pure ?_
  have hm:∀ v,v∈l↔∃ j:Nat,j<f.Code.length/\Pt r.Keep j=true/\v∈PW (rnI r.To (OR f j)):=λv=>by
   rw[hl,List.mem_flatMap,<- hKe]
   grind [Aoi]
  refine⟨hq.mono λv _ _=>hm v,hq.1,λv hv=>?_⟩
  have:=((hq.2 v).1 hv).2
  grind
theorem AvY (hl:to.length<=500) (s:Int):Hs (Zf to s) λl=>l.length<=to.length/\Avx to s l:=by
 refine Hs.loop (λz=>∃ k:Nat,z.2=(k:Int)/\k<=to.length/\z.1.length<=k/\∀ t,t∈z.1↔∃ j:Nat,j<k/\t=(j:Int)/\Pd to j=s) (λz=>to.length-z.2.toNat) ⟨0,rfl,aAD _,aAY _,λt=>⟨λh=>(by cases h),λ⟨j,h,_⟩=>absurd h (aAG _)⟩⟩ ?_
 rintro⟨l,_⟩ ⟨k,rfl,hk,hll,hm⟩;replace hll:l.length<=k:=hll;refine .dec (λhlt=>?_) λhge=>.lft (.pure ?_)
 ·have hlt:k<to.length:=by omega
  have hg:=Qv (to:=to) (s:=(k:Int)) (by omega) (by omega)
  rw[aAB]at hg;simp only[Pq,hg,aA];rw[OX (by omega)]
  refine .beq (λh=>.chk (by simp;omega) (.cnt ⟨⟨k+1,rfl,hlt,by simp;omega,λt=>?_⟩,by grind⟩)) λh=>.cnt ⟨⟨k+1,rfl,hlt,by grind,λt=>?_⟩,by grind⟩
  all_goals grind
 ·have hk:k=to.length:=by omega
  subst hk;exact⟨hll,hm⟩
theorem AuT (r:Pl) (hl:r.Keep.length<=1000000):Hs (AbO r) (AjI r):=by
 refine Hs.loop (λs=>∃ k:Nat,s.2.1=(k:Int)/\k<=r.Keep.length/\s.2.2=(kept r.Keep k:Int)/\s.1.length=k/\∀ j:Nat,j<k->s.1[j]? =some (kept r.Keep j:Int)) (λs=>r.Keep.length-s.2.1.toNat) ⟨0,rfl,aAD _,rfl,rfl,λj hj=>absurd hj (aAG _)⟩ ?_
 rintro⟨l,_,n⟩ ⟨k,rfl,hk,hn,hll,hj⟩;subst hn;replace hll:l.length=k:=hll;refine .dec (λhlt=>?_) λhge=>.lft (.pure ?_)
 ·have hlt:k<r.Keep.length:=by simp_all
  have hg:r.Keep[k]? =some r.Keep[k]:=aAA _;generalize r.Keep[k]=b at hg;have hkl:=Ana r.Keep k;have hks:=AaY hg;have hap:∀ j:Nat,j<k+1->(l++[(kept r.Keep k:Int)])[j]? =some (kept r.Keep j:Int):=by
   grind
  simp only[Pq,hg,aA];refine .chk (by simp;omega) ?_
  rw[OX (show k<9223372036854775807 by omega),OX (show kept r.Keep k<9223372036854775807 by omega)]
  refine .cond (λh=>?_) λh=>?_
  ·subst h;exact .cnt ⟨⟨k+1,rfl,hlt,by simp_all,by simp[hll],hap⟩,by grind⟩
  ·subst h;exact .cnt ⟨⟨k+1,rfl,hlt,by simp_all,by simp[hll],hap⟩,by grind⟩
 ·have hkk:k=r.Keep.length:=by grind
  subst hkk;exact⟨hll,hj⟩
theorem AvX (hf:Pu f) (hkl:r.Keep.length=f.Code.length) (to pl:List Int) (hpl:pl.length=r.Keep.length) (sl:List Pa) :
  Hs (Pc (λs=>Zr (Wj f r.Keep to f.Code.length) pl f sl s.1 s.2) (Wj f r.Keep to f.Code.length,0)) λq=>q=(⟨f.Params,sl,UL f r.Keep to pl f.Code.length⟩,0):=by
 have hlen:=hf.len';have hK:=Amw f r.Keep to f.Code.length;have hin:∀ x∈Wj f r.Keep to f.Code.length,(x.Op=20->0<=x.A/\x.A<f.Code.length)/\(x.Op=21->0<=x.B/\x.B<f.Code.length):=λx hx=>by
  grind [Aoi,Alg,AiH,AgO]
 rw[AuQ];generalize Wj f r.Keep to f.Code.length=K at hK hin;refine Hs.loop (λs=>∃ k:Nat,s.2=(k:Int)/\k<=K.length/\s.1=(K.take k).map (mvI pl)++K.drop k) (λs=>K.length-s.2.toNat) ⟨0,rfl,aAD _,by simp⟩ ?_
 rintro⟨_,_⟩ ⟨k,rfl,hk,rfl⟩;refine .dec (λhlt=>?_) λhge=>.lft (.pure ?_)
 ·have hlt:k<K.length:=by omega
  have hg:K[k]? =some K[k]:=aAA _;have htk:K.take (k+1)=K.take k++[K[k]]:=by simp_all
  have hdk:K.drop k=K[k]::K.drop (k+1):=aAV hlt;have hxm:=aAF hlt;generalize K[k]=x at hg htk hdk hxm;have hml:((K.take k).map (mvI pl)).length=k:=by simp;omega
  obtain⟨x1,x2⟩:=hin x hxm;have at_:((K.take k).map (mvI pl)++K.drop k)[k]? =some x:=by
   simp_all
  have fin:∀ y,y=mvI pl x->((K.take k).map (mvI pl)++K.drop k).set k y=(K.take (k+1)).map (mvI pl)++K.drop (k+1):=λy hy=>by
   simp_all
  refine .chk (by simp;omega) ?_
  simp only[aAB,at_,aA,OX (show k<9223372036854775807 by omega)]
  refine .beq (λh=>?_) λh=>.beq (λh'=>?_) λh'=>.cnt ⟨⟨k+1,rfl,hlt,?_⟩,by simp only;omega⟩
  ·have t:=x1 h;refine .chk (by omega) ((Hs.get t.1 (by omega) λz hz=>hz).bind λz hz=>.cnt ⟨⟨k+1,rfl,hlt,fin _ ?_⟩,by simp only;omega⟩)
   simp_all[mvI]
  ·have t:=x2 h';refine .chk (by omega) ((Hs.get t.1 (by omega) λz hz=>hz).bind λz hz=>.cnt ⟨⟨k+1,rfl,hlt,fin _ ?_⟩,by simp only;omega⟩)
   simp_all[mvI]
  ·have:=fin x (by simp_all[mvI])
   grind
 ·have hkk:k=K.length:=by omega
  subst hkk;show((⟨f.Params,sl,_⟩:Mk),(0:Int))=_;simp_all
theorem AvW (hf:Pu f) (hd:RW f) (hr:XF f r):Hs (ZG f r) (AhQ f r):=by
 have hlen:=hf.len';have hsl:=hf.slots;have hkl:=hr.2.1;have htl:=hr.1.1;refine(Auj hf r).bind λe he=>.bne (λh=>(h (he.2.2 hr)).elim) λ_=>?_
 refine(Axj hf hd hr).bind λused ⟨hu0,hu1⟩=>?_
 have hul:=hu1.1.length_le;refine Hs.loop (λs=>∃ i:Nat,s.2=(i:Int)/\i<=used.length/\s.1.length=i/\Zt f r (used.take i) s.1) (λs=>used.length-s.2.toNat) ⟨0,rfl,aAD _,rfl,rfl,λj u y hj=>by simp at hj⟩ ?_
 rintro⟨out,_⟩ ⟨i,rfl,hi,ho,hsa⟩;replace ho:out.length=i:=ho;refine .dec (λhlt=>?_) λhge=>.lft ?_
 ·have hlt:i<used.length:=by omega
  have hgx:used[i]? =some used[i]:=aAA _;have hxm:=aAF hlt;generalize used[i]=u at hgx hxm;have h0:=(hu1.1.2 u hxm).1;have h1:=hu1.2 u hxm;refine .chk (by omega) ?_
  simp only[aAB,hgx,aA];refine(Hs.ix (P:=λx=>f.Slots[u.toNat]? =some x) h0 h1 λx hx=>hx).bind λx hfx=>?_
  refine(AvY (by omega) u).bind λl ⟨hll,hm⟩=>?_
  have hl:∀ t∈l,0<=t/\t<f.Slots.length:=λt ht=>by
   obtain⟨j,q1,rfl,_⟩:=(hm t).1 ht;omega
  refine Hs.loop (λs=>∃ k:Nat,s.2=(k:Int)/\k<=l.length/\Adl f (l.take k) x.Align s.1) (λs=>l.length-s.2.toNat) ⟨0,rfl,aAD _,by grind [Adl.nil]⟩ ?_
  rintro⟨a,_⟩ ⟨k,rfl,hk,hx⟩;refine .dec (λhlt2=>?_) λhge2=>.lft (.chk (by simp;omega) ?_)
  ·have hlt2:k<l.length:=by omega
   have hg:l[k]? =some l[k]:=aAA _;have htk:l.take (k+1)=l.take k++[l[k]]:=by simp_all
   have ht:=hl _ (aAF hlt2);generalize l[k]=t at hg htk ht;refine .chk (by omega) ?_
   rw[aAB,hg,aA];refine(Hs.ix (P:=λy=>alS f t=y.Align) ht.1 ht.2 λy hy=>by grind [alS]).bind λy hy=>?_
   rw[OX (by omega),AbB,<- hy]
   refine .cnt ⟨⟨k+1,rfl,hlt2,?_⟩,by grind⟩
   rw[htk];exact hx.snoc t
  ·have hkk:k=l.length:=by omega
   subst hkk;rw[aAR]at hx;rw[OX (by omega)]
   exact .cnt ⟨⟨i+1,rfl,hlt,by simp[ho],hsa.snoc ho (by omega) hgx hfx rfl hm hx⟩,by grind⟩
 have hii:i=used.length:=by omega
 subst hii;rw[aAR]at hsa;unfold AlY Zu;rw[PN (by omega),aA]
 refine Hs.loop (λs=>∃ k:Nat,s.2=(k:Int)/\k<=r.To.length/\s.1.length=r.To.length/\(∀ (j:Nat) x,j<k->s.1[j]? =some x->Pd r.To j∈used->0<=x/\used[x.toNat]? =some (Pd r.To j))/\∀ j:Nat,k<=j->s.1[j]? =r.To[j]?) (λs=>r.To.length-s.2.toNat) ⟨0,rfl,aAD _,rfl,λj x hj=>absurd hj (aAG _),λj _=>rfl⟩ ?_
 rintro⟨to,_⟩ ⟨k,rfl,hk,h1,h2,h3⟩;replace h1:to.length=r.To.length:=h1;refine .dec (λhlt=>?_) λhge=>.lft ?_
 ·have hlt:k<r.To.length:=by omega
  have hg:=Qv (to:=r.To) (s:=(k:Int)) (by omega) (by omega)
  rw[aAB,<- h3 k (aAY _)]at hg;refine .chk (by simp_all) ?_
  rw[aAB,hg,aA,ArH _ _ (by omega),aA]
  refine .chk (by simp_all) ?_
  rw[aA,OX (by omega)]
  refine .cnt ⟨⟨k+1,rfl,hlt,by simp[h1],λj x hj hx hm=>?_,λj hj=>?_⟩,by simp only;omega⟩
  ·have hx:(to.set k (Ain (Pd r.To k) 0 used))[j]? =some x:=hx
   by_cases e:j=k
   ·subst e;rw[aAO (by omega)]at hx
    cases hx;obtain⟨q,q1,q2⟩:=ArG _ 0 _ hm;simp_all
   ·rw[aAN (λh=>e h.symm)]at hx
    exact h2 j x (by omega) hx hm
  grind
 ·have hkk:k=r.To.length:=by omega
  subst hkk;refine(AuT r (by omega)).bind λpl hp=>?_
  rw[Aru hf hkl,aA];refine(AvX hf hkl to pl hp.1 out).mono λq hq=>?_
  subst hq;exact⟨rfl,rfl,used,to,pl,hu0,hsa,⟨h1,λs x hs hm=>h2 s x (by grind) hs hm⟩,hp,rfl⟩
theorem Ats (hf:Pu f) (hd:RW f) (hr:XF f r):∃ q,ZG f r=some q/\TB f r=some q/\AhQ f r q:=by
 obtain⟨q,h1,h2⟩:=AvW hf hd hr;obtain⟨q',k1,k2⟩:=Awc hf hd hr;exact⟨q,h1,by rw[k1,k2.unique hf hd hr h2],h2⟩
end
end Go.Proofs.YtilmapojncgflaaGreatDoor
namespace Go.Dw
variable {s:Nat} {y:Int}
structure RO (u to:List Int):Prop where
 len:u.length=to.length
 up:∀ (s:Nat) (x y:Int),u[s]? =some x->to[s]? =some y->0<=x/\x<=s/\0<=y/\y<=s/\to[x.toNat]? =some y/\to[y.toNat]? =some y/\(x=s↔y=s)
section
variable {u to:List Int}
theorem RO.get (h:RO u to) (hs:s<u.length):∃ x y,u[s]? =some x/\to[s]? =some y/\0<=x/\x<=s/\0<=y/\y<=s/\to[x.toNat]? =some y/\to[y.toNat]? =some y/\(x=s↔y=s):=by
 have e1:u[s]? =some (u[s]'hs):=aAA hs;have e2:to[s]? =some (to[s]'(by have:=h.len;omega)):=aAA _
 exact⟨_,_,e1,e2,h.up s _ _ e1 e2⟩
theorem RO.half (h:RO u to) {x z:Int} (h1:u[s]? =some x) (hne:x≠s) (h2:u[x.toNat]? =some z):RO (u.set s z) to:=by
 refine⟨by rw[aAn];exact h.len,λt a y ha hy=>?_⟩
 by_cases hts:t=s
 ·subst hts;have hl:t<u.length:=(aAC.1 h1).1;rw[aAO hl]at ha;cases ha;obtain⟨g1,g2,g3,g4,g5,g6,g7⟩:=h.up t x y h1 hy;obtain⟨k1,k2,k3,k4,k5,k6,k7⟩:=h.up x.toNat z y h2 g5
  grind
 ·rw[aAN (Ne.symm hts)]at ha;exact h.up t a y ha hy
def Yi (to:List Int) (a b:Int):List Int:=to.map λy=>if y=a\/y=b then min a b else y
theorem AiY {a b:Int} (h:to[s]? =some y):(Yi to a b)[s]? =some (if y=a\/y=b then min a b else y):=by
 grind [Yi]
theorem AvQ {a b:Int} (h:(Yi to a b)[s]? =some y):∃ z,to[s]? =some z/\y=if z=a\/z=b then min a b else z:=by
 grind [Yi]
theorem RO.join (h:RO u to) {a b:Nat} (ha:to[a]? =some (a:Int)) (hb:to[b]? =some (b:Int)) (hne:a≠b):RO (u.set (max a b) ((min a b:Nat):Int)) (Yi to a b):=by
 have hla:a<u.length:=by rw[h.len];grind
 have hlb:b<u.length:=by rw[h.len];grind
 have em:(min (a:Int) (b:Int))=((min a b:Nat):Int):=by omega
 have hm:(Yi to a b)[min a b]? =some ((min a b:Nat):Int):=by
  rcases Nat.le_total a b with hab|hab
  all_goals simp_all[AiY]
 refine⟨by rw[aAn];unfold Yi;rw[List.length_map];exact h.len,λt x y hx hy=>?_⟩
 obtain⟨z,hz,rfl⟩:=AvQ hy
 by_cases htm:t=max a b
 ·grind
 ·rw[aAN (Ne.symm htm)]at hx;obtain⟨g1,g2,g3,g4,g5,g6,g7⟩:=h.up t x z hx hz;have k5:=AiY (a:=a) (b:=b) g5
  by_cases hzz:z=a\/z=b
  ·grind
  simp_all[AiY]
theorem RO.Atj (n:Nat):RO ((aAf n).map λi:Nat=>(i:Int)) ((aAf n).map λi:Nat=>(i:Int)):=by
 refine⟨rfl,λs x y hx hy=>?_⟩
 grind
end
theorem Ary {to:List Int}:∀ (k:Nat) {u:List Int} {s:Nat} {y:Int},RO u to->to[s]? =some y->s<k->∃ u',findF k u s=some (u',y)/\RO u' to
 | 0,_,_,_,_,_,h=>absurd h (aAG _)
 | k+1,u,s,y,hR,hy,hk=>by
  have hs:s<u.length:=by rw[hR.len];grind
  obtain⟨x,y',e1,e2,g1,g2,g3,g4,g5,g6,g7⟩:=hR.get hs;rw[hy]at e2;cases e2;simp only[findF,e1,aA]
  by_cases hx:x=(s:Int)
  ·simp_all
  ·rw[if_neg hx,if_pos ⟨g1,by omega⟩]
   obtain⟨z,y2,e3,e4,k1,k2,k3,k4,k5,k6,k7⟩:=hR.get (s:=x.toNat) (by omega)
   rw[g5]at e4;cases e4;rw[e3,aA,if_pos ⟨k1,by omega⟩]
   exact Ary k (hR.half e1 hx e3) k5 (by omega)
theorem Auy {u to:List Int} (hR:RO u to) {s:Int} (h0:0<=s) (hy:to[s.toNat]? =some y):∃ u',Wg u s=some (u',y)/\RO u' to:=by
 simp_all[Wg,Ary]
end Go.Dw
namespace Go.Proofs.YtilmapojncgflaaGreatDoor
open Go Go.Dw Go.Proofs
variable {k:Nat} {m:List (Int×Bool)} {l:List (List Int)} {f:Mk} {w s:List Int}
def AiP (k:Nat) (l:List (List Int)) (j:Int):List (List Int):=l.set j.toNat ((l[j.toNat]?).getD []++[(k:Int)])
def Agy (k:Nat) (l:List (List Int)) (nx:List Int):List (List Int):=nx.foldl (AiP k) l
def Afs (f:Mk):Nat->List (List Int)
 | 0=>aAe f.Code.length []
 | k+1=>Agy k (Afs f k) (Qa (WZ f k) k)
theorem Ark (k:Nat) (l:List (List Int)) (j:Int):(AiP k l j).length=l.length:=by simp[AiP]
theorem AgS (k:Nat):∀ (nx:List Int) (l:List (List Int)),(Agy k l nx).length=l.length
 | [],_=>rfl
 | j::nx,l=>(AgS k nx _).trans (Ark k l j)
theorem AsE {m:Nat} (h:∀ q∈l,q.length<=m) (j:Int):∀ q∈AiP k l j,q.length<=m+1:=by
 intro q hq;rcases aAS hq with hq|hq
 all_goals grind
theorem AhY {k:Nat}:∀ (nx:List Int) (m:Nat) (l:List (List Int)),(∀ q∈l,q.length<=m)->∀ q∈Agy k l nx,q.length<=m+nx.length
 | [],m,l,h=>h
 | j::nx,m,l,h=>λq hq=>by
  have:=AhY nx (m+1) _ (AsE h j) q hq
  grind
theorem AsF {i:Nat} {nx:List Int} {y:Int} (h:nx[i]? =some y):Agy k l (nx.take (i+1))=AiP k (Agy k l (nx.take i)) y:=by
 grind [Agy,aAP]
theorem AnF (f:Mk):∀ k,(Afs f k).length=f.Code.length
 | 0=>by simp[Afs]
 | k+1=>(AgS k _ _).trans (AnF f k)
theorem Ahc (x:OP) (k:Int):(Qa x k).length<=2:=by grind [Qa]
theorem Akx (f:Mk):∀ k,∀ q∈Afs f k,q.length<=2*k
 | 0,q,hq=>by grind [Afs]
 | k+1,q,hq=>by
  have:=AhY _ _ _ (Akx f k) q hq
  grind [Ahc]
theorem Auo {y:Int} {j:Nat} {q:List Int} (hy:0<=y) (h:l[j]? =some q):∃ q',(AiP k l y)[j]? =some q'/\∀ x,x∈q'↔x∈q\/(x=(k:Int)/\y=(j:Int)):=by
 grind [AiP]
theorem AoG {k:Nat} {j:Nat}:∀ (nx:List Int) (l:List (List Int)) (q:List Int),(∀ y∈nx,0<=y)->l[j]? =some q->∃ q',(Agy k l nx)[j]? =some q'/\∀ x,x∈q'↔x∈q\/(x=(k:Int)/\(j:Int)∈nx)
 | [],l,q,_,h=>⟨q,h,λx=>by simp⟩
 | y::nx,l,q,hn,h=>by
  obtain⟨q1,h1,m1⟩:=Auo (k:=k) (hn y (by simp)) h
  obtain⟨q2,h2,m2⟩:=AoG nx _ q1 (λz hz=>hn z (by simp[hz])) h1
  refine⟨q2,h2,λx=>?_⟩
  grind
theorem Arf {f:Mk} (hf:Pu f) {j:Nat} (hj:j<f.Code.length):∀ k,k<=f.Code.length->∃ q,(Afs f k)[j]? =some q/\∀ x,x∈q↔∃ i:Nat,i<k/\x=(i:Int)/\(j:Int)∈Qa (WZ f i) i
 | 0,_=>⟨[],by grind [Afs],λx=>by simp⟩
 | k+1,hk=>by
  obtain⟨q,h1,m1⟩:=Arf hf hj k (by omega)
  have hcode:f.Code[k]? =some (WZ f k):=by grind [WZ]
  obtain⟨q2,h2,m2⟩:=AoG (k:=k) (Qa (WZ f k) k) _ q (λy hy=>(hf.next k _ hcode y hy).1) h1
  refine⟨q2,h2,λx=>?_⟩
  grind
theorem AtP (hf:Pu f):Acx f=some (Afs f f.Code.length):=by
 have hlen':=hf.len';have:Hs (Acx f) (· =Afs f f.Code.length):=by
  refine .chk (by omega) ?_
  refine Hs.loop (λs=>∃ k:Nat,s.2=(k:Int)/\k<=f.Code.length/\s.1=Afs f k) (λs=>f.Code.length-s.2.toNat) ⟨0,rfl,aAD _,by simp[Afs]⟩ ?_
  rintro⟨l,k'⟩ ⟨k,rfl,hk,rfl⟩;refine .dec (λhlt=>?_) λhlt=>.lft (.pure ?_)
  ·have hlt:k<f.Code.length:=aAT.1 hlt;have wk:=OX (show k<9223372036854775807 by omega)
   have hcode:f.Code[k]? =some (WZ f k):=by grind [WZ]
   have hnx:=hf.next k _ hcode;have hnl:=Ahc (WZ f k) k;have hb:=Akx f k;have hbl:=AnF f k;rw[Aoe hcode (by omega),aA]
   refine Hs.loop (λs=>∃ i:Nat,s.2=(i:Int)/\i<=(Qa (WZ f k) k).length/\s.1=Agy k (Afs f k) ((Qa (WZ f k) k).take i)) (λs=>(Qa (WZ f k) k).length-s.2.toNat) ⟨0,rfl,aAD _,rfl⟩ ?_
   rintro⟨l,i'⟩ ⟨i,rfl,hi,rfl⟩;unfold Aby;dsimp only;refine .dec (λhil=>?_) λhil=>.lft (.cnt ⟨⟨k+1,wk,hlt,?_⟩,?_⟩)
   ·have hil:i<(Qa (WZ f k) k).length:=aAT.1 hil;have wi:=OX (show i<9223372036854775807 by omega)
    refine .chk (by omega) ((Hs.get (i:=(i:Int)) (by omega) (by omega) λz hz=>hz).bind λy hy=>?_)
    simp only[aAB]at hy;have hyr:=hnx y (aAE hy);have hl2:=AgS k ((Qa (WZ f k) k).take i) (Afs f k);refine .chk (by omega) ((Hs.get (i:=y) (by omega) (by omega) λz hz=>hz).bind λq hq=>?_)
    have hqb:=AhY _ _ _ hb q (aAE hq);simp only[List.length_take]at hqb;refine .chk (by grind) (.chk (by omega) (.cnt ⟨⟨i+1,wi,hil,?_⟩,by grind⟩))
    simp_all[AsF,AiP]
   ·have:i=(Qa (WZ f k) k).length:=by omega
    subst this;simp only[aAR];rfl
   grind
  ·have:k=f.Code.length:=by omega
   rw[this];rfl
 obtain⟨r,h1,h2⟩:=this;rw[h1,h2]
def KND (m:List (Int×Bool)):Prop:=(m.map Prod.fst).Nodup
theorem AoV {y:Int}:∀ {m:List (Int×Bool)},y∉m.map Prod.fst->QL false y m=false
 | [],_=>rfl
 | (k,u)::r,h=>by
  simp only[aAj,aAa,not_or]at h;simp only[QL];rw[if_neg (λe=>h.1 e.symm)]
  exact AoV h.2
theorem AkW (x y:Int):∀ m:List (Int×Bool),QL false y (RT x true m)=if y=x then true else QL false y m
 | []=>by
  simp only[RT,QL]
  grind
 | (k,u)::r=>by
  simp only[RT]
  by_cases e:k=x
  ·subst e;rw[if_pos rfl];simp only[QL]
   grind
  ·rw[if_neg e];simp only[QL]
   by_cases e2:k=y
   ·simp_all
   ·rw[if_neg e2,if_neg e2];exact AkW x y r
theorem ArJ (x y:Int) (u:Bool):∀ m:List (Int×Bool),y∈(RT x u m).map Prod.fst↔y=x\/y∈m.map Prod.fst
 | []=>by simp[RT]
 | (k,u')::r=>by
  simp only[RT]
  by_cases e:k=x
  ·simp_all
  ·rw[if_neg e];simp only[aAj,aAa,ArJ x y u r]
   grind
theorem KND.set (h:KND m) (x:Int) (u:Bool):KND (RT x u m):=by
 induction m with
 | nil=>simp[KND,RT]
 | cons p r ih =>
  obtain⟨k,u'⟩:=p;simp only[KND,aAj,aAh]at h;simp only[RT]
  by_cases e:k=x
  ·rw[if_pos e];exact aAh.2 h
  ·rw[if_neg e];refine aAh.2 ⟨λhm=>?_,ih h.2⟩
   grind [ArJ]
theorem ArI (x y:Int):∀ m:List (Int×Bool),y∈(Sf x m).map Prod.fst->y∈m.map Prod.fst
 | [],h=>h
 | (k,u')::r,h=>by
  simp only[Sf]at h;split at h
  ·simp_all
  ·rcases aAa.1 h with h|h
   ·simp_all
   ·exact aAL _ (ArI x y r h)
theorem KND.del (h:KND m) (x:Int):KND (Sf x m):=by
 induction m<;>grind [KND,Sf,ArI]
theorem AtX (h:KND m) (x y:Int):QL false y (Sf x m)=if y=x then false else QL false y m:=by
 induction m with
 | nil=>simp[Sf,QL]
 | cons p r ih =>
  obtain⟨k,u'⟩:=p;simp only[KND,aAj,aAh]at h;simp only[Sf]
  by_cases e:k=x
  ·subst e;rw[if_pos rfl]
   by_cases e2:y=k
   ·simp_all[AoV]
   ·rw[if_neg e2];simp only[QL]
    grind
  ·rw[if_neg e];simp only[QL]
   by_cases e2:k=y
   ·simp_all
   ·rw[if_neg e2,if_neg e2];exact ih h.2
structure WL (n:Nat) (m:List (Int×Bool)) (w:List Int):Prop where
 nd:KND m
 iff:∀ x,QL false x m=true↔x∈w
 uniq:w.Nodup
 rng:∀ x∈w,0<=x/\x<(n:Int)
theorem WL.nil (n:Nat):WL n [] []:=⟨List.nodup_nil,λx=>by simp[QL],List.nodup_nil,λx h=>by cases h⟩
theorem WL.len {n:Nat} (h:WL n m w):w.length<=n:=by
 have h1:(w.map Int.toNat).Nodup:=by
  refine List.pairwise_map.2 (List.Pairwise.imp_of_mem (fun{a b} ha hb hab e=>hab ?_) h.uniq)
  have:=h.rng a ha;have:=h.rng b hb;omega
 have:=h1.length_le_of_subset (l₂:=aAf n) λx hx=>by
  obtain⟨y,hy,rfl⟩:=List.mem_map.1 hx;have:=h.rng y hy;simp_all
 simp_all
theorem WL.put {n:Nat} (h:WL n m w) {x:Int} (hx:x∉w) (hr:0<=x/\x<(n:Int)):WL n (RT x true m) (w++[x]):=by
 refine⟨h.nd.set x true,λy=>?_,?_,λy hy=>?_⟩
 ·rw[AkW]
  by_cases e:y=x
  ·simp_all
  ·rw[if_neg e,h.iff];simp[e]
 ·refine List.nodup_append.2 ⟨h.uniq,by simp,λa ha b hb=>?_⟩
  grind
 ·simp only[aAK,aAI]at hy;rcases hy with hy|rfl
  ·exact h.rng y hy
  ·exact hr
theorem WL.take {n:Nat} {x:Int} (h:WL n m (w++[x])):WL n (Sf x m) w:=by
 obtain⟨u1,_,u3⟩:=List.nodup_append.1 h.uniq;refine⟨h.nd.del x,λy=>?_,u1,λy hy=>h.rng y (aAg _ hy)⟩
 rw[AtX h.nd]
 by_cases e:y=x
 ·grind
 ·rw[if_neg e,h.iff];simp[e]
theorem AvK (s t:List Int) (hs:s.length<=9223372036854775807):TN s t=some (decide (s=t)):=by
 unfold TN
 by_cases hl:s.length=t.length
 ·have:Hs (Pc (λq=>Ub s t q) 0) λb=>b=decide (s=t):=by
   refine Hs.loop (λq=>∃ k:Nat,q=(k:Int)/\k<=s.length/\s.take k=t.take k) (λq=>s.length-q.toNat) ⟨0,rfl,aAD _,by simp⟩ ?_
   rintro _ ⟨k,rfl,hk,he⟩;refine .dec (λhlt=>?_) λhge=>.lft (.pure ?_)
   ·have hlt:k<s.length:=aAT.1 hlt;have e1:s[k]? =some s[k]:=aAA hlt;have e2:t[k]? =some (t[k]'(by omega)):=aAA _
    rw[Pq,e1,aA,Pq,e2,aA];refine .bne (λhne=>.lft (.pure ?_)) λhee=>?_
    ·have:s≠t:=by grind
     show false=decide (s=t);simp[this]
    ·rw[OX (by omega)]
     refine .cnt ⟨⟨k+1,rfl,hlt,?_⟩,by grind⟩
     grind [aAP]
   ·have hkn:k=s.length:=by omega
    subst hkn;have:s=t:=by
     grind
    show true=decide (s=t);simp[this]
  obtain⟨r,h1,rfl⟩:=this;simp_all
 ·have hne:s≠t:=λe=>hl (by rw[e])
  grind
theorem Aqi (hk:k<l.length) {j:Int} (hj:0<=j):Pr (l.set k s) j=if j=(k:Int)then s else Pr l j:=by
 unfold Pr
 grind
theorem AqH (hf:Pu f) {l':List (List Int)} (hl:QM f l) (hl':QM f l') (hk:k<f.Code.length) (h:∀ j∈Qa (OR f k) k,Pr l j=Pr l' j):QB f l k=QB f l' k:=by
 have h1:=Ux hf hl hk;have h2:=Ux hf hl' hk;refine h1.1.1.ext h2.1.1 λv=>?_
 grind
theorem QM.row (h:QM f l) (hk:k<f.Code.length):l[k]? =some (Pr l k)/\PH f.Slots.length (Pr l k):=by
 have hkl:k<l.length:=by have:=h.1;omega
 have e:Pr l (k:Int)=l[k]:=by grind [Pr]
 rw[e];exact⟨aAA hkl,h.2 _ (aAF hkl)⟩
theorem QM.setRow (h:QM f l) (hs:PH f.Slots.length s):QM f (l.set k s) :=
 ⟨by simpa using h.1,λt ht=>(aAS ht).elim (h.2 t) λe=>e▸hs⟩
theorem Zb (hk:k<f.Code.length):(SO f l)[k]? =some (QB f l k):=by grind [SO]
structure Up (f:Mk) (l:List (List Int)) (w:List Int):Prop where
 ok:QM f l
 le:LE l (SO f l)
 least:∀ b,QM f b->LE (SO f b) b->LE l b
 done:∀ k:Nat,k<f.Code.length->(k:Int)∉w->QB f l k=Pr l k
theorem Up.set (hf:Pu f) {w':List Int} (h:Up f l (w++[(k:Int)])) (hk:k<f.Code.length) (hw:∀ x∈w,x∈w') (hb:∀ i:Nat,i<f.Code.length->(k:Int)∈Qa (OR f i) i->(i:Int)∈w') :
  Up f (l.set k (QB f l k)) w'/\LE l (l.set k (QB f l k)):=by
 have hs:=Ux hf h.ok hk;have hok:=h.ok.setRow (k:=k) hs.1;have hlen:k<l.length:=by have:=h.ok.1;omega
 obtain⟨g1,g2⟩:=h.ok.row hk;have hsub:∀ v∈Pr l k,v∈QB f l k:=h.le k _ _ g1 (Zb hk);have hLE:LE l (l.set k (QB f l k)):=by
  intro q s t hq ht v hv
  grind
 have hmono:=Ajl hf h.ok hok hLE;refine⟨⟨hok,λq s t hq ht v hv=>?_,λb hb1 hb2=>?_,λq hq hqw=>?_⟩,hLE⟩
 ·have hql:q<f.Code.length:=by have:=(aAC.1 hq).1;have:=hok.1;omega
  by_cases e:q=k
  ·subst e;rw[aAO hlen]at hq;cases hq;exact hmono q _ t (Zb hql) ht v hv
  ·rw[aAN (λh=>e h.symm)]at hq
   exact hmono q _ t (Zb hql) ht v (h.le q s _ hq (Zb hql) v hv)
 ·have hlb:=h.least b hb1 hb2;have hsb:=Ajl hf h.ok hb1 hlb;intro q s t hq ht v hv
  by_cases e:q=k
  ·subst e;rw[aAO hlen]at hq;cases hq;exact hb2 q _ t (Zb hk) ht v (hsb q _ _ (Zb hk) (Zb hk) v hv)
  ·rw[aAN (λh=>e h.symm)]at hq
   exact hlb q s t hq ht v hv
 ·have hkn:(k:Int)∉Qa (OR f q) q:=λhm=>hqw (hb q hq hm)
  have hq0:f.Code[q]? =some (OR f q):=by simp[OR,hq]
  have e1:QB f (l.set k (QB f l k)) q=QB f l q:=by
   refine AqH hf hok h.ok hq λj hj=>?_
   rw[Aqi hlen (hf.next q _ hq0 j hj).1,if_neg (λe:j=(k:Int)=>hkn (e▸hj))]
  rw[e1,Aqi hlen (by omega)]
  by_cases e:(q:Int)=(k:Int)
  ·simp_all
  ·rw[if_neg e];refine h.done q hq λhm=>?_
   simp_all
theorem Up.same (h:Up f l (w++[(k:Int)])) (he:QB f l k=Pr l k):Up f l w:=by
 refine⟨h.ok,h.le,h.least,λq hq hqw=>?_⟩
 by_cases e:q=k
 ·simp_all
 ·refine h.done q hq λhm=>?_
  grind
theorem Up.end_ (h:Up f l []):Yn f l:=by
 refine⟨h.ok,?_,h.least⟩;apply aAZ;intro k
 by_cases hk:k<f.Code.length
 ·rw[Zb hk,(h.ok.row hk).1,h.done k hk (by simp)]
 ·rw[aAJ (by grind [SO]),aAJ (by have:=h.ok.1;omega)]
theorem Aqf (hf:Pu f):Hs (VC f) λl=>Yn f l.Out:=by
 have hlen:=hf.len;have hlen':=hf.len';have hsl:=hf.slots;unfold VC;refine .chk (by omega) ?_
 rw[AtP hf,aA];refine Hs.loop (λs=>∃ k:Nat,s.2.2=(k:Int)/\k<=f.Code.length/\WL f.Code.length s.1 s.2.1/\∀ x,x∈s.2.1↔0<=x/\x<(k:Int)) (λs=>f.Code.length-s.2.2.toNat) ⟨0,rfl,aAD _,WL.nil _,λx=>⟨λh=>(by cases h),λh=>(by omega)⟩⟩ ?_
 rintro⟨m,w,_⟩ ⟨k,rfl,hk,hw,hwk⟩;simp only at hw hwk;unfold Yj;dsimp only;refine .dec (λhlt=>?_) λhge=>.lft ?_
 ·have hlt:k<f.Code.length:=aAT.1 hlt;have hn:QL false (k:Int) m=false:=by
   cases h:QL false (k:Int) m
   ·rfl
   ·have:=(hwk _).1 ((hw.iff _).1 h);omega
  have hwl:=hw.len;have hnw:(k:Int)∉w:=λh=>by simp_all
  rw[hn,aAp,cond_true];refine .chk (by grind) ?_
  unfold Vh;rw[OX (by omega)]
  exact .cnt ⟨⟨k+1,rfl,hlt,hw.put hnw ⟨by omega,by omega⟩,λx=>by grind⟩,by grind⟩
 have hkn:k=f.Code.length:=by
  omega
 subst hkn;have h0:QM f (aAe (f.Code.length:Int).toNat ([]:List Int)):=⟨by simp,λs hs=>by grind [PH.nil]⟩
 have hnil:∀ (q:Nat) s,(aAe (f.Code.length:Int).toNat ([]:List Int))[q]? =some s->s=[]:=λq s hq=>by
  grind
 refine Hs.loop (λs=>Up f s.1 s.2.2/\WL f.Code.length s.2.1 s.2.2) (λs=>(512*f.Code.length-(s.1.map List.length).sum)*(f.Code.length+1)+s.2.2.length)
  ⟨⟨h0,λq s t hq _ v hv=>(by grind),λb _ _ q s t hq _ v hv=>(by grind),λq hq hqw=>absurd ((hwk _).2 ⟨by omega,by omega⟩) hqw⟩,hw⟩ ?_
 show ∀ s,_->Hs _ (Rnd _ _ s λr:Pg=>Yn f r.Out)
 clear h0 hnil hwk hw hge hk w m;rintro⟨l,m,w⟩ ⟨hu,hw⟩;simp only at hu hw;dsimp only;refine .dec (λhpos=>?_) λhz=>.lft (.pure ?_)
 ·have hpos:0<w.length:=by omega
  have hwl:=hw.len;have ew:IntKind.i64.wrap ((w.length:Int)-1)=((w.length-1:Nat):Int):=by grind [wrap64]
  rw[ew];have hx:w[w.length-1]? =some (w[w.length-1]'(by omega)):=aAA _
  generalize hxx:w[w.length-1]'(by omega)=x at hx
  have hxr:=hw.rng x (aAE hx);obtain⟨k,rfl⟩:∃ k:Nat,x=(k:Int):=⟨x.toNat,by omega⟩
  have hk:k<f.Code.length:=by omega
  have hcode:f.Code[k]? =some (OR f k):=by grind [OR]
  have hnx:=hf.next k _ hcode;have hsplit:w=w.take (w.length-1)++[(k:Int)]:=by
   have:=aAP (l:=w) (i:=w.length-1)
   grind
  generalize hw0:w.take (w.length-1)=w0 at *;have hw0l:w0.length+1=w.length:=by simp_all
  rw[hsplit]at hu hw;have hwt:=hw.take;refine .chk (by omega) ?_
  simp only[aAB];rw[hx,aA];refine .chk (by omega) ?_
  rw[Aoe hcode (by omega),aA]
  have hnl:=Ahc (OR f k) k;refine Hs.loop (λs=>∃ i:Nat,s.1=(i:Int)/\i<=(Qa (OR f k) k).length/\s.2=((Qa (OR f k) k).take i).foldl (λo j=>Ro o (inN (OR f j) (Pr l j))) []) (λs=>(Qa (OR f k) k).length-s.1.toNat) ⟨0,rfl,aAD _,rfl⟩ ?_
  rintro⟨_,s⟩ ⟨i,rfl,hi,hs⟩;simp only at hs;unfold Yk;dsimp only;refine .dec (λhlt=>?_) λhge=>.lft ?_
  ·have hlt:i<(Qa (OR f k) k).length:=aAT.1 hlt;have hg:(Qa (OR f k) k)[i]? =some ((Qa (OR f k) k)[i]):=aAA hlt;generalize(Qa (OR f k) k)[i]=j at hg;have hj:=hnx j (aAE hg);have hjc:f.Code[j.toNat]? =some (OR f j):=by grind [OR]
   obtain⟨o1,o2⟩:=hu.ok.row (k:=j.toNat) (by omega)
   rw[aAW hj.1]at o1 o2;have hll:=hu.ok.1;have hf1:=Aof hf hu.ok (js:=(Qa (OR f k) k).take i) (o:=[]) (λy hy=>hnx y (List.mem_of_mem_take hy)) (PH.nil _)
   have huse:=hf.uses _ (aAE hjc);have hin:=Aec hf (aAE hjc) o2;have hinl:=hin.1.1.length_le;refine .chk (by omega) ?_
   rw[aAB,hg,aA,QU _ hj.1,hjc,aA];refine .chk (by omega) ?_
   rw[o1,aA,Auw o2.1 (λv hv=>by grind),aA,hs,Agl hf1.1.1 (λv hv=>hin.1.1.2 v hv) (by omega),aA,OX (by omega)]
   refine .cnt ⟨⟨i+1,rfl,hlt,?_⟩,by grind⟩
   grind [aAP]
  ·have hil:i=(Qa (OR f k) k).length:=by
    omega
   subst hil;rw[aAR]at hs;have hs:s=QB f l k:=hs;subst hs;obtain⟨g1,g2⟩:=hu.ok.row hk;have hsr:=Ux hf hu.ok hk;have hsrl:=hsr.1.1.length_le;have hll:=hu.ok.1;refine .chk (by omega) ?_
   rw[aAB,g1,aA,AvK _ _ (by omega),aA,ew]
   simp only[aAB,hw0];refine .dec (λheq=>?_) λhne=>?_
   ·exact .cnt ⟨⟨hu.same heq,hwt⟩,by grind⟩
   ·refine .chk (by omega) ?_
    obtain⟨row,hrow,hmem⟩:=Arf hf hk f.Code.length (aAY _);rw[Pq,hrow,aA];have hrr:∀ y∈row,0<=y/\y<(f.Code.length:Int):=λy hy=>by
     grind
    have hrl:row.length<=2*f.Code.length:=Akx f _ row (aAE hrow);have hsum:=Asq (a:=l) (b:=l.set k (QB f l k)) (by simp) (λs hs=>(hu.ok.2 s hs).1) (λs hs=>((hu.ok.setRow hsr.1).2 s hs).1)
    refine Hs.loop (λs=>∃ i:Nat,s.2.2=(i:Int)/\i<=row.length/\WL f.Code.length s.1 s.2.1/\(∀ x∈w0,x∈s.2.1)/\∀ x∈row.take i,x∈s.2.1) (λs=>row.length-s.2.2.toNat) ⟨0,rfl,aAD _,hwt,λ_ h=>h,λx hx=>by simp at hx⟩ ?_
    rintro⟨m2,w2,_⟩ ⟨i,rfl,hi2,hw2,hsub,hin⟩;simp only at hw2 hsub hin;refine .dec (λhlt=>?_) λhge2=>.lft ?_
    ·have hlt:i<row.length:=aAT.1 hlt;have hg:row[i]? =some row[i]:=aAA hlt;generalize row[i]=y at hg;have hyr:=hrr y (aAE hg);rw[Pq,hg,aA];have hw2l:=hw2.len;have w1:=OX (show i<9223372036854775807 by omega)
     cases hgy:QL false y m2 with
     | true =>
      unfold TS;rw[w1];refine .cnt ⟨⟨i+1,rfl,hlt,hw2,hsub,λx hx=>?_⟩,by grind⟩
      rw[aAP,hg]at hx;simp only[Option.toList_some,aAK,aAI]at hx;rcases hx with hx|rfl
      ·grind
      ·exact(hw2.iff _).1 hgy
     | false =>
      have hny:y∉w2:=λh=>by rw[(hw2.iff _).2 h]at hgy;cases hgy
      rw[aAp,cond_true];refine .chk (by simp only[List.length_singleton];omega) ?_
      unfold TS;rw[w1];refine .cnt ⟨⟨i+1,rfl,hlt,hw2.put hny hyr,λx hx=>aAg _ (hsub x hx),λx hx=>?_⟩,by grind⟩
      rw[aAP,hg]at hx;simp only[Option.toList_some,aAK,aAI]at hx ⊢;rcases hx with hx|rfl
      ·exact .inl (hin x hx)
      ·exact .inr rfl
    ·have hil:i=row.length:=by
      have:¬ i<row.length:=λh=>hge2 (aAT.2 h)
      omega
     subst hil;rw[aAR]at hin;have hup:=hu.set hf hk hsub λq hq hm=>hin _ ((hmem _).2 ⟨q,hq,rfl,hm⟩)
     obtain⟨s1,s2⟩:=hsum hup.2;have hb:=AmU (a:=l.set k (QB f l k)) λs hs=>(hup.1.ok.2 s hs).1
     have hw2l:=hw2.len;have hlt:(l.map List.length).sum<((l.set k (QB f l k)).map List.length).sum:=by
      refine Nat.lt_of_le_of_ne s1 λe=>hne ?_
      have:=s2 e;have h1:(l.set k (QB f l k))[k]? =some (QB f l k):=aAO (by omega)
      rw[<- this,g1]at h1;exact(Option.some.inj h1).symm
     refine .cnt ⟨⟨hup.1,hw2⟩,?_⟩;simp only[aAn,hll,aAB]at hb ⊢;generalize((l.set k (QB f l k)).map List.length).sum=A at *;generalize(l.map List.length).sum=B at *;have hm1:(512*f.Code.length-A+1)*(f.Code.length+1)<=(512*f.Code.length-B)*(f.Code.length+1):=Nat.mul_le_mul_right _ (by omega)
     rw[Nat.add_mul]at hm1;omega
 ·have hz:w.length=0:=by omega
  rw[List.eq_nil_of_length_eq_zero hz]at hu;exact hu.end_
attribute [local simp] PN aAH
theorem AuH (s:List Po) (v:Po) (h:s.length<=1000000):RB s v=some (decide (v∈s)):=by
 unfold RB TO;have:=Rg (body:=λi:Int=>Ql s v i) s (λ(k:Nat) i=>i) (λk i=>k=i) (λk l=>some (match l.findIdx? (· ==v)with|none=>-1|some j=>((k+j:Nat):Int)))
  (λk _=>⟨-1,by simp[Ql],by simp⟩) (λk i x r hk hd hi hx=>by
   subst hk;have w:=OX (show k<9223372036854775807 by omega)
   by_cases e:s[k]=v
   ·simp_all[Ql,List.findIdx?_cons]
   ·refine .inl ⟨k+1,rfl,?_,?_⟩
    ·have hne:¬ (v.a0=s[k].a0/\v.a1=s[k].a1):=λhh=>e (by
      generalize s[k]=y at hh
      cases v;simp_all)
     simp_all[Ql]
    grind) 0 rfl
 rw[show Pc (λs_1=>Ql s v s_1) 0=_ from this]
 simp only[aA];congr 1
 grind
def Tm (l:List OP) (out:List Po):List Po :=
 l.foldl (λout x=>if x.Op=17/\x.A≠x.B/\(⟨x.A,x.B⟩:Po)∉out then out++[⟨x.A,x.B⟩]else out) out
theorem AvU (f:Mk) (h:f.Code.length<=1000000):Xk f=some (Tm f.Code []):=by
 unfold Xk;have:=Rg (body:=λs:List Po×Int=>Rf f s.1 s.2) f.Code (λ(out:List Po) i=>(out,i)) (λout i=>out.length<=i) (λout l=>some (Tm l out))
  (λout _=>⟨out,by simp[Rf],by simp[Tm]⟩) (λout i x r ho hd hi hx=>by
   have w:=OX (show i<9223372036854775807 by omega)
   obtain⟨_,rfl⟩:=aAC.1 hx;have hc:=AuH out ⟨f.Code[i].A,f.Code[i].B⟩ (by omega)
   left
   by_cases h17:f.Code[i].Op=17
   ·by_cases hab:f.Code[i].A=f.Code[i].B
    ·exact⟨out,by omega,by simp_all[Rf],by grind [Tm]⟩
    ·by_cases hm:(⟨f.Code[i].A,f.Code[i].B⟩:Po)∈out
     ·exact⟨out,by omega,by simp_all[Rf],by grind [Tm]⟩
     ·exact⟨out++[⟨f.Code[i].A,f.Code[i].B⟩],by simp;omega,by simp[Rf,hi,h17,hab,hc,hm,w,show out.length<=16777215 by omega],by grind [Tm]⟩
   ·exact⟨out,by omega,by simp_all[Rf],by grind [Tm]⟩) [] (by simp)
 omega
theorem ArY (out:List Po) (x:OP) (hk:k<1000000) (h:out.length<=1000000) (old:Bool):VE out x k old=some (.inl (if old=true\/(⟨x.A,x.B⟩:Po)∈out then out else out++[⟨x.A,x.B⟩],((k+1:Nat):Int))):=by
 have wk:=OX (show k<9223372036854775807 by omega)
 have:=Rg (body:=λs:Bool×Int=>Sx out x k s.1 s.2) out (λ(old:Bool) i=>(old,i)) (λ_ _=>True) (λold l=>some (.inl (if old=true\/(⟨x.A,x.B⟩:Po)∈l then out else out++[⟨x.A,x.B⟩],((k+1:Nat):Int))))
  (λold _=>by
   cases old
   ·exact⟨_,by simp[Sx,Um,wk,show out.length<=16777215 by omega];rfl,by simp⟩
   simp_all[Sx,Um]) (λold i y r _ hd hi hx=>by
   have w:=OX (show i<9223372036854775807 by omega)
   obtain⟨_,rfl⟩:=aAC.1 hx;left;cases old
   ·by_cases e:out[i]=⟨x.A,x.B⟩
    ·simp_all[Sx]
    ·refine⟨false,trivial,?_,?_⟩
     ·have hne:(out[i].a0==x.A&&out[i].a1==x.B)=false:=by
       generalize out[i]=y at e;cases y;simp_all
      simp_all[Sx]
     grind
   simp_all[Sx]) old trivial
 exact this
theorem AmP (f:Mk) (h:f.Code.length<=1000000):XU f=some (Tm f.Code []):=by
 unfold XU;have:=Rg (body:=λs:List Po×Int=>RJ f s.1 s.2) f.Code (λ(out:List Po) i=>(out,i)) (λout i=>out.length<=i) (λout l=>some (Tm l out))
  (λout _=>⟨out,by simp[RJ],by simp[Tm]⟩) (λout i x r ho hd hi hx=>by
   obtain⟨_,rfl⟩:=aAC.1 hx;left
   by_cases h17:f.Code[i].Op=17
   ·have hj:=ArY out f.Code[i] (show i<1000000 by omega) (by omega) (f.Code[i].A==f.Code[i].B)
    by_cases hab:f.Code[i].A=f.Code[i].B
    ·have hj:=ArY out f.Code[i] (show i<1000000 by omega) (by omega) true
     exact⟨out,by omega,by simp_all[RJ],by grind [Tm]⟩
    ·by_cases hm:(⟨f.Code[i].A,f.Code[i].B⟩:Po)∈out
     ·exact⟨out,by omega,by simp_all[RJ],by grind [Tm]⟩
     ·exact⟨out++[⟨f.Code[i].A,f.Code[i].B⟩],by simp;omega,by simp_all[RJ],by grind [Tm]⟩
   ·have hj:=ArY out f.Code[i] (show i<1000000 by omega) (by omega) true
    exact⟨out,by omega,by simp_all[RJ],by grind [Tm]⟩) [] (by simp)
 omega
end Go.Proofs.YtilmapojncgflaaGreatDoor
