/-
  Plain laws about the typed programs.
-/
import Derived.Test.YtilmapojncgflaaGreatDoorDc
import Derived.Test.YtilmapojncgflaaGreatDoorDxP
import Derived.Test.YtilmapojncgflaaGreatDoorDd
open Bool renaming cond_eq_ite->aAH,not_true->aAi,not_false->aAp
open Classical renaming byContradiction->aAl
open Int renaming toNat_natCast->aAB,ofNat_lt->aAT,toNat_of_nonneg->aAW
open Go.IntKind renaming bits->aAq
open List renaming getElem?_eq_getElem->aAA,getElem?_eq_some_iff->aAC,mem_of_getElem?->aAE,getElem_mem->aAF,mem_singleton->aAI,getElem?_eq_none->aAJ,mem_append->aAK,mem_cons_of_mem->aAL,getElem?_set_ne->aAM,getElem?_set_self->aAN,take_add_one->aAO,mem_cons_self->aAP,take_length->aAQ,getElem?_of_mem->aAR,mem_or_eq_of_mem_set->aAS,pairwise_cons->aAU,drop_eq_getElem_cons->aAV,length_eq_zero_iff->aAX,ext_getElem?->aAZ,mem_cons->aAa,mem_filter->aAb,range_succ->aAc,getElem?_append_left->aAd,replicate->aAe,range->aAf,mem_append_left->aAg,nodup_cons->aAh,map_cons->aAj,pairwise_iff_getElem->aAk,append_nil->aAm,length_set->aAn,set_getElem_self->aAo
open Nat renaming zero_le->aAD,not_lt_zero->aAG,le_refl->aAY
open Option renaming bind_some->aA
namespace Go.Dw
section
variable {ι R α:Type} {body:ι->Option (ι⊕R)} {v:R}
theorem QV {α β:Type} (s:List α) (mk:β->Int->ι) (I:β->Nat->Prop) (F:β->List α->Option R)
  (hnil:∀ acc,I acc s.length->∃ v,body (mk acc s.length)=some (.inr v)/\F acc []=some v)
  (hcons:∀ acc (i:Nat) x r,I acc i->s.drop i=x::r->i<s.length->s[i]? =some x ->
   (∃ acc',I acc' (i+1)/\body (mk acc i)=some (.inl (mk acc' ((i+1:Nat):Int)))/\F acc (x::r)=F acc' r)\/(∃ v,body (mk acc i)=some (.inr v)/\F acc (x::r)=some v))
  (acc:β) (h0:I acc 0):Pc body (mk acc 0)=F acc s:=by
 have:∀ k i acc,i+k=s.length->I acc i->Pc body (mk acc (i:Nat))=F acc (s.drop i):=by
  intro k
  induction k with
  | zero =>
   intro i acc hi hI;simp only[Nat.add_zero]at hi
   grind [Abq]
  | succ k ih =>
   grind [aAV,Abq]
 have:=this s.length 0 acc (by omega) h0
 simp_all
@[simp] theorem Pp (l:List α) (i:Nat):ixO l (i:Int)=l[i]?:=by
 unfold ixO;rw[if_neg (by omega)]
 simp
theorem QG (l:List α) {i:Int} (h:0<=i):ixO l i=l[i.toNat]?:=by
 simp_all[ixO,if_neg]
@[simp] theorem AvL (l:List α) (i:Nat):ixO l ((i:Int)+1)=l[i+1]?:=by
 have:=Pp l (i+1);simpa using this
@[simp] theorem AoW (l:List α):ixO l 0=l[0]?:=QG l (Int.le_refl 0)
theorem wrap64 {n:Int} (h0: -9223372036854775808<=n) (h1:n<=9223372036854775807):IntKind.i64.wrap n=n:=Avf h0 h1
@[simp] theorem AvS:IntKind.i64.wrap 0=0:=by decide
@[simp] theorem AvT:IntKind.i64.wrap 1=1:=by decide
@[simp] theorem AvU:IntKind.i64.wrap 2=2:=by decide
@[simp] theorem AvV:IntKind.i64.wrap 3=3:=by decide
theorem OZ {i:Nat} (h:i<9223372036854775807):IntKind.i64.wrap ((i:Int)+1)=((i+1:Nat):Int):=by
 grind [wrap64]
@[simp] theorem AvN (r:R):(lft (some r):Option (ι⊕R))=some (.inr r):=rfl
@[simp] theorem AvM:(lft none:Option (ι⊕R))=none:=rfl
@[simp] theorem AtW (s:ι):(cnt s:Option (ι⊕R))=some (.inl s):=rfl
theorem Avo {a:Int} (h0:0<=a) (h1:a<=9223372036854775807):IntKind.i64.wrap ((IntKind.u64.wrap (IntKind.i64.wrap a)).fdiv (2 ^ (Nat.min (1:Int).toNat IntKind.u64.bits)))=a / 2:=by
 rw[wrap64 (by omega) h1]
 have e1:IntKind.u64.wrap a=a:=by grind [IntKind.wrap,aAq]
 have e2:(2:Int) ^ (Nat.min (1:Int).toNat IntKind.u64.bits)=2:=by decide
 grind [wrap64]
theorem Aah (a b:Int):PJ a b=max a b:=by grind [PJ]
theorem AuL (a b:Int):RI a b=min a b:=by grind [RI]
end
open Go
variable {i:Int}
def Hs {α:Type} (m:Option α) (P:α->Prop):Prop:=∃ r,m=some r/\P r
section
variable {α β ι R:Type}
theorem Hs.pure {a:α} {P:α->Prop} (h:P a):Hs (some a) P:=⟨a,rfl,h⟩
theorem Hs.bind {m:Option α} {f:α->Option β} {P:α->Prop} {Q:β->Prop} (h:Hs m P) (hf:∀ r,P r->Hs (f r) Q):Hs (m.bind f) Q:=by
 obtain⟨r,rfl,hr⟩:=h;simp_all
theorem Hs.mono {m:Option α} {P Q:α->Prop} (h:Hs m P) (hf:∀ r,P r->Q r):Hs m Q:=by
 obtain⟨r,h1,hr⟩:=h;exact⟨r,h1,hf r hr⟩
theorem Hs.chk {p:Prop} [Decidable p] {m:Option α} {P:α->Prop} (hp:p) (h:Hs m P):Hs (chk p m) P:=by
 grind [PL]
theorem Hs.cond {b:Bool} {x y:Option α} {P:α->Prop} (h1:b=true->Hs x P) (h2:b=false->Hs y P):Hs (bif b then x else y) P:=by
 grind
theorem Hs.dec {p:Prop} [Decidable p] {x y:Option α} {P:α->Prop} (h1:p->Hs x P) (h2:¬ p->Hs y P):Hs (bif decide p then x else y) P :=
 Hs.cond (λh=>h1 (of_decide_eq_true h)) (λh=>h2 (of_decide_eq_false h))
theorem Hs.beq {a b:Int} {x y:Option α} {P:α->Prop} (h1:a=b->Hs x P) (h2:a≠b->Hs y P):Hs (bif a==b then x else y) P :=
 Hs.cond (λh=>h1 (by simp_all)) (λh=>h2 (by simp_all))
theorem Hs.bne {a b:Int} {x y:Option α} {P:α->Prop} (h1:a≠b->Hs x P) (h2:a=b->Hs y P):Hs (bif a != b then x else y) P :=
 Hs.cond (λh=>h1 (by simp_all)) (λh=>h2 (by simp_all))
theorem Hs.cnt {s:ι} {P:ι⊕R->Prop} (h:P (.inl s)):Hs (Go.Dw.cnt s) P:=⟨_,rfl,h⟩
theorem Hs.lft {m:Option R} {P:ι⊕R->Prop} (h:Hs m λr=>P (.inr r)):Hs (Go.Dw.lft m) P:=by
 obtain⟨r,rfl,h⟩:=h;exact⟨_,rfl,h⟩
def Rnd (I:ι->Prop) (μ:ι->Nat) (s:ι) (Q:R->Prop):ι⊕R->Prop
 | .inl s'=>I s'/\μ s'<μ s
 | .inr r=>Q r
theorem Hs.loop {body:ι->Option (ι⊕R)} {s:ι} {Q:R->Prop} (I:ι->Prop) (μ:ι->Nat) (h0:I s) (hb:∀ s,I s->Hs (body s) (Rnd I μ s Q)):Hs (Pc body s) Q:=by
 refine Aen I Q μ h0 λs hs=>?_
 obtain⟨z,hz,hq⟩:=hb s hs;cases z with
 | inl s'=>exact .inl ⟨s',hz,hq⟩
 | inr r=>exact .inr ⟨r,hz,hq⟩
theorem Hs.get {l:List α} {P:α->Prop} (h0:0<=i) (h1:i<l.length) (h:∀ x,l[i.toNat]? =some x->P x):Hs (l[i.toNat]?) P:=by
 have:l[i.toNat]? =some (l[i.toNat]'(by omega)):=aAA _
 exact⟨_,this,h _ this⟩
theorem Hs.ix {l:List α} {P:α->Prop} (h0:0<=i) (h1:i<l.length) (h:∀ x,l[i.toNat]? =some x->P x):Hs (ixO l i) P:=by
 grind [QG,Hs.get]
end
theorem Aie (n:Int):0<=IntKind.u64.wrap n/\IntKind.u64.wrap n<18446744073709551616:=by
 grind [IntKind.wrap,IntKind.signed,aAq]
end Go.Dw
namespace Go.Proofs.YtilmapojncgflaaGreatDoor
open Go Go.Dw Go.Proofs
variable {s ps to used:List Int} {a v most u:Int} {m:List (List Bool)} {l g:List (List Int)} {i k:Nat} {x:Lo} {c:OY} {f:Le} {sl:List Pa} {code:List Lo} {r:Pn} {mv:Lo->Int->Bool} {Q:Nat->Int->Prop} {I:List Pa×Int->Prop} {μ:List Pa×Int->Nat} {s0:List Pa×Int}
theorem AuZ (n:Int):Hs (UK n) λ_=>True:=by
 exact .cond (λ_=>.pure trivial) λ_=>.cond (λ_=>.pure trivial) λ_=>.cond (λ_=>.pure trivial) λ_=>.cond (λ_=>.pure trivial) λ_=>.pure trivial
theorem Zi (n:Int):UN n=some (decide (0<=n/\n<=2147483647)):=by
 unfold UN
 grind
theorem Atv (n:Int):Hs (RC n) λb=>b=true->1<=n/\n<=16777216:=by
 refine Hs.loop (λk=>1<=k/\k<=33554432) (λk=>33554433-k.toNat) ⟨by omega,by omega⟩ ?_
 rintro k ⟨h0,h1⟩;refine .dec (λh=>.beq (λe=>.lft (.pure λ_=>⟨by omega,by omega⟩)) λ_=>?_) λh=>.lft (.pure λh=>(by cases h))
 rw[wrap64 (by omega) (by omega)]
 exact .cnt ⟨⟨by omega,by omega⟩,by grind⟩
attribute [local simp] PL aAH
theorem AmR (n:Int):Aaj n=some (decide (0<=n/\n<512)):=by
 grind [Aaj]
theorem AjU {n:Int} (h:0<=n/\n<512):Aaj n=some true:=by grind [AmR]
theorem Ark {n:Int} (h:¬ (0<=n/\n<512)):Aaj n=some false:=by grind [AmR]
theorem Zz (s:List Int) (n:Int) (hs:s.length<=9223372036854775807):Wn s n=some (decide (n∈s)):=by
 refine QV s (λ(_:Unit) i=>i) (λ_ _=>True) (λ_ l=>some (decide (n∈l))) (λ_ _=>⟨_,by simp[AcU],rfl⟩) (λ_ i x r _ hd hi hx=>?_) () trivial
 have w:=OZ (show i<9223372036854775807 by omega)
 by_cases h:x=n
 ·simp_all[AcU]
 ·refine .inl ⟨(),trivial,?_,?_⟩
  ·simp_all[AcU]
  grind
def WI (n:Int):List Int->List Int
 | []=>[n]
 | x::r=>if x<n then x::WI n r else if x=n then x::r else n::x::r
theorem Alm (n:Int):∀ s,(WI n s).length<=s.length+1
 | []=>by simp[WI]
 | x::r=>by
  have:=Alm n r
  grind [WI]
def UZ (n:Int) (s:List Int):List Int:=if 0<=n/\n<512 then WI n s else s
theorem add_eq (s:List Int) (n:Int) (hs:s.length<=1000000):ZL s n=some (UZ n s):=by
 unfold ZL UZ;rw[AmR];simp only[aA];have key:∀ d:Bool,Pc (λs_1:List Int×Bool×Int=>SX s n s_1.1 s_1.2.1 s_1.2.2) ([],d,0)=some (if d then s else WI n s):=by
  intro d;have:=QV (body:=λs_1:List Int×Bool×Int=>SX s n s_1.1 s_1.2.1 s_1.2.2) s (λ(p:List Int×Bool) i=>(p.1,p.2,i)) (λp i=>p.1.length<=i+(if p.2 then 1 else 0)) (λp l=>some (p.1++(if p.2 then l else WI n l)))
   (λp hp=>by
    obtain⟨out,done⟩:=p;cases done<;>simp only[if_true,Bool.false_eq_true,if_false]at hp
    ·exact⟨out++[n],by simp[SX,show out.length<=16777215 by omega],by simp[WI]⟩
    simp_all[SX])
   (λp i x r hp hd hi hx=>by
    obtain⟨out,done⟩:=p;have w:=OZ (show i<9223372036854775807 by omega)
    obtain⟨_,rfl⟩:=aAC.1 hx;left;cases done<;>simp only[if_true,Bool.false_eq_true,if_false]at hp
    ·by_cases h1:n<=s[i]
     ·by_cases h2:n<s[i]
      ·refine⟨(out++[n]++[s[i]],true),by simp;omega,?_,?_⟩
       ·simp[SX,Xy,Vo,hi,h1,h2,w,show out.length<=16777215 by omega,show out.length<=16777214 by omega]
       grind [WI]
      ·refine⟨(out++[s[i]],true),by simp;omega,?_,?_⟩
       ·simp[SX,Xy,Vo,hi,h1,h2,w,show out.length<=16777215 by omega]
       grind [WI]
     ·refine⟨(out++[s[i]],false),by simp;omega,?_,?_⟩
      ·simp[SX,Xy,Vo,hi,h1,w,show out.length<=16777215 by omega]
      grind [WI]
    ·refine⟨(out++[s[i]],true),by simp;omega,?_,?_⟩
     ·simp[SX,Xy,Vo,hi,w,show out.length<=16777215 by omega]
     ·simp)
   ([],d) (by simp)
  simp_all
 grind
def Tk:Option Int->List Int->Bool
 | _,[]=>true
 | p,x::r=>decide (0<=x/\x<512)&&(match p with|none=>true|some y=>decide (y<x))&&Tk (some x) r
theorem AfP (s:List Int) (hs:s.length<=9223372036854775807):Ahi s=some (Tk none s):=by
 refine QV s (λ(_:Option Int) i=>i) (λp i=>match i with|0=>p=none|k+1=>s[k]? =p/\p≠none) (λp l=>some (Tk p l)) (λ_ _=>⟨true,by simp[UT],by simp[Tk]⟩) (λp i x r hp hd hi hx=>?_) none rfl
 obtain⟨_,rfl⟩:=aAC.1 hx
 by_cases hg:0<=s[i]/\s[i]<512
 ·cases i with
  | zero =>
   subst hp;exact .inl ⟨some s[0],⟨hx,by simp⟩,by simp[UT,hi,AjU hg],by grind [Tk]⟩
  | succ k =>
   obtain⟨hp,hpn⟩:=hp;have hk:k<s.length:=by omega
   rw[aAA hk]at hp;subst hp;have w:IntKind.i64.wrap ((k:Int)+1+1)=(k:Int)+1+1:=wrap64 (by omega) (by omega)
   have wp:IntKind.i64.wrap (k:Int)=k:=wrap64 (by omega) (by omega)
   have e0:(k:Int)+1-1=k:=by omega
   by_cases hlt:s[k]<s[k+1]
   ·exact .inl ⟨some s[k+1],⟨hx,by simp⟩,by simp[UT,hi,AjU hg,w,wp,e0,hk,show ¬ s[k+1]<=s[k]by omega,show(0:Int)<k+1 by omega,show(k:Int)+1<s.length by omega],by grind [Tk]⟩
   ·exact .inr ⟨false,by simp[UT,hi,AjU hg,w,wp,e0,hk,show s[k+1]<=s[k]by omega,show(0:Int)<k+1 by omega,show(k:Int)+1<s.length by omega],by grind [Tk]⟩
 ·exact .inr ⟨false,by simp_all[UT,Ark],by grind [Tk]⟩
def PO (s:List Int):Prop:=s.Pairwise (· <·)/\∀ x∈s,0<=x/\x<512
theorem Aor:∀ (p:Option Int) (s:List Int),Tk p s=true↔PO s/\∀ y,p=some y->∀ x∈s,y<x
 | p,[]=>by simp[Tk,PO]
 | p,x::r=>by
  simp only[Tk,Bool.and_eq_true,Aor (some x) r,decide_eq_true_eq,PO,aAU,aAa,forall_eq_or_imp,Option.some.injEq]
  grind
theorem AbQ (s:List Int):Tk none s=true↔PO s:=by
 grind [Aor]
theorem PO.length_le (h:PO s):s.length<=512:=by
 have:∀ (s:List Int) (a:Int),s.Pairwise (· <·)->(∀ x∈s,a<=x/\x<512)->a<=512->(s.length:Int)<=512-a:=by
  intro s
  induction s with
  | nil=>simp_all
  | cons x r ih =>
   intro a hp hb ha;rw[aAU]at hp;have hx:=hb x (by simp)
   have:=ih (x+1) hp.2 (λy hy=>⟨by grind,(hb y (by simp[hy])).2⟩) (by omega)
   grind
 have:=this s 0 h.1 h.2 (by omega)
 omega
theorem AdI (n m:Int):∀ s,m∈WI n s↔m=n\/m∈s
 | []=>by simp[WI]
 | x::r=>by
  simp only[WI];split
  ·simp only[aAa,AdI n m r]
   grind
  grind
theorem PO.WI {n:Int} (h:PO s) (hn:0<=n/\n<512):PO (Proofs.YtilmapojncgflaaGreatDoor.WI n s):=by
 refine⟨?_,λx hx=>?_⟩
 ·replace h:=h.1;clear hn
  induction s<;>grind [Proofs.YtilmapojncgflaaGreatDoor.WI,aAU,AdI]
 ·rw[AdI]at hx;rcases hx with rfl|hx
  ·exact hn
  ·exact h.2 x hx
theorem PO.nil:PO []:=⟨List.Pairwise.nil,λx hx=>by cases hx⟩
theorem AsB (s:List Pa):Hs (WJ s) λe=>e=0->s.length<=512:=by
 refine .dec (λ_=>.pure λh=>by simp at h) λh=>?_
 have hl:s.length<=512:=by omega
 refine(Hs.loop (Q:=λ_=>True) (λi=>∃ k:Nat,i=(k:Int)/\k<=s.length) (λi=>s.length-i.toNat) ⟨0,rfl,aAD _⟩ ?_).mono λ_ _ _=>hl
 rintro _ ⟨k,rfl,hk⟩;refine .dec (λhlt=>?_) λ_=>.lft (.pure trivial)
 refine(Hs.ix (P:=λ_=>True) (by omega) hlt λ_ _=>trivial).bind λx _=>(AuZ _).bind λb _=>.cond (λ_=>.lft (.pure trivial)) λ_=>?_
 refine(Hs.ix (P:=λ_=>True) (by omega) hlt λ_ _=>trivial).bind λy _=>(Atv _).bind λb _=>.cond (λ_=>.lft (.pure trivial)) λ_=>?_
 rw[OZ (by omega)]
 exact .cnt ⟨⟨k+1,rfl,by omega⟩,by grind⟩
theorem ArF (a b:Pa):Hs (AcW a b) λ_=>True:=by
 exact .cond (λ_=>.pure trivial) λ_=>.cond (λ_=>.pure trivial) λ_=>.pure trivial
theorem AgQ (n:Int):Rh n=some (decide (0<=n/\n<512)):=by
 grind [Rh]
theorem Ahr {n:Int} (h:0<=n/\n<512):Rh n=some true:=by grind [AgQ]
theorem ApL {n:Int} (h:¬ (0<=n/\n<512)):Rh n=some false:=by grind [AgQ]
theorem AbR (s:List Int) (hs:s.length<=9223372036854775807):Zg s=some (Tk none s):=by
 refine QV s (λ(_:Option Int) i=>i) (λp i=>match i with|0=>p=none|k+1=>s[k]? =p/\p≠none) (λp l=>some (Tk p l)) (λ_ _=>⟨true,by simp[Sh],by simp[Tk]⟩) (λp i x r hp hd hi hx=>?_) none rfl
 obtain⟨_,rfl⟩:=aAC.1 hx
 by_cases hg:0<=s[i]/\s[i]<512
 ·cases i with
  | zero =>
   subst hp;exact .inl ⟨some s[0],⟨hx,by simp⟩,by simp[Sh,hi,Ahr hg],by grind [Tk]⟩
  | succ k =>
   obtain⟨hp,hpn⟩:=hp;have hk:k<s.length:=by omega
   rw[aAA hk]at hp;subst hp;have w:IntKind.i64.wrap ((k:Int)+1+1)=(k:Int)+1+1:=wrap64 (by omega) (by omega)
   have wp:IntKind.i64.wrap (k:Int)=k:=wrap64 (by omega) (by omega)
   have e0:(k:Int)+1-1=k:=by omega
   by_cases hlt:s[k]<s[k+1]
   ·exact .inl ⟨some s[k+1],⟨hx,by simp⟩,by simp[Sh,hi,Ahr hg,w,wp,e0,hk,show ¬ s[k+1]<=s[k]by omega,show(0:Int)<k+1 by omega,show(k:Int)+1<s.length by omega],by grind [Tk]⟩
   ·exact .inr ⟨false,by simp[Sh,hi,Ahr hg,w,wp,e0,hk,show s[k+1]<=s[k]by omega,show(0:Int)<k+1 by omega,show(k:Int)+1<s.length by omega],by grind [Tk]⟩
 ·exact .inr ⟨false,by simp_all[Sh,ApL],by grind [Tk]⟩
theorem AuY (a b:List Int) (h:a.length<=9223372036854775807):AiO a b=some (decide (a=b)):=by
 unfold AiO
 by_cases hl:a.length=b.length
 ·have:=QV (body:=λi:Int=>Yj a b i) a (λ(_:List Int) i=>i) (λacc i=>b.drop i=acc) (λacc l=>some (decide (l=acc)))
   (λacc hacc=>⟨true,by simp[Yj],by simp_all⟩) (λacc i x r hacc hd hi hx=>by
    have w:=OZ (show i<9223372036854775807 by omega)
    obtain⟨_,rfl⟩:=aAC.1 hx;have hib:i<b.length:=by omega
    have hdb:=aAV hib
    by_cases e:a[i]=b[i]
    ·exact .inl ⟨b.drop (i+1),rfl,by simp[Yj,hi,hib,e,w],by rw[<- hacc,hdb];simp only[List.cons.injEq,e,true_and]⟩
    ·exact .inr ⟨false,by simp[Yj,hi,hib,e],by rw[<- hacc,hdb];simp only[List.cons.injEq,e,false_and,decide_false]⟩)
   b (by simp)
  simp_all
 ·have:¬ a=b:=λe=>hl (by rw[e])
  grind
theorem Arz (a b:List (List Int)) (h:a.length<=9223372036854775807) (hr:∀ s∈a,s.length<=9223372036854775807):AeV a b=some (decide (a=b)):=by
 unfold AeV
 by_cases hl:a.length=b.length
 ·have:=QV (body:=λi:Int=>Vp a b i) a (λ(_:List (List Int)) i=>i) (λacc i=>b.drop i=acc) (λacc l=>some (decide (l=acc)))
   (λacc hacc=>⟨true,by simp[Vp],by simp_all⟩) (λacc i x r hacc hd hi hx=>by
    have w:=OZ (show i<9223372036854775807 by omega)
    obtain⟨_,rfl⟩:=aAC.1 hx;have hib:i<b.length:=by omega
    have hdb:=aAV hib;have hs:=AuY a[i] b[i] (hr _ (aAF _))
    by_cases e:a[i]=b[i]
    ·refine .inl ⟨b.drop (i+1),rfl,?_,by rw[<- hacc,hdb];simp only[List.cons.injEq,e,true_and]⟩
     rw[decide_eq_true e]at hs;simp[Vp,hi,hib,hs,w]
    ·refine .inr ⟨false,?_,by rw[<- hacc,hdb];simp only[List.cons.injEq,e,false_and,decide_false]⟩
     rw[decide_eq_false e]at hs
     simp[Vp,hi,hib,hs])
   b (by simp)
  simp_all
 ·have:¬ a=b:=λe=>hl (by rw[e])
  grind
theorem Asu (s:List Int) (n:Int) (hs:s.length<=16777215):Agj s n=some (s.filter (· != n)):=by
 unfold Agj;have:=QV (body:=λp:List Int×Int=>Wo s n p.1 p.2) s (λ(out:List Int) i=>(out,i)) (λout i=>out.length<=i) (λout l=>some (out++l.filter (· != n)))
  (λout _=>⟨out,by simp[Wo],by simp⟩) (λout i x r ho hd hi hx=>by
   have w:=OZ (show i<9223372036854775807 by omega)
   obtain⟨_,rfl⟩:=aAC.1 hx;left
   by_cases h:s[i]=n
   ·exact⟨out,by omega,by simp_all[Wo],by simp[h]⟩
   ·exact⟨out++[s[i]],by simp;omega,by simp[Wo,hi,h,w,show out.length<=16777215 by omega],by simp[h]⟩)
  [] (by simp)
 simp_all
def Re (a b:List Int):List Int:=b.foldl (λo x=>UZ x o) a
theorem ApM (n:Int) (s:List Int):(UZ n s).length<=s.length+1:=by
 grind [UZ,Alm]
theorem union_eq (a b:List Int) (h:a.length+b.length<=1000000):WK a b=some (Re a b):=by
 unfold WK Re;rw[PL (by simp;omega)]
 have:=QV (body:=λp:List Int×Int=>Aai b p.1 p.2) b (λ(out:List Int) i=>(out,i)) (λout i=>out.length<=a.length+i) (λout l=>some (l.foldl (λo x=>UZ x o) out))
  (λout _=>⟨out,by simp[Aai],by simp⟩) (λout i x r ho hd hi hx=>by
   have w:=OZ (show i<9223372036854775807 by omega)
   obtain⟨_,rfl⟩:=aAC.1 hx;have hl:=ApM b[i] out;left
   exact⟨UZ b[i] out,by omega,by simp[Aai,hi,add_eq out b[i] (by omega),w],by simp⟩)
  a (by simp)
 simp_all
theorem AmM:∀ {a b:List Int},a.Pairwise (· <·)->b.Pairwise (· <·)->(∀ v∈a,v∈b)->a.Sublist b
 | [],_,_,_,_=>List.nil_sublist _
 | x::a,[],_,_,h=>by grind [aAP]
 | x::a,y::b,ha,hb,h=>by
  rw[aAU]at ha hb
  by_cases e:x=y
  ·subst e;refine(AmM ha.2 hb.2 λv hv=>?_).cons_cons x
   grind
  ·have hx:x∈b:=by
    simp_all
   have hyx:=hb.1 x hx;refine(AmM (aAU.2 ha) hb.2 λv hv=>?_).cons y
   grind
theorem PO.sub {a b:List Int} (ha:PO a) (hb:PO b) (h:∀ v∈a,v∈b):a.Sublist b:=AmM ha.1 hb.1 h
theorem PO.ext {a b:List Int} (ha:PO a) (hb:PO b) (h:∀ v,v∈a↔v∈b):a=b :=
 (ha.sub hb λv hv=>(h v).1 hv).eq_of_length_le (hb.sub ha λv hv=>(h v).2 hv).length_le
theorem PO.filter {a:List Int} (ha:PO a) (p:Int->Bool):PO (a.filter p) :=
 ⟨ha.1.sublist List.filter_sublist,λx hx=>ha.2 x ((aAb.1 hx).1)⟩
theorem PF.Aon {n m:Int} (h:PO s/\∀ x∈s,x<n) (hm:0<=m/\m<n) (hn:n<=512):PO (UZ m s)/\(∀ x∈UZ m s,x<n)/\∀ v,v∈UZ m s↔v=m\/v∈s:=by
 unfold UZ;rw[if_pos (by omega)]
 refine⟨h.1.WI (by omega),λx hx=>?_,λv=>AdI _ _ _⟩
 grind [AdI]
theorem UM {n:Int} (hn:n<=512):∀ {b a:List Int},(PO a/\∀ x∈a,x<n)->(∀ x∈b,0<=x/\x<n)->(PO (Re a b)/\∀ x∈Re a b,x<n)/\∀ v,v∈Re a b↔v∈a\/v∈b
 | [],a,ha,_=>⟨ha,λv=>by simp[Re]⟩
 | x::b,a,ha,hb=>by
  obtain⟨h1,h2,h3⟩:=PF.Aon ha (hb x (aAP ..)) hn;obtain⟨h4,h5⟩:=UM hn ⟨h1,h2⟩ λy hy=>hb y (aAL _ hy)
  grind [Re]
def TC (l:List Int) (p:Int->Prop):Prop:=PO l/\∀ v,v∈l↔(0<=v/\v<512)/\p v
theorem TC.eq {l m:List Int} {p q:Int->Prop} (h:TC l p) (k:TC m q) (e:∀ v,0<=v->v<512->(p v↔q v)):l=m :=
 h.1.ext k.1 λv=>by
  rw[h.2,k.2];simp_all
theorem TC.Amz {l:List Int} (h:PO l):TC l (· ∈l):=⟨h,λv=>⟨λk=>⟨h.2 v k,k⟩,λk=>k.2⟩⟩
theorem TC.mono {l:List Int} {p q:Int->Prop} (h:TC l p) (e:∀ v,0<=v->v<512->(p v↔q v)):TC l q :=
 ⟨h.1,λv=>by rw[h.2];simp_all⟩
abbrev BS:=OW
def Sg (t:BS):Prop:=∀ w∈t.toList,WW w
theorem BS.len (t:BS):t.toList.length=8:=rfl
variable {t:BS}
def TJ (t:BS) (i:Nat):Int:=(t.toList[i]?).getD 0
def hasB (t:BS) (v:Int):Bool:=Adt (TJ t (v.toNat / 64)) (v.toNat % 64)
theorem ZZ (h:i<8):t.toList[i]? =some (TJ t i):=by
 have:t.toList[i]? =some (t.toList[i]'(show i<8 from h)):=aAA _
 grind [TJ]
theorem Sg.word (h:Sg t) (hi:i<8):WW (TJ t i):=h _ (aAE (ZZ hi))
theorem AnI {j:Nat} {w:Int} (hi:i<8):TJ (t.set i w) j=if i=j then w else TJ t j:=by
 unfold TJ;rw[RW,List.getElem?_set]
 by_cases h:i=j
 all_goals simp_all[OW.toList]
theorem Sg.set (h:Sg t) {w:Int} (hw:WW w):Sg (t.set i w):=by
 intro x hx;rw[RW]at hx;rcases aAS hx with h1|rfl
 ·exact h x h1
 ·exact hw
theorem Sg.zero:Sg ⟨0,0,0,0,0,0,0,0⟩:=by
 intro w hw;simp[OW.toList]at hw;exact⟨by omega,by omega⟩
theorem ArW (v:Int):hasB ⟨0,0,0,0,0,0,0,0⟩ v=false:=by
 have:TJ ⟨0,0,0,0,0,0,0,0⟩ (v.toNat / 64)=0:=by
  have hl:∀ i:Nat,(([0,0,0,0,0,0,0,0]:List Int)[i]?).getD 0=0:=by
   grind
  exact hl _
 simp_all[hasB,Adt]
theorem Aog (n:Int):0<=(IntKind.u64.wrap n).tmod 64/\(0<=n->n<512->((IntKind.u64.wrap n).tmod 64).toNat=n.toNat % 64):=by
 obtain⟨h0,h1⟩:=Aie n;rw[Int.tmod_eq_emod_of_nonneg h0];refine⟨by omega,λha hb=>?_⟩
 rw[AsL ⟨ha,by omega⟩]
 omega
theorem Arv {n:Int} (h0:0<=n) (h1:n<512):IntKind.i64.wrap (n.tdiv 64)=((n.toNat / 64:Nat):Int):=by
 grind [wrap64]
theorem Avh {n:Int} (h0:0<=n) (h1:n<512):IntKind.u64.wrap (1*2 ^ (Nat.min ((IntKind.u64.wrap n).tmod 64).toNat IntKind.u64.bits))=((2 ^ (n.toNat % 64):Nat):Int):=by
 rw[(Aog n).2 h0 h1];have e:Nat.min (n.toNat % 64) IntKind.u64.bits=n.toNat % 64:=Nat.min_eq_left (by show n.toNat % 64<=64;omega)
 rw[e,Int.one_mul];have hp:2 ^ (n.toNat % 64)<18446744073709551616:=by
  have:=Nat.pow_lt_pow_right (a:=2) (by decide) (show n.toNat % 64<64 by omega)
  omega
 grind [AfB]
theorem Api (j:Nat) (h:j<64):2 ^ j<18446744073709551616:=by
 have:=Nat.pow_lt_pow_right (a:=2) (by decide) h
 omega
theorem Avn {n:Int} (h0:0<=n) (h0':0<=v) (hne:v≠n) (h:n.toNat / 64=v.toNat / 64):v.toNat % 64≠n.toNat % 64:=by omega
theorem Asp (ht:Sg t) (n:Int) (b:Bool):Hs (TL t n b) λr=>Sg r/\∀ v,0<=v->v<512->hasB r v=if v=n then b else hasB t v:=by
 refine .chk (Aog n).1 ?_;rw[AgQ,aA]
 by_cases h:0<=n/\n<512
 ·rw[decide_eq_true h];obtain⟨h0,h1⟩:=h;have hi:n.toNat / 64<8:=by omega
  have hb:=Avh h0 h1;have hw:=ht.word hi;have hp:WW ((2 ^ (n.toNat % 64):Nat):Int):=WW.nat (Api _ (by omega))
  have fin:∀ (x:Nat),x<18446744073709551616->(∀ j,j<64->x.testBit j=if j=n.toNat % 64 then b else(TJ t (n.toNat / 64)).toNat.testBit j) ->
    Sg (t.set (n.toNat / 64) (x:Int))/\∀ v,0<=v->v<512->hasB (t.set (n.toNat / 64) (x:Int)) v=if v=n then b else hasB t v:=by
   intro x hx hbit;refine⟨ht.set (WW.nat hx),λv hv0 hv1=>?_⟩
   unfold hasB;rw[AnI hi]
   by_cases he:v=n
   ·subst he;rw[if_pos rfl,if_pos rfl];show(x:Int).toNat.testBit _=b;rw[aAB,hbit _ (by omega),if_pos rfl]
   ·rw[if_neg he]
    by_cases hq:n.toNat / 64=v.toNat / 64
    ·rw[if_pos hq];show(x:Int).toNat.testBit _=_;rw[aAB,hbit _ (by omega),if_neg (Avn h0 hv0 he hq),hq]
     rfl
    simp_all
  cases b with
  | true =>
   simp only[aAi,cond_false,cond_true];rw[Arv h0 h1];refine .chk (by omega) ?_
   rw[aAB,ZZ hi,aA];refine .chk (by omega) ?_
   rw[aA];refine .pure ?_;rw[hb,Avr hw hp,aAB];refine fin _ (Asi hw.toNat_lt (Api _ (by omega))) λj hj=>?_
   rw[Nat.testBit_or,Nat.testBit_two_pow]
   grind
  | false =>
   simp only[aAi,cond_false];rw[Arv h0 h1];refine .chk (by omega) ?_
   rw[aAB,ZZ hi,aA];refine .chk (by omega) ?_
   rw[aA];refine .pure ?_;rw[hb,Aoo hw hp,aAB];refine fin _ (AmL hw.toNat_lt) λj hj=>?_
   rw[AoG hw.toNat_lt (Api _ (by omega)),Nat.testBit_two_pow]
   grind
 ·rw[decide_eq_false h];exact .pure ⟨ht,λv h0 h1=>by grind⟩
theorem AiJ (l:List Int) (hl:l.length<=9000000000000000000):Hs (RU l) λr=>Sg r/\∀ v,0<=v->v<512->hasB r v=decide (v∈l):=by
 refine Hs.loop (λs=>Sg s.1/\∃ k:Nat,s.2=(k:Int)/\k<=l.length/\∀ v,0<=v->v<512->hasB s.1 v=decide (v∈l.take k)) (λs=>l.length-s.2.toNat) ⟨Sg.zero,0,rfl,aAD _,λv _ _=>by simp[ArW]⟩ ?_
 rintro⟨t,k'⟩ ⟨ht,k,hk',hk,hall⟩;subst hk';refine .dec (λhlt=>?_) λhge=>?_
 ·have hlt:k<l.length:=by omega
  refine Hs.bind (P:=λx=>l[k]? =some x) ⟨l[k],by simp[hlt],by simp[hlt]⟩ λx hx=>(Asp ht x true).bind λr hr=>.cnt ?_
  rw[OZ (by omega)]
  refine⟨⟨hr.1,k+1,rfl,hlt,λv h0 h1=>?_⟩,by grind⟩
  grind [aAO]
 ·have:k=l.length:=by omega
  subst this;exact .lft (.pure ⟨ht,λv h0 h1=>by simp_all⟩)
theorem PO.snoc {l:List Int} (h:PO l) {z:Int} (h0:0<=z/\z<512) (hz:∀ x∈l,x<z):PO (l++[z]):=by
 refine⟨List.pairwise_append.2 ⟨h.1,List.pairwise_singleton _ _,λa ha b hb=>?_⟩,λx hx=>?_⟩
 ·simp_all
 ·simp only[aAK,aAI]at hx;rcases hx with h1|rfl
  ·exact h.2 x h1
  ·exact h0
theorem Afr (ht:Sg t):Hs (RH t) λr=>r.2=t/\TC r.1 (λv=>hasB t v=true):=by
 refine Hs.loop (λs=>∃ i:Nat,s.2=(i:Int)/\i<=8/\TC s.1 (λv=>v<64*i/\hasB t v=true)) (λs=>8-s.2.toNat) ⟨0,rfl,by omega,⟨PO.nil,λv=>by simp;omega⟩⟩ ?_
 rintro⟨l,i'⟩ ⟨i,hi',hi,hs⟩;subst hi';refine .dec (λhlt=>?_) λhge=>?_
 ·have hlt:i<8:=by omega
  refine .chk (by omega) ?_
  rw[aAB,ZZ hlt,aA];have hw:=ht.word hlt;refine Hs.loop (λs=>WW s.2/\∃ c:Nat,c<=64/\TC s.1 (λv=>v<64*i+c/\hasB t v=true)/\∀ j,j<64->Adt s.2 j=(decide (c<=j)&&Adt (TJ t i) j)) (λs=>s.2.toNat) ⟨hw,0,by omega,by simp_all,λj _=>by simp⟩ ?_
  rintro⟨m,x⟩ ⟨hx,c,hc,hm,hb⟩;simp only at hx hm hb;refine .bne (λhne=>?_) λhe=>?_
  ·have hx0:0<x.toNat:=by have:=hx.1;omega
   obtain⟨k1,k2,k3,k4⟩:=Ato hx0 hx.toNat_lt;generalize hk:Lib.ctz 64 x.toNat=k at k1 k2 k3 k4;have ek:AiZ x=some (k:Int):=by
    unfold AiZ;rw[PL (show 0<=x/\x<18446744073709551616 from hx),hk]
   rw[ek,aA];have hck:c<=k:=by
    grind [Adt]
   have hwk:Adt (TJ t i) k=true:=by
    grind [Adt]
   have e1:IntKind.i64.wrap (IntKind.i64.wrap (64*(i:Int))+(k:Int))=((64*i+k:Nat):Int):=by
    grind [wrap64]
   have e2:IntKind.u64.wrap (x-1)=x-1:=AsL ⟨by omega,by have:=hx.2;omega⟩
   have e3:(x-1).toNat=x.toNat-1:=by omega
   have hz:∀ v∈m,v<((64*i+k:Nat):Int):=λv hv=>by
    have:=((hm.2 v).1 hv).2.1;omega
   have hlen:=hm.1.length_le;refine .chk (by simp;omega) (.cnt ?_)
   rw[e1,e2,AtK hx ⟨by omega,by have:=hx.2;omega⟩,e3]
   refine⟨⟨WW.nat (AmL hx.toNat_lt),k+1,by omega,⟨hm.1.snoc (by omega) hz,λv=>?_⟩,λj hj=>?_⟩,?_⟩
   ·simp only[aAK,aAI,hm.2];constructor
    ·grind [hasB]
    ·rintro⟨a,b,d⟩
     by_cases e:v=((64*i+k:Nat):Int)
     ·exact .inr e
     ·refine .inl ⟨a,?_,d⟩
      grind [Adt,hasB]
   ·simp only;unfold Adt;rw[aAB,k4]
    grind [Adt]
   grind [Nat.and_le_right]
  ·have he:x=0:=he;subst he;refine .lft (.cnt ?_);rw[OZ (by omega)]
   refine⟨⟨i+1,rfl,hlt,hm.mono λv h0 h1=>⟨λ⟨a,b⟩=>⟨by omega,b⟩,λ⟨a,b⟩=>⟨?_,b⟩⟩⟩,by grind⟩
   grind [hasB,Adt]
 ·have:i=8:=by omega
  exact .lft (.pure ⟨rfl,hs.mono λv h0 h1=>⟨λh=>h.2,λh=>⟨by omega,h⟩⟩⟩)
theorem AsO {x y:Int} (hx:WW x) (hy:WW y):Xg x y=some ((x.toNat ||| y.toNat:Nat):Int):=by
 grind [Xg,Avr]
theorem Asf {x y:Int} (hx:WW x) (hy:WW y):Xf x y=some ((AoF x.toNat y.toNat:Nat):Int):=by
 grind [Xf,Aoo]
theorem AqE {s:BS} (hs:Sg s) (ht:Sg t) (g:Nat->Nat->Nat) (hg:∀ x y,x<18446744073709551616->y<18446744073709551616->g x y<18446744073709551616) (p:Bool->Bool->Bool) (hp:∀ x y j,x<18446744073709551616->y<18446744073709551616->j<64->(g x y).testBit j=p (x.testBit j) (y.testBit j)) {body:BS×Int->Option ((BS×Int)⊕(BS×BS×BS))} (hend:∀ x,body (x,8)=some (.inr (x,s,t))) (hstep:∀ x (i:Nat),i<8->body (x,(i:Int))=some (.inl (x.set i ((g (TJ s i).toNat (TJ t i).toNat:Nat):Int),((i+1:Nat):Int)))) :
  Hs (Pc body (⟨0,0,0,0,0,0,0,0⟩,0)) λr=>Sg r.1/\∀ v,0<=v->v<512->hasB r.1 v=p (hasB s v) (hasB t v):=by
 refine Hs.loop (λq=>Sg q.1/\∃ i:Nat,q.2=(i:Int)/\i<=8/\∀ j,j<i->TJ q.1 j=((g (TJ s j).toNat (TJ t j).toNat:Nat):Int)) (λq=>8-q.2.toNat) ⟨Sg.zero,0,rfl,by omega,λj hj=>by omega⟩ ?_
 rintro⟨x,i'⟩ ⟨hx,i,hi',hi,hall⟩;subst hi'
 by_cases hlt:i<8
 ·refine⟨_,hstep x i hlt,⟨hx.set (WW.nat (hg _ _ (hs.word hlt).toNat_lt (ht.word hlt).toNat_lt)),i+1,rfl,hlt,λj hj=>?_⟩,by grind⟩
  simp only;rw[AnI hlt]
  grind
 ·obtain rfl:i=8:=by omega
  refine⟨_,hend x,hx,λv h0 h1=>?_⟩
  have hv:v.toNat / 64<8:=by omega
  unfold hasB;rw[hall _ hv];unfold Adt;rw[aAB,hp _ _ _ (hs.word hv).toNat_lt (ht.word hv).toNat_lt (by omega)]
theorem AnZ {s:BS} (hs:Sg s) (ht:Sg t):Hs (Sj s t) λr=>Sg r.1/\∀ v,0<=v->v<512->hasB r.1 v=(hasB s v||hasB t v):=by
 refine AqE hs ht (· ||| ·) (λx y=>Asi) (· ||·) (λx y j _ _ _=>Nat.testBit_or ..) (λx=>by simp[QP]) λx i hi=>?_
 have w:=OZ (show i<9223372036854775807 by omega)
 simp[QP,ZZ hi,AsO (hs.word hi) (ht.word hi),w,show(i:Int)<8 by omega]
theorem AnY {s:BS} (hs:Sg s) (ht:Sg t):Hs (Si s t) λr=>Sg r.1/\∀ v,0<=v->v<512->hasB r.1 v=(hasB s v&& !hasB t v):=by
 refine AqE hs ht AoF (λx y hx _=>AmL hx) (λa b=>a&& !b) (λx y j hx hy _=>AoG hx hy) (λx=>by simp[QO]) λx i hi=>?_
 have w:=OZ (show i<9223372036854775807 by omega)
 simp[QO,ZZ hi,Asf (hs.word hi) (ht.word hi),w,show(i:Int)<8 by omega]
theorem Aov (l:List Int) (hl:l.length<=9000000000000000000):Hs (Zh l) λr=>TC r (· ∈l):=by
 exact(AiJ l hl).bind λr hr=>(Afr hr.1).bind λq hq=>.pure (hq.2.mono λv h0 h1=>by simp_all)
theorem Aox (l:List Int) (n:Int) (hl:l.length<=9000000000000000000):Hs (VP l n) λr=>TC r (λv=>v∈l/\v≠n):=by
 unfold VP;refine(AiJ l hl).bind λr hr=>(Asp hr.1 n false).bind λu hu=>(Afr hu.1).bind λq hq=>.pure (hq.2.mono λv h0 h1=>?_)
 grind
theorem ApT (a b:List Int) (ha:a.length<=9000000000000000000) (hb:b.length<=9000000000000000000):Hs (SV a b) λr=>TC r (λv=>v∈a\/v∈b):=by
 unfold SV;refine(AiJ a ha).bind λr hr=>(AiJ b hb).bind λu hu=>(AnZ hr.1 hu.1).bind λx hx=>(Afr hx.1).bind λq hq=>.pure (hq.2.mono λv h0 h1=>?_)
 simp_all
theorem ApS (a b:List Int) (ha:a.length<=9000000000000000000) (hb:b.length<=9000000000000000000):Hs (Xe a b) λr=>TC r (λv=>v∈a/\v∉b):=by
 unfold Xe;refine(AiJ a ha).bind λr hr=>(AiJ b hb).bind λu hu=>(AnY hr.1 hu.1).bind λx hx=>(Afr hx.1).bind λq hq=>.pure (hq.2.mono λv h0 h1=>?_)
 simp_all
theorem Aow (hs:PO s) (n:Int):VP s n=some (s.filter (· != n)):=by
 obtain⟨r,h1,h2⟩:=Aox s n (by have:=hs.length_le;omega)
 rw[h1,h2.eq (TC.Amz (hs.filter (· != n))) λv _ _=>by simp_all]
theorem Aee {a b:List Int} (ha:PO a) (hb:∀ x∈b,0<=x/\x<512) (hl:b.length<=1000):SV a b=some (Re a b):=by
 obtain⟨r,h1,h2⟩:=ApT a b (by have:=ha.length_le;omega) (by omega)
 obtain⟨h3,h4⟩:=UM (n:=512) (by omega) (b:=b) ⟨ha,λx hx=>(ha.2 x hx).2⟩ hb
 rw[h1,h2.eq (TC.Amz h3.1) λv _ _=>by rw[h4]]
theorem AsY {b:List Int} (hb:∀ x∈b,0<=x/\x<512) (hl:b.length<=1000):Zh b=some (Re [] b):=by
 obtain⟨r,h1,h2⟩:=Aov b (by omega)
 obtain⟨h3,h4⟩:=UM (n:=512) (by omega) (b:=b) ⟨PO.nil,λx hx=>by cases hx⟩ hb
 rw[h1,h2.eq (TC.Amz h3.1) λv _ _=>by simp_all]
def okC (c:OY):Prop:=0<=c.at_/\c.at_<=c.list.length/\c.list.length<=1000/\∀ v∈c.list,0<=v/\v<=255
theorem Avp (l:List Int) (n:Int) (hl:qL (RY .u8) l) (h0:0<=n) (h1:n<=1000):∃ c,AfV l n=some c/\okC c:=by
 unfold AfV;have e:RI (l.length:Int) n=min (l.length:Int) n:=AuL _ _;refine⟨_,by rw[PL (by omega)],by simp,?_,?_,?_⟩
 ·simp
 ·grind
 ·intro v hv;have:=hl.2 v (List.mem_of_mem_take hv)
  grind [RY,IntKind.min,IntKind.max,IntKind.signed,aAq]
theorem AuN (c:OY) (h:okC c) (n:Int) (h1:n<=1099511627776):∃ r c',Pm c n=some (r,c')/\okC c'/\0<=r/\(r<n\/r=0):=by
 obtain⟨ha,hb,hc,hd⟩:=h;unfold Pm YT
 by_cases hl:c.at_<c.list.length
 ·by_cases hn:n<1
  ·exact⟨0,c,by simp_all,⟨ha,hb,hc,hd⟩,by omega,.inr rfl⟩
  ·have hx:c.list[c.at_.toNat]? =some (c.list[c.at_.toNat]'(by omega)):=aAA _
   have hv:=hd _ (aAF (show c.at_.toNat<c.list.length by omega))
   generalize hq:c.list[c.at_.toNat]'(by omega)=v at hx hv
   have e1:IntKind.i64.wrap v=v:=wrap64 (by omega) (by omega)
   have hm0:0<=v*n:=Int.mul_nonneg hv.1 (by omega)
   have hm1:v*n<=255*n:=Int.mul_le_mul_of_nonneg_right hv.2 (by omega)
   have e2:IntKind.i64.wrap (v*n)=v*n:=wrap64 (by omega) (by omega)
   have e3:(v*n).tdiv 256=v*n / 256:=Int.tdiv_eq_ediv_of_nonneg hm0;have e4:IntKind.i64.wrap (v*n / 256)=v*n / 256:=wrap64 (by omega) (by omega)
   have e5:IntKind.i64.wrap (c.at_+1)=c.at_+1:=wrap64 (by omega) (by omega)
   refine⟨v*n / 256,⟨c.list,c.at_+1⟩,?_,⟨by grind,by grind,hc,hd⟩,by omega,.inl (by omega)⟩
   grind [VY,QG]
 ·exact⟨0,c,by simp[hl],⟨ha,hb,hc,hd⟩,by omega,.inr rfl⟩
theorem AuM (h:okC c) {n:Int} (h1:n<=1099511627776):Hs (Pm c n) λp=>okC p.2/\0<=p.1/\(p.1<n\/p.1=0):=by
 obtain⟨r,c',e,h2,h3,h4⟩:=AuN c h n h1;exact⟨(r,c'),e,h2,h3,h4⟩
theorem PV (h:okC c) {n:Int} (h0:1<=n) (h1:n<=1099511627776):Hs (Pm c n) λp=>okC p.2/\0<=p.1/\p.1<n :=
 (AuM h h1).mono λr hr=>⟨hr.1,hr.2.1,by omega⟩
def Ts (s:Pa):Prop:=s.Size∈([8,4,8,1,2,16,8]:List Int)/\s.Align∈([8,4,1,8,16,2,32,64]:List Int)
def W64 (w:Int):Prop:=0<=w/\w<18446744073709551616
def Reg (a:Int):Prop:=0<=a/\a<4
theorem Ava (h:okC c):Hs (YU c) λp=>okC p.2/\Ts p.1:=by
 refine(PV h (by omega) (by omega)).bind λr hr=>.chk (by simp;omega) ?_
 refine(Hs.get hr.2.1 (by simp;omega) λx hx=>aAE hx).bind λx hx=>?_
 refine(PV hr.1 (by omega) (by omega)).bind λr' hr'=>.chk (by simp;omega) ?_
 refine(Hs.get hr'.2.1 (by simp;omega) λx hx=>aAE hx).bind λy hy=>?_
 exact .pure ⟨hr'.1,hx,hy⟩
theorem AtC (h:okC c) {m:Int} (hm:0<=m) (hm':m<=1000):Hs (Ve c m) λp=>okC p.2/\(p.1.length:Int)<=m/\∀ s∈p.1,Ts s:=by
 unfold Ve;have w:IntKind.i64.wrap (m+1)=m+1:=wrap64 (by omega) (by omega)
 refine(PV h (by omega) (by omega)).bind λr hr=>?_
 refine Hs.loop (λs=>okC ⟨s.1,s.2.1⟩/\(s.2.2.1.length:Int)+s.2.2.2<=m/\(∀ x∈s.2.2.1,Ts x)/\0<=s.2.2.2) (λs=>s.2.2.2.toNat) ⟨hr.1,by simp;omega,by simp,hr.2.1⟩ ?_
 rintro⟨l,a,sl,n⟩ ⟨hc,hl,hs,hn⟩;simp only at hc hl hs hn;refine .dec (λhlt=>?_) λhlt=>?_
 ·have hlt:0<n:=hlt;have w:IntKind.i64.wrap (n-1)=n-1:=wrap64 (by omega) (by omega)
  refine(Ava hc).bind λx hx=>.chk (by simp;omega) (.cnt ⟨⟨hx.1,?_,?_,?_⟩,?_⟩)
  all_goals grind
 ·exact .lft (.pure ⟨hc,by grind,hs⟩)
theorem AqF (h:okC c):Hs (VZ c) λp=>okC p.2/\W64 p.1:=by
 refine(PV h (by omega) (by omega)).bind λr hr=>.beq (λ_=>?_) λ_=>.beq (λ_=>?_) λ_=>.beq (λ_=>?_) λ_=>?_
 ·exact(PV hr.1 (by omega) (by omega)).bind λr' hr'=>.pure ⟨hr'.1,Aie _⟩
 ·exact(PV hr.1 (by omega) (by omega)).bind λr' hr'=>.chk hr'.2.1 (.pure ⟨hr'.1,Aie _⟩)
 ·exact .pure ⟨hr.1,by grind [W64]⟩
 ·exact(PV hr.1 (by omega) (by omega)).bind λr' hr'=>.pure ⟨hr'.1,Aie _⟩
def AsR (sl:List Pa) (a b:Int):Prop:=0<=a/\a<sl.length/\∃ x y,sl[a.toNat]? =some x/\sl[b.toNat]? =some y/\x.Size=y.Size
theorem AuK (h:okC c) {s:Int} (h0:0<=s) (h1:s<f.Slots.length) (hl:f.Slots.length<=1000):Hs (YV c f s) λp=>okC p.2/\AsR f.Slots p.1 s:=by
 refine Hs.loop (λst=>0<=st.2/\st.2<=f.Slots.length/\(st.1.length:Int)<=st.2/\(∀ v∈st.1,AsR f.Slots v s)/\(s<st.2->0<st.1.length)) (λst=>f.Slots.length-st.2.toNat) ⟨by simp,by simp,by simp,by simp,λh=>by omega⟩ ?_
 rintro⟨l,k⟩ ⟨hk0,hk1,hll,hv,hne⟩;simp only at hk0 hk1 hll hv hne;refine .dec (λhlt=>?_) λhlt=>.lft ?_
 ·have w:IntKind.i64.wrap (k+1)=k+1:=wrap64 (by omega) (by omega)
  refine(Hs.ix hk0 hlt λx hx=>hx).bind λx hx=>(Hs.ix h0 h1 λx hx=>hx).bind λy hy=>.beq (λhe=>?_) λhe=>?_
  ·refine .chk (by simp;omega) (.cnt ⟨⟨by grind,by grind,by simp_all,?_,by simp⟩,by grind⟩)
   intro v hv';rcases aAK.1 hv' with h2|h2
   ·simp_all
   ·rw[aAI]at h2;subst h2;exact⟨hk0,hlt,x,y,hx,hy,he⟩
  ·refine .cnt ⟨⟨by grind,by grind,by grind,hv,λh3=>?_⟩,by grind⟩
   grind
 ·refine(PV h (n:=(l.length:Int)) (by omega) (by omega)).bind λr hr=>.chk ⟨hr.2.1,hr.2.2⟩ ?_
  exact(Hs.get hr.2.1 hr.2.2 λx hx=>hv x (aAE hx)).bind λx hx=>.pure ⟨hr.1,hx⟩
inductive QE (sl:List Pa) (np i:Int) (ps:List Int) (T:Int->Prop):Lo->Prop
 | store (a b:Int):0<=a->a<sl.length->Reg b->QE sl np i ps T ⟨16,a,b,0,0⟩
 | load (a b:Int):Reg a->0<=b->b<sl.length->QE sl np i ps T ⟨15,a,b,0,0⟩
 | move (a b:Int):AsR sl a b->0<=b->b<sl.length->QE sl np i ps T ⟨17,a,b,0,0⟩
 | const (a w:Int):Reg a->W64 w->QE sl np i ps T ⟨0,a,0,0,w⟩
 | bin (op a b c:Int):2<=op->op<12->Reg a->Reg b->0<=c->c<8->QE sl np i ps T ⟨op,a,b,c,0⟩
 | out (a:Int):Reg a->QE sl np i ps T ⟨14,a,0,0,0⟩
 | un (op a:Int):(op=13\/op=12\/op=1)->Reg a->QE sl np i ps T ⟨op,a,0,0,0⟩
 | param (a b:Int):Reg a->0<=b->b<np->QE sl np i ps T ⟨19,a,b,0,0⟩
 | arg (a b:Int):0<=a->a<4->Reg b->QE sl np i ps T ⟨18,a,b,0,0⟩
 | call (j:Int):i<j->j<ps.length->QE sl np i ps T ⟨22,j,0,0,0⟩
 | jump (t:Int):T t->QE sl np i ps T ⟨20,t,0,0,0⟩
 | branch (a t:Int):Reg a->T t->QE sl np i ps T ⟨21,a,t,0,0⟩
def Amd (ps:List Int):Prop:=(∀ v∈ps,0<=v/\v<4)/\ps.length<=1000
theorem AtV (h:okC c) {i:Int} (T:Int->Prop) (hf:f.Slots.length<=1000) (hp:f.Params<4) (hi:0<=i) (hi':i<ps.length) (hps:Amd ps) :
  Hs (Wa c f i ps) λp=>okC p.2/\p.1.length<=4/\∀ x∈p.1,QE f.Slots f.Params i ps T x:=by
 unfold Wa;refine(PV h (by omega) (by omega)).bind λr hr=>(PV hr.1 (by omega) (by omega)).bind λk hk=>?_
 have hreg:Reg r.1:=hr.2;have one:∀ {x:Lo} {c':OY},okC c'->QE f.Slots f.Params i ps T x->Hs (some (([x]:List Lo),c')) λp=>okC p.2/\p.1.length<=4/\∀ x∈p.1,QE f.Slots f.Params i ps T x:=λhc hx=>.pure ⟨hc,by simp,by simp_all⟩
 have j6:∀ b,(b=true->i+1<ps.length)->Hs (TR k ps i r b) λp=>okC p.2/\p.1.length<=4/\∀ x∈p.1,QE f.Slots f.Params i ps T x:=by
  intro b hb;refine .cond (λhb'=>?_) λ_=>one hk.1 (.out _ hreg)
  have hil:=hb hb';have hlen:=hps.2;have w1:IntKind.i64.wrap ((ps.length:Int)-i)=(ps.length:Int)-i:=wrap64 (by omega) (by omega)
  have w2:IntKind.i64.wrap ((ps.length:Int)-i-1)=(ps.length:Int)-i-1:=wrap64 (by omega) (by omega)
  have w3:IntKind.i64.wrap (i+1)=i+1:=wrap64 (by omega) (by omega)
  rw[w1,w2];refine(PV hk.1 (by omega) (by omega)).bind λq hq=>?_
  have w4:IntKind.i64.wrap (i+1+q.1)=i+1+q.1:=wrap64 (by omega) (by omega)
  refine Hs.loop (λs=>okC ⟨s.1,s.2.1⟩/\(s.2.2.1.length:Int)<=s.2.2.2/\0<=s.2.2.2/\s.2.2.2<=3/\∀ x∈s.2.2.1,QE f.Slots f.Params i ps T x) (λs=>(3-s.2.2.2).toNat) ⟨hq.1,by simp,by simp,by simp,by simp⟩ ?_
  rintro⟨l,a,out,n⟩ ⟨hc,ho,hn0,hn3,hall⟩;simp only at hc ho hn0 hn3 hall;unfold Wb;simp only[w3,w4];refine(Hs.ix (by omega) (by omega) λx hx=>hps.1 x (aAE hx)).bind λx hx=>.dec (λhlt=>?_) λhlt=>.lft ?_
  ·have w5:IntKind.i64.wrap (n+1)=n+1:=wrap64 (by omega) (by omega)
   refine(PV hc (by omega) (by omega)).bind λu hu=>.dec (λ_=>?_) λ_=>?_
   ·refine(PV hu.1 (by omega) (by omega)).bind λv hv=>.chk (by simp;omega) (.cnt ⟨⟨hv.1,by simp_all,by grind,by grind,?_⟩,by grind⟩)
    intro y hy;rcases aAK.1 hy with h2|h2
    ·simp_all
    ·rw[aAI]at h2;subst h2;exact .arg _ _ hn0 (by omega) hv.2
   ·exact .cnt ⟨⟨hu.1,by grind,by grind,by grind,hall⟩,by grind⟩
  ·refine .chk (by simp;omega) (.pure ⟨hc,by grind,?_⟩)
   intro y hy;rcases aAK.1 hy with h2|h2
   ·simp_all
   ·rw[aAI]at h2;subst h2;exact .call _ (by omega) (by omega)
 have j5:∀ b,(b=true->0<f.Params)->Hs (TQ k f r ps i b) λp=>okC p.2/\p.1.length<=4/\∀ x∈p.1,QE f.Slots f.Params i ps T x:=by
  intro b hb;refine .cond (λhb'=>?_) λ_=>.dec (λ_=>j6 _ λhd=>?_) λ_=>j6 _ λhd=>(by cases hd)
  ·have:=hb hb';exact(PV hk.1 (by omega) (by omega)).bind λu hu=>one hu.1 (.param _ _ hreg hu.2.1 hu.2.2)
  ·have hlen:=hps.2;have:=of_decide_eq_true hd
   grind [wrap64]
 have j4:∀ b,(b=true->0<f.Slots.length)->Hs (TP k f r ps i b) λp=>okC p.2/\p.1.length<=4/\∀ x∈p.1,QE f.Slots f.Params i ps T x:=by
  intro b hb;refine .cond (λhb'=>?_) λ_=>.dec (λ_=>?_) λ_=>.dec (λ_=>?_) λ_=>.dec (λ_=>one hk.1 (.out _ hreg)) λ_=>.beq (λ_=>?_) λ_=>.beq (λ_=>j5 _ λhd=>of_decide_eq_true hd) λ_=>j5 _ λhd=>(by cases hd)
  ·have:=hb hb';exact(PV hk.1 (by omega) (by omega)).bind λu hu=>(AuK hu.1 hu.2.1 hu.2.2 hf).bind λv hv=>one hv.1 (.move _ _ hv.2 hu.2.1 hu.2.2)
  ·exact(AqF hk.1).bind λu hu=>one hu.1 (.const _ _ hreg hu.2)
  ·refine(PV hk.1 (by omega) (by omega)).bind λu hu=>(PV hu.1 (by omega) (by omega)).bind λv hv=>(PV hv.1 (by omega) (by omega)).bind λz hz=>one hz.1 ?_
   rw[wrap64 (by omega) (by omega)]
   exact .bin _ _ _ _ (by omega) (by omega) hreg hv.2 hz.2.1 hz.2.2
  ·refine(PV hk.1 (by omega) (by omega)).bind λu hu=>.chk (by simp;omega) ?_
   refine(Hs.get hu.2.1 (by simp;omega) λx hx=>aAE hx).bind λx hx=>one hu.1 (.un _ _ (by simp_all) hreg)
 have j3:∀ b,(b=true->0<f.Slots.length)->Hs (TO k f r ps i b) λp=>okC p.2/\p.1.length<=4/\∀ x∈p.1,QE f.Slots f.Params i ps T x:=by
  intro b hb;refine .cond (λhb'=>?_) λ_=>.dec (λ_=>j4 _ λhd=>by simp_all) λ_=>j4 _ λhd=>(by cases hd)
  have:=hb hb';exact(PV hk.1 (by omega) (by omega)).bind λu hu=>one hu.1 (.load _ _ hreg hu.2.1 hu.2.2)
 have j2:∀ b,(b=true->0<f.Slots.length)->Hs (TN k f r ps i b) λp=>okC p.2/\p.1.length<=4/\∀ x∈p.1,QE f.Slots f.Params i ps T x:=by
  intro b hb;refine .cond (λhb'=>?_) λ_=>.dec (λ_=>j3 _ λhd=>by simp_all) λ_=>j3 _ λhd=>(by cases hd)
  have:=hb hb';exact(PV hk.1 (by omega) (by omega)).bind λu hu=>one hu.1 (.store _ _ hu.2.1 hu.2.2 hreg)
 grind
theorem QE.mono {np i:Int} {T T':Int->Prop} (h:QE sl np i ps T x) (hT:∀ t,T t->T' t):QE sl np i ps T' x:=by
 cases h with
 | store a b h1 h2 h3=>exact .store a b h1 h2 h3
 | load a b h1 h2 h3=>exact .load a b h1 h2 h3
 | move a b h1 h2 h3=>exact .move a b h1 h2 h3
 | const a w h1 h2=>exact .const a w h1 h2
 | bin op a b c h1 h2 h3 h4 h5 h6=>exact .bin op a b c h1 h2 h3 h4 h5 h6
 | out a h1=>exact .out a h1
 | un op a h1 h2=>exact .un op a h1 h2
 | param a b h1 h2 h3=>exact .param a b h1 h2 h3
 | arg a b h1 h2 h3=>exact .arg a b h1 h2 h3
 | call j h1 h2=>exact .call j h1 h2
 | jump t h1=>exact .jump t (hT t h1)
 | branch a t h1 h2=>exact .branch a t h1 (hT t h2)
def Aih (x:Lo):Prop:=x=⟨23,0,0,0,0⟩\/∃ w,W64 w/\x=⟨24,0,0,0,w⟩
def AdF (x:Lo) (t:Int):Lo :=
 if x.Op=20/\x.A<0 then⟨x.Op,t,x.B,x.C,x.Imm⟩else if x.Op=21/\x.B<0 then⟨x.Op,x.A,t,x.C,x.Imm⟩else x
theorem Aih.fix (h:Aih x) (t:Int):AdF x t=x:=by
 rcases h with rfl|⟨w,_,rfl⟩<;>simp[AdF]
theorem QE.fix {np i:Int} {T:Int->Prop} (h:QE sl np i ps (· = -1) x) {t:Int} (ht:T t):QE sl np i ps T (AdF x t):=by
 cases h with
 | store a b h1 h2 h3=>exact .store a b h1 h2 h3
 | load a b h1 h2 h3=>exact .load a b h1 h2 h3
 | move a b h1 h2 h3=>exact .move a b h1 h2 h3
 | const a w h1 h2=>exact .const a w h1 h2
 | bin op a b c h1 h2 h3 h4 h5 h6 =>
  have:AdF ⟨op,a,b,c,0⟩ t=⟨op,a,b,c,0⟩:=by grind [AdF]
  rw[this];exact .bin op a b c h1 h2 h3 h4 h5 h6
 | out a h1=>exact .out a h1
 | un op a h1 h2 =>
  have:AdF ⟨op,a,0,0,0⟩ t=⟨op,a,0,0,0⟩:=by grind [AdF]
  rw[this];exact .un op a h1 h2
 | param a b h1 h2 h3=>exact .param a b h1 h2 h3
 | arg a b h1 h2 h3=>exact .arg a b h1 h2 h3
 | call j h1 h2=>exact .call j h1 h2
 | jump q h1=>subst h1;exact .jump t ht
 | branch a q h1 h2=>subst h2;exact .branch a t h1 ht
theorem AvE (h:code[k]? =some x) (r:Int×OY) (t:Int):QA (k:Int) code r t=some (.inl (r.2.list,r.2.at_,code.set k (AdF x t),IntKind.i64.wrap ((k:Int)+1))):=by
 obtain⟨hl,hx⟩:=aAC.1 h;have hset:code.set k x=code:=by grind [aAo]
 obtain⟨op,a,b,c,w⟩:=x;unfold QA Su
 by_cases h20:op=20
 ·subst h20
  by_cases ha:a<0
  ·simp_all[PL,AdF]
  ·simp[PL,hl,hx,AdF,ha,hset]
 ·by_cases h21:op=21
  ·subst h21
   by_cases hb:b<0
   ·simp_all[PL,AdF]
   ·simp[PL,hl,hx,AdF,hb,hset]
  ·have e20:(op==20)=false:=by simp_all
   have e21:(op==21)=false:=by simp_all
   simp[PL,hl,hx,AdF,e20,e21,h20,h21,hset]
structure UY (ps:List Int) (i most:Int) (f:Le):Prop where
 par:ps[i.toNat]? =some f.Params
 slots:f.Slots.length<=6
 slot:∀ s∈f.Slots,Ts s
 len:1<=f.Code.length
 len':(f.Code.length:Int)<=7+5*most
 body:∀ (k:Nat) x,f.Code[k]? =some x->k+1<f.Code.length->QE f.Slots f.Params i ps (λt=>0<=t/\t<f.Code.length) x
 last:∀ x,f.Code[f.Code.length-1]? =some x->Aih x
theorem Avm {l:List Int} (h:okC ⟨l,a⟩) {np i:Int} (hpar:ps[i.toNat]? =some np) (hsl:sl.length<=6) (hsl':∀ s∈sl,Ts s) (hlen:1<=code.length) (hlen':(code.length:Int)<=7+5*most) (hm:most<=1000) (hb:∀ (k:Nat) x,code[k]? =some x->k+1<code.length->QE sl np i ps (· = -1) x) (he:∀ x,code[code.length-1]? =some x->Aih x) :
  Hs (Pc (λs:List Int×Int×List Lo×Int=>TE np sl s.1 s.2.1 s.2.2.1 s.2.2.2) (l,a,code,0)) λp=>okC p.2/\UY ps i most p.1:=by
 refine Hs.loop (λs=>okC ⟨s.1,s.2.1⟩/\s.2.2.1.length=code.length/\∃ k:Nat,s.2.2.2=(k:Int)/\k<=code.length/\(∀ x,s.2.2.1[code.length-1]? =some x->Aih x) /\
  ∀ (j:Nat) x,s.2.2.1[j]? =some x->j+1<code.length->QE sl np i ps (λt=>if j<k then 0<=t/\t<code.length else t= -1) x) (λs=>code.length-s.2.2.2.toNat) ⟨h,rfl,0,rfl,aAD _,he,λj x hj hj'=>(hb j x hj hj').mono λt ht=>by simp_all⟩ ?_
 rintro⟨l,a,code',k⟩ ⟨hc,hl,k,rfl,hk,he',hall⟩;simp only at hc hl he' hall;refine .dec (λhlt=>?_) λhlt=>?_
 ·have hlt:k<code.length:=by simp_all
  have w:=OZ (show k<9223372036854775807 by omega)
  have hx:code'[k]? =some (code'[k]'(by omega)):=aAA _
  generalize code'[k]'(by omega)=x at hx
  have step:∀ (r:Int×OY) (t:Int),okC r.2->0<=t->t<code.length->Hs (QA (k:Int) code' r t) (Rnd (λs:List Int×Int×List Lo×Int=>okC ⟨s.1,s.2.1⟩/\s.2.2.1.length=code.length/\∃ k:Nat,s.2.2.2=(k:Int)/\k<=code.length/\(∀ x,s.2.2.1[code.length-1]? =some x->Aih x) /\
    ∀ (j:Nat) x,s.2.2.1[j]? =some x->j+1<code.length->QE sl np i ps (λt=>if j<k then 0<=t/\t<code.length else t= -1) x) (λs=>code.length-s.2.2.2.toNat) (l,a,code',(k:Int)) (λp:Le×OY=>okC p.2/\UY ps i most p.1)):=by
   intro r t hr ht0 ht1;rw[AvE hx];refine .pure ⟨⟨hr,by simp[hl],k+1,w,hlt,?_,?_⟩,by grind⟩
   ·intro y hy;simp only at hy
    by_cases e:k=code.length-1
    ·rw[<- e,aAN (by omega)]at hy
     obtain rfl:=Option.some.inj hy;have hex:=he' x (by simp_all)
     rw[hex.fix];exact hex
    simp_all
   ·intro j y hy hj;simp only at hy
    by_cases e:k=j
    ·subst e;rw[aAN (by omega)]at hy
     obtain rfl:=Option.some.inj hy;exact((hall k x hx hj).mono λt ht=>by simp_all).fix (by simp_all)
    grind
  refine(PV hc (by omega) (by omega)).bind λr hr=>?_
  have w1:IntKind.i64.wrap ((k:Int)+r.1)=(k:Int)+r.1:=wrap64 (by omega) (by omega)
  grind [wrap64]
 ·have hlt:¬ k<code'.length:=λh=>hlt (aAT.2 h)
  have hkl:k=code.length:=by omega
  refine .lft (.pure ⟨hc,hpar,hsl,hsl',by simp_all,by simp_all,?_,?_⟩)
  all_goals grind
theorem AtM {l:List Int} (h:okC ⟨l,a⟩) {np i:Int} (hpar:ps[i.toNat]? =some np) (hsl:sl.length<=6) (hsl':∀ s∈sl,Ts s) (hlen:(code.length:Int)<=6+5*most) (hm:most<=1000) (hb:∀ x∈code,QE sl np i ps (· = -1) x) {e1 e2:Int} (he:Aih ⟨e1,0,0,0,e2⟩) :
  Hs (Rz code np sl l a e1 e2) λp=>okC p.2/\UY ps i most p.1:=by
 unfold Rz;refine .chk (by simp;omega) (Avm h hpar hsl hsl' (by simp) (by simp;omega) hm ?_ ?_)
 all_goals grind
theorem ApX (h:okC c) {i:Int} (hi:0<=i) (hi':i<ps.length) (hps:Amd ps) (hm0:0<=most) (hm:most<=1000) :
  Hs (Vw c i ps most) λp=>okC p.2/\UY ps i most p.1:=by
 refine(Hs.ix hi hi' λx hx=>hx).bind λnp hnp=>(AtC h (by omega) (by omega)).bind λsl hsl=>?_
 obtain⟨hc0,hsl1,hsl2⟩:=hsl;have hnp4:=hps.1 np (aAE hnp);refine Hs.loop (λs=>okC ⟨s.1,s.2.1⟩/\0<=s.2.2.2/\s.2.2.2<=sl.1.length/\(s.2.2.1.length:Int)<=s.2.2.2/\∀ x∈s.2.2.1,QE sl.1 np i ps (· = -1) x) (λs=>sl.1.length-s.2.2.2.toNat) ⟨hc0,by simp,by simp,by simp,by simp⟩ ?_
 rintro⟨l,a,code,s⟩ ⟨hc,hs0,hs1,hcl,hall⟩;simp only at hc hs0 hs1 hcl hall;refine .dec (λhlt=>?_) λhlt=>?_
 ·have hlt:s<sl.1.length:=hlt;have w:IntKind.i64.wrap (s+1)=s+1:=wrap64 (by omega) (by omega)
  refine(PV hc (by omega) (by omega)).bind λr hr=>.dec (λ_=>?_) λ_=>?_
  ·refine(PV hr.1 (by omega) (by omega)).bind λq hq=>.chk (by simp;omega) (.cnt ⟨⟨hq.1,by grind,by grind,by simp_all,?_⟩,by grind⟩)
   intro y hy;rcases aAK.1 hy with h2|h2
   ·simp_all
   ·rw[aAI]at h2;subst h2;exact .store _ _ hs0 hlt hq.2
  ·exact .cnt ⟨⟨hr.1,by grind,by grind,by grind,hall⟩,by grind⟩
 ·have w:IntKind.i64.wrap (most+1)=most+1:=wrap64 (by omega) (by omega)
  refine .lft ((PV hc (by omega) (by omega)).bind λr hr=>?_)
  refine Hs.loop (λs=>okC ⟨s.1,s.2.1⟩/\s.2.2.2.1=sl.1/\0<=s.2.2.2.2/\s.2.2.2.2<=most/\(s.2.2.1.length:Int)<=6+5*(most-s.2.2.2.2)/\∀ x∈s.2.2.1,QE sl.1 np i ps (· = -1) x) (λs=>s.2.2.2.2.toNat) ⟨hr.1,rfl,hr.2.1,by grind,by grind,hall⟩ ?_
  rintro⟨l,a,code,sl',n⟩ ⟨hc,rfl,hn0,hn1,hcl,hall⟩;simp only at hc hn0 hn1 hcl hall;refine .dec (λhlt=>?_) λhlt=>.lft ?_
  ·have hlt:0<n:=hlt;have w:IntKind.i64.wrap (n-1)=n-1:=wrap64 (by omega) (by omega)
   refine(AtV hc (· = -1) (by grind) hnp4.2 hi hi' hps).bind λb hb=>.chk (by simp;omega) ?_
   have hall2:∀ x∈code++b.1,QE sl.1 np i ps (· = -1) x:=by
    grind
   have hall3:∀ x,QE sl.1 np i ps (· = -1) x->∀ y∈(code++b.1)++[x],QE sl.1 np i ps (· = -1) y:=by
    grind
   refine(PV hb.1 (by omega) (by omega)).bind λr hr=>.beq (λ_=>?_) λ_=>.beq (λ_=>?_) λ_=>?_
   ·refine(PV hr.1 (by omega) (by omega)).bind λq hq=>.chk (by simp;omega) (.cnt ⟨⟨hq.1,rfl,by grind,by grind,by grind,hall3 _ (.branch _ _ hq.2 rfl)⟩,by grind⟩)
   ·refine(PV hr.1 (by omega) (by omega)).bind λq hq=>.beq (λ_=>?_) λ_=>?_
    ·exact .chk (by simp;omega) (.cnt ⟨⟨hq.1,rfl,by grind,by grind,by grind,hall3 _ (.jump _ rfl)⟩,by grind⟩)
    ·exact .cnt ⟨⟨hq.1,rfl,by grind,by grind,by grind,hall2⟩,by grind⟩
   ·exact .cnt ⟨⟨hr.1,rfl,by grind,by grind,by grind,hall2⟩,by grind⟩
  ·refine(PV hc (by omega) (by omega)).bind λr hr=>.beq (λ_=>?_) λ_=>?_
   ·exact(AqF hr.1).bind λq hq=>AtM hq.1 hnp (by omega) hsl2 (by omega) hm hall (.inr ⟨_,hq.2,rfl⟩)
   ·exact AtM hr.1 hnp (by omega) hsl2 (by omega) hm hall (.inl rfl)
def Aju (funcs most:Int) (p:Ph):Prop :=
 ∃ ps,Amd ps/\ps[0]? =some 0/\1<=ps.length/\(ps.length:Int)<=funcs/\p.Funcs.length=ps.length/\∀ (j:Nat) f,p.Funcs[j]? =some f->UY ps j most f
theorem AmC (h:okC c) {funcs:Int} (hf:1<=funcs) (hf':funcs<=1000) (hm0:0<=most) (hm:most<=1000) :
  Hs (TM c funcs most) λp=>okC p.2/\Aju funcs most p.1:=by
 refine(PV h hf (by omega)).bind λr hr=>?_
 refine Hs.loop (λs=>okC ⟨s.1,s.2.1⟩/\(∀ v∈s.2.2.1,0<=v/\v<4)/\s.2.2.1[0]? =some 0/\0<=s.2.2.2/\(s.2.2.1.length:Int)+s.2.2.2<=funcs) (λs=>s.2.2.2.toNat) ⟨hr.1,by simp,by simp,hr.2.1,by simp;omega⟩ ?_
 rintro⟨l,a,ps,n⟩ ⟨hc,hv,hz,hn0,hn1⟩;simp only at hc hv hz hn0 hn1;have hp1:1<=ps.length:=by grind
 refine .dec (λhlt=>?_) λhlt=>.lft ?_
 ·have hlt:0<n:=hlt;have w:IntKind.i64.wrap (n-1)=n-1:=wrap64 (by omega) (by omega)
  refine(PV hc (by omega) (by omega)).bind λq hq=>.chk (by simp;omega) (.cnt ⟨⟨hq.1,?_,by grind,by grind,by grind⟩,by grind⟩)
  grind
 ·have hps:Amd ps:=⟨hv,by omega⟩
  refine Hs.loop (λs=>okC ⟨s.1,s.2.1⟩/\s.2.2.2.2=ps/\∃ i:Nat,s.2.2.2.1=(i:Int)/\i<=ps.length/\s.2.2.1.length=i/\∀ (j:Nat) f,s.2.2.1[j]? =some f->UY ps j most f) (λs=>ps.length-s.2.2.2.1.toNat) ⟨hc,rfl,0,rfl,aAD _,rfl,λj f hj=>by simp at hj⟩ ?_
  rintro⟨l,a,fs,i',ps'⟩ ⟨hc,hpe,i,hie,hi,hfl,hall⟩;simp only at hc hpe hie hi hfl hall;subst hpe hie;unfold Uh;refine .dec (λhlt=>?_) λhlt=>.lft (.pure ⟨hc,ps',hps,hz,hp1,by omega,?_,hall⟩)
  ·have hlt:i<ps'.length:=aAT.1 hlt;have w:=OZ (show i<9223372036854775807 by omega)
   have hpl:=hps.2;refine .chk (by simp;omega) ((ApX hc (i:=(i:Int)) (ps:=ps') (by omega) (by omega) hps hm0 hm).bind λf hf=>.chk (by simp;omega) (.cnt ⟨⟨hf.1,rfl,i+1,w,hlt,by simp;omega,?_⟩,by grind⟩))
   grind
  grind
def VX (f:Le) (k:Nat):Lo:=(f.Code[k]?).getD default
def PU (x:Lo) (k:Int):List Int :=
 if x.Op=20 then[x.A]else if x.Op=23\/x.Op=24 then[]else
 if x.Op=21 then(if x.B<k+1 then[x.B,k+1]else if k+1<x.B then[k+1,x.B]else[k+1])else[k+1]
theorem Apt (h:f.Code[k]? =some x) (hk:k<9223372036854775807):Afv f (k:Int)=some (PU x k):=by
 obtain⟨hl,hx⟩:=aAC.1 h;have hnl:¬ f.Code.length<=k:=by omega
 have w:IntKind.i64.wrap ((k:Int)+1)=(k:Int)+1:=wrap64 (by omega) (by omega)
 unfold Afv Ajg PU;obtain⟨op,a,b,c,i⟩:=x
 by_cases h20:op=20
 ·subst h20;simp[hx,hl,hnl,show ¬ (k:Int)<0 by omega]
 ·by_cases h23:op=23
  ·simp_all[Ti]
  ·by_cases h24:op=24
   ·simp_all[Ti]
   ·by_cases h21:op=21
    ·subst h21
     by_cases hb:b<(k:Int)+1
     ·simp[hx,hl,hnl,show ¬ (k:Int)<0 by omega,Ti,w,hb]
     ·by_cases hb':(k:Int)+1<b
      ·simp[hx,hl,hnl,show ¬ (k:Int)<0 by omega,Ti,w,hb,hb']
      ·simp[hx,hl,hnl,show ¬ (k:Int)<0 by omega,Ti,w,hb,hb']
    ·simp[hx,hl,hnl,show ¬ (k:Int)<0 by omega,Ti,w,h20,h23,h24,h21]
def Qw (x:Lo):List Int:=if x.Op=15\/x.Op=17 then[x.B]else[]
structure Pv (f:Le):Prop where
 len:1<=f.Code.length
 len':f.Code.length<=10000
 slots:f.Slots.length<=500
 next:∀ (k:Nat) x,f.Code[k]? =some x->∀ j∈PU x k,0<=j/\j<f.Code.length
 uses:∀ x∈f.Code,∀ v∈Qw x,0<=v/\v<f.Slots.length
theorem UY.Ath {i:Int} (h:UY ps i most f) (hm:most<=1000):Pv f:=by
 have hl:=h.len;have hl':=h.len';have hs:=h.slots;refine⟨hl,by omega,by omega,λk x hx j hj=>?_,λx hx v hv=>?_⟩
 ·have hkl:=(aAC.1 hx).1
  by_cases hk:k+1<f.Code.length
  ·have hins:=h.body k x hx hk;cases hins<;>grind [PU]
  ·have he:=h.last x (by grind)
   rcases he with rfl|⟨w,_,rfl⟩<;>simp[PU]at hj
 ·obtain⟨k,hk⟩:=aAR hx;have hkl:=(aAC.1 hk).1
  by_cases hk1:k+1<f.Code.length
  ·have hins:=h.body k x hk hk1;cases hins<;>grind [Qw]
  ·have he:=h.last x (by grind)
   rcases he with rfl|⟨w,_,rfl⟩<;>simp[Qw]at hv
def PF (n:Int) (s:List Int):Prop:=PO s/\∀ x∈s,x<n
theorem PF.nil (n:Int):PF n []:=⟨PO.nil,λx hx=>by cases hx⟩
theorem PF.add {n m:Int} (h:PF n s) (hm:0<=m/\m<n) (hn:n<=512):PF n (UZ m s)/\ZL s m=some (UZ m s):=by
 have hl:=h.1.length_le;refine⟨?_,add_eq s m (by omega)⟩
 unfold UZ;rw[if_pos (by omega)]
 refine⟨h.1.WI (by omega),λx hx=>?_⟩
 rw[AdI]at hx;rcases hx with rfl|hx
 ·exact hm.2
 ·exact h.2 x hx
def RowsIn (n:Int) (g:List (List Int)):Prop:=∀ s∈g,PF n s
theorem RowsIn.set {n:Int} (h:RowsIn n g) (hs:PF n s):RowsIn n (g.set i s):=by
 intro x hx;rcases aAS hx with h1|rfl
 ·exact h x h1
 ·exact hs
def inN (x:Lo) (s:List Int):List Int:=Re (if x.Op=16\/x.Op=17 then s.filter (· != x.A)else s) (Qw x)
theorem AtL (x:Lo) (s:List Int) (h:s.length<=900000):AiP x s=some (inN x s):=by
 obtain⟨op,a,b,c,i⟩:=x;have hu:Ye ⟨op,a,b,c,i⟩=some (Qw ⟨op,a,b,c,i⟩):=by
  grind [Ye,Qw]
 have hul:(Qw ⟨op,a,b,c,i⟩).length<=1:=by grind [Qw]
 have hfl:(s.filter (· != a)).length<=s.length:=List.length_filter_le ..;have hr:=Asu s a (by omega)
 grind [union_eq,AiP,Us,Uk,inN]
theorem Ace (hf:Pv f) (hx:x∈f.Code) (hs:PF f.Slots.length s) :
  PF f.Slots.length (inN x s)/\∀ v,v∈inN x s↔(v∈s/\¬ ((x.Op=16\/x.Op=17)/\x.A=v))\/v∈Qw x:=by
 have hsl:=hf.slots;have h0:PF f.Slots.length (if x.Op=16\/x.Op=17 then s.filter (· != x.A)else s):=by
  split
  ·exact⟨hs.1.filter _,λv hv=>hs.2 v (aAb.1 hv).1⟩
  ·exact hs
 obtain⟨h1,h2⟩:=UM (n:=f.Slots.length) (by omega) (b:=Qw x) h0 (hf.uses x hx)
 refine⟨h1,λv=>?_⟩
 unfold inN
 grind
def OU (f:Le) (j:Int):Lo:=(f.Code[j.toNat]?).getD default
def Pq (l:List (List Int)) (j:Int):List Int:=(l[j.toNat]?).getD []
def Qt (f:Le) (l:List (List Int)) (k:Int):List Int:=(PU (OU f k) k).foldl (λo j=>Re o (inN (OU f j) (Pq l j))) []
def Sn (f:Le) (l:List (List Int)):List (List Int):=(aAf f.Code.length).map λk=>Qt f l (k:Nat)
def QD (f:Le) (l:List (List Int)):Prop:=l.length=f.Code.length/\∀ s∈l,PF f.Slots.length s
theorem AlJ {f:Le} (hf:Pv f) {l:List (List Int)} (hl:QD f l):∀ {js:List Int} {o:List Int},(∀ j∈js,0<=j/\j<f.Code.length)->PF f.Slots.length o ->
  PF f.Slots.length (js.foldl (λo j=>Re o (inN (OU f j) (Pq l j))) o)/\∀ v,v∈js.foldl (λo j=>Re o (inN (OU f j) (Pq l j))) o↔v∈o\/∃ j∈js,v∈inN (OU f j) (Pq l j)
 | [],o,_,ho=>⟨ho,λv=>by simp⟩
 | j::js,o,hj,ho=>by
  have hsl:=hf.slots;have h0:=hj j (aAP ..);have hc:OU f j∈f.Code:=by
   grind [OU]
  have ho':PF f.Slots.length (Pq l j):=by
   unfold Pq;rw[aAA (show j.toNat<l.length by have:=hl.1;omega)]
   exact hl.2 _ (aAF _)
  obtain⟨h1,h2⟩:=Ace hf hc ho';obtain⟨h3,h4⟩:=UM (n:=f.Slots.length) (by omega) (b:=inN (OU f j) (Pq l j)) ho λx hx=>⟨(h1.1.2 x hx).1,h1.2 x hx⟩
  obtain⟨h5,h6⟩:=AlJ hf hl (λq hq=>hj q (aAL _ hq)) h3
  grind
theorem TH (hf:Pv f) (hl:QD f l) (hk:k<f.Code.length) :
  PF f.Slots.length (Qt f l k)/\∀ v,v∈Qt f l k↔∃ j∈PU (OU f k) k,v∈inN (OU f j) (Pq l j):=by
 have hx:f.Code[k]? =some (OU f k):=by grind [OU]
 obtain⟨h1,h2⟩:=AlJ hf hl (js:=PU (OU f k) k) (hf.next k _ hx) (PF.nil _)
 grind [Qt]
theorem ApF (hf:Pv f) (hl:QD f l):QD f (Sn f l):=by
 refine⟨by simp[Sn],λs hs=>?_⟩
 obtain⟨k,hk,rfl⟩:=List.mem_map.1 hs
 grind [TH]
theorem step_eq (hf:Pv f) (hl:QD f l):AiR f ⟨l⟩=some ⟨Sn f l⟩:=by
 have hlen:=hf.len';unfold AiR;rw[PL (by omega)]
 have key:Hs (Pc (λs:List (List Int)×Int=>Abh f ⟨l⟩ s.1 s.2) (aAe (f.Code.length:Int).toNat ([]:List Int),0)) λr=>r=⟨Sn f l⟩:=by
  refine Hs.loop (λs=>s.1.length=f.Code.length/\∃ k:Nat,s.2=(k:Int)/\k<=f.Code.length/\∀ (j:Nat) r,s.1[j]? =some r->r=if j<k then Qt f l j else[]) (λs=>f.Code.length-s.2.toNat) ⟨by simp,0,rfl,aAD _,λj r hj=>?_⟩ ?_
  ·grind
  rintro⟨x,k'⟩ ⟨hxl,k,hke,hk,hall⟩;simp only at hxl hke hall;subst hke
  by_cases hlt:k<f.Code.length
  ·have w:=OZ (show k<9223372036854775807 by omega)
   have hx:f.Code[k]? =some (OU f k):=by grind [OU]
   have hxk:x[k]? =some []:=by
    grind
   have hset:x.set k []=x:=by
    grind [aAo]
   have inner:=QV (body:=λs:List (List Int)×Int=>Abi (PU (OU f k) k) k f ⟨l⟩ s.1 s.2) (PU (OU f k) k) (λ(o:List Int) i=>(x.set k o,i)) (λo _=>PF f.Slots.length o)
    (λo js=>some (.inl (x.set k (js.foldl (λo j=>Re o (inN (OU f j) (Pq l j))) o),((k+1:Nat):Int))))
    (λo _=>⟨_,by simp[Abi,Ajh,w];rfl,by simp⟩) (λo i j r ho hd hi hj=>by
     left
     have wi:=OZ (show i<9223372036854775807 by
      grind [PU])
     have hjm:=hf.next k _ hx j (aAE hj);have hjc:f.Code[j.toNat]? =some (OU f j):=by grind [OU]
     have hjl:j.toNat<l.length:=by have:=hl.1;omega
     have hjo:l[j.toNat]? =some (Pq l j):=by grind [Pq]
     have hos:PF f.Slots.length (Pq l j):=hl.2 _ (aAE hjo);have hsl:=hf.slots;obtain⟨g1,g2⟩:=Ace hf (aAE hjc) hos;obtain⟨g3,g4⟩:=UM (n:=f.Slots.length) (by omega) (b:=inN (OU f j) (Pq l j)) ho λx hx=>⟨(g1.1.2 x hx).1,g1.2 x hx⟩
     have e1:=AtL (OU f j) (Pq l j) (by have:=hos.1.length_le;omega)
     have e2:=union_eq o (inN (OU f j) (Pq l j)) (by have:=ho.1.length_le;have:=g1.1.length_le;omega)
     obtain⟨_,hje⟩:=aAC.1 hj;refine⟨Re o (inN (OU f j) (Pq l j)),g3,?_,by simp⟩
     simp_all[Abi,QG]) [] (PF.nil _)
   simp only[hset]at inner;refine⟨.inl (x.set k (Qt f l k),((k+1:Nat):Int)),?_,⟨by simp_all,k+1,rfl,hlt,λj r hj=>?_⟩,by grind⟩
   ·simp only[Abh,decide_eq_true (aAT.2 hlt),cond_true,Apt hx (by omega),aA]
    exact inner
   grind
  ·refine⟨.inr ⟨x⟩,by simp[Abh,hlt],?_⟩
   congr 1;refine List.ext_getElem (by grind [Sn]) λj h1 h2=>?_
   have:=hall j _ (aAA h1);rw[this,if_pos (by omega)]
   simp[Sn]
 obtain⟨r,h1,rfl⟩:=key;exact h1
def LE (a b:List (List Int)):Prop:=∀ (k:Nat) s t,a[k]? =some s->b[k]? =some t->∀ v∈s,v∈t
theorem LE.trans {a b c:List (List Int)} (h1:LE a b) (h2:LE b c) (hl:a.length=b.length):LE a c:=by
 intro k s t hs ht v hv;have hk:=(aAC.1 hs).1;have hb:b[k]? =some (b[k]'(by omega)):=aAA _
 exact h2 k _ t hb ht v (h1 k s _ hs hb v hv)
theorem ApH:∀ {a b:List (List Int)},a.length=b.length->(∀ s∈a,PO s)->(∀ s∈b,PO s)->LE a b->(a.map List.length).sum<=(b.map List.length).sum/\((a.map List.length).sum=(b.map List.length).sum->a=b)
 | [],[],_,_,_,_=>⟨aAY _,λ_=>rfl⟩
 | [],y::b,h,_,_,_=>by simp at h
 | x::a,[],h,_,_,_=>by simp at h
 | x::a,y::b,h,ha,hb,hle=>by
  have hsub:=(ha x (aAP ..)).sub (hb y (aAP ..)) (hle 0 x y rfl rfl);obtain⟨h1,h2⟩:=ApH (a:=a) (b:=b) (by simp_all) (λs hs=>ha s (aAL _ hs)) (λs hs=>hb s (aAL _ hs)) λk s t hs ht=>hle (k+1) s t (by simp_all) (by simp_all)
  grind
theorem Akr:∀ {a:List (List Int)},(∀ s∈a,PO s)->(a.map List.length).sum<=512*a.length
 | [],_=>by simp
 | x::a,ha=>by
  have h1:=(ha x (aAP ..)).length_le;have h2:=Akr (a:=a) λs hs=>ha s (aAL _ hs)
  grind
theorem Ati (hf:Pv f) (hx:x∈f.Code) {t:List Int} (hs:PF f.Slots.length s) (ht:PF f.Slots.length t) (h:∀ v∈s,v∈t):∀ v∈inN x s,v∈inN x t:=by
 intro v hv;rw[(Ace hf hx hs).2]at hv;rw[(Ace hf hx ht).2]
 grind
theorem AgN (hf:Pv f) {a b:List (List Int)} (ha:QD f a) (hb:QD f b) (h:LE a b):LE (Sn f a) (Sn f b):=by
 intro k s t hs ht v hv;have hk:k<f.Code.length:=by grind [Sn]
 have e1:s=Qt f a k:=by grind [Sn]
 have e2:t=Qt f b k:=by grind [Sn]
 subst e1 e2;rw[(TH hf ha hk).2]at hv;rw[(TH hf hb hk).2];obtain⟨j,hj,hv⟩:=hv;have hx:f.Code[k]? =some (OU f k):=by grind [OU]
 have hjm:=hf.next k _ hx j hj;have hjc:f.Code[j.toNat]? =some (OU f j):=by grind [OU]
 have hja:a[j.toNat]? =some (Pq a j):=by simp[Pq,show j.toNat<a.length by have:=ha.1;omega]
 have hjb:b[j.toNat]? =some (Pq b j):=by simp[Pq,show j.toNat<b.length by have:=hb.1;omega]
 exact⟨j,hj,Ati hf (aAE hjc) (ha.2 _ (aAE hja)) (hb.2 _ (aAE hjb)) (h _ _ _ hja hjb) v hv⟩
structure Xd (f:Le) (l:List (List Int)):Prop where
 ok:QD f l
 fix:Sn f l=l
 least:∀ b,QD f b->LE (Sn f b) b->LE l b
theorem Apy (hf:Pv f):Hs (Ahk f) λl=>Xd f l.Out:=by
 have hlen:=hf.len';refine .chk (by omega) ?_
 refine Hs.loop (λl=>QD f l/\LE l (Sn f l)/\∀ b,QD f b->LE (Sn f b) b->LE l b) (λl=>512*f.Code.length-(l.map List.length).sum) ⟨⟨by simp,λs hs=>?_⟩,λk s t hs ht v hv=>?_,λb _ _ k s t hs ht v hv=>?_⟩ ?_
 ·grind [PF.nil]
 ·grind
 ·grind
 ·rintro l ⟨hl,hle,hleast⟩;have hl':=ApF hf hl;have e1:=step_eq hf hl;have e2:AiQ ⟨Sn f l⟩ ⟨l⟩=some (decide (Sn f l=l)):=by
   unfold AiQ;rw[Arz _ _ (by have:=hl'.1;grind) (λs hs=>by have:=(hl'.2 s hs).1.length_le;omega)]
   rfl
  obtain⟨s1,s2⟩:=ApH (by rw[hl.1,hl'.1]) (λs hs=>(hl.2 s hs).1) (λs hs=>(hl'.2 s hs).1) hle
  have s3:=Akr λs hs=>(hl'.2 s hs).1
  rw[hl'.1]at s3;unfold AhT;rw[e1,aA,e2,aA]
  by_cases he:Sn f l=l
  ·simp only[he,decide_true,cond_true];exact .lft (.pure ⟨hl,he,hleast⟩)
  ·simp only[he,decide_false,cond_false];refine .cnt ⟨⟨hl',AgN hf hl hl' hle,λb hb hb'=>(AgN hf hl hb (hleast b hb hb')).trans hb' (by rw[hl'.1,(ApF hf hb).1])⟩,?_⟩
   grind
theorem AoJ (x:Lo):WH x=some (Qw x):=by
 grind [WH,Qw]
theorem AfC (x:Lo):RA x=some (if x.Op=16\/x.Op=17 then(x.A,true)else(0,false)):=by
 grind [RA]
theorem AqD (x:Lo):(Qw x).length<=1:=by grind [Qw]
theorem AsQ (x:Lo) (hu:∀ v∈Qw x,0<=v/\v<512):Re [] (Qw x)=Qw x:=by
 unfold Qw at hu ⊢;split
 all_goals simp_all[Re,UZ,WI]
theorem ArO (hs:PO s) (hu:∀ v∈Qw x,0<=v/\v<512):Aca x s=some (inN x s):=by
 have hl:=AqD x;have h1:=AsY hu (by omega)
 rw[AsQ x hu]at h1;have h2:=Aow hs x.A;have h3:=Aee (hs.filter (· != x.A)) hu (by omega)
 have h4:=Aee hs hu (by omega)
 unfold Aca inN;rw[AfC,aA,AoJ]
 grind
theorem ApR {a b:List Int} (ha:PO a) (hb:PO b):Xe a b=some (a.filter λv=>!decide (v∈b)):=by
 obtain⟨r,h1,h2⟩:=ApS a b (by have:=ha.length_le;omega) (by have:=hb.length_le;omega)
 rw[h1,h2.eq (TC.Amz (ha.filter λv=>!decide (v∈b))) λv _ _=>by simp_all]
theorem Asw (a b:List Int) (ha:a.length<=16777215) (hb:b.length<=9223372036854775807):Ahj a b=some (a.filter λv=>!decide (v∈b)):=by
 unfold Ahj;have:=QV (body:=λp:List Int×Int=>Xz a b p.1 p.2) a (λ(out:List Int) i=>(out,i)) (λout i=>out.length<=i) (λout l=>some (out++l.filter λv=>!decide (v∈b)))
  (λout _=>⟨out,by simp[Xz],by simp⟩) (λout i x r ho hd hi hx=>by
   have w:=OZ (show i<9223372036854775807 by omega)
   obtain⟨_,rfl⟩:=aAC.1 hx;left
   by_cases h:a[i]∈b
   ·exact⟨out,by omega,by simp_all[Xz,Zz],by simp[h]⟩
   ·exact⟨out++[a[i]],by simp;omega,by simp[Xz,hi,Zz b _ hb,h,w,show out.length<=16777215 by omega],by simp[h]⟩)
  [] (by simp)
 simp_all
theorem Alg:Lib.compact ([]:List Int)=[]:=by simp[Lib.compact,Lib.compactUpTo]
theorem Alh (a:Int):Lib.compact [a]=[a]:=by simp[Lib.compact,Lib.compactUpTo,aAc,Lib.keeps]
theorem AgY (a b:Int):Lib.compact [a,b]=if a=b then[a]else[a,b]:=by
 by_cases h:a=b
 ·simp_all[Lib.compact,Lib.compactUpTo,aAc,Lib.keeps]
 ·have h':¬ b=a:=λe=>h e.symm
  simp_all[Lib.compact,Lib.compactUpTo,aAc,Lib.keeps]
theorem ApB (a:Int):Zd [a]=[a]:=by simp[Zd]
theorem ApA:Zd []=[]:=by simp[Zd]
theorem AtD (a b:Int):Zd [a,b]=if a<=b then[a,b]else[b,a]:=by
 unfold Zd List.mergeSort
 by_cases h:a<=b<;>simp[List.MergeSort.Internal.splitInTwo,h]
theorem AlI (h:f.Code[k]? =some x) (hk:k<9223372036854775807):Zx f (k:Int)=some (PU x k):=by
 obtain⟨hl,hx⟩:=aAC.1 h;have hnl:¬ f.Code.length<=k:=by omega
 have w:IntKind.i64.wrap ((k:Int)+1)=(k:Int)+1:=wrap64 (by omega) (by omega)
 unfold Zx AcJ Zy PU Aao;obtain⟨op,a,b,c,i⟩:=x
 by_cases h20:op=20
 ·subst h20;simp[hx,hl,hnl,show ¬ (k:Int)<0 by omega,ApB,Alh]
 ·by_cases h23:op=23
  ·simp_all[ApA,Alg]
  ·by_cases h24:op=24
   ·simp_all[ApA,Alg]
   ·have e24:(op==24)=false:=by simp_all
    by_cases h21:op=21
    ·subst h21;simp[hx,hl,hnl,show ¬ (k:Int)<0 by omega,w,AtD]
     by_cases hb:b<(k:Int)+1
     ·simp[hb,show ¬ (k:Int)+1<=b by omega,AgY,show ¬ b=(k:Int)+1 by omega]
     ·by_cases hb':(k:Int)+1<b
      ·simp[hb,hb',show(k:Int)+1<=b by omega,AgY,show ¬ (k:Int)+1=b by omega]
      ·simp[AgY,show(k:Int)+1=b by omega]
    ·simp[hx,hl,hnl,show ¬ (k:Int)<0 by omega,w,e24,h20,h23,h24,h21,ApB,Alh]
attribute [local simp] PL
theorem AoZ (hs:s.Pairwise (· <·)) {n:Int} {h:s.length-1<s.length} (hl:s[s.length-1]<n):∀ v∈s,v<n:=by
 grind [List.getElem_of_mem,aAk]
theorem AtJ (s:List Int) (f:Le) (hs:s.length<=maxLen):Hs (SG s f) λb=>(b=false↔PF f.Slots.length s):=by
 have hm:maxLen<=9223372036854775807:=by decide
 unfold SG;rw[AbR s (by omega),aA]
 by_cases hc:Tk none s=true
 ·have hset:=(AbQ s).1 hc;rw[hc];refine .dec (λhp=>?_) λhp=>?_
  ·have hi:s.length-1<s.length:=by omega
   have w:IntKind.i64.wrap ((s.length:Int)-1)=((s.length-1:Nat):Int):=by grind [wrap64]
   rw[w,Pp,aAA hi,aA];refine .pure ⟨λh=>⟨hset,AoZ hset.1 (h:=hi) (by simp_all)⟩,λh=>?_⟩
   have:=h.2 _ (aAF hi);simp;omega
  ·have:s=[]:=aAX.1 (by omega)
   subst this;exact .pure ⟨λ_=>PF.nil _,λ_=>rfl⟩
 ·have hc':Tk none s=false:=by simp_all
  rw[hc'];exact .pure ⟨λh=>(by cases h),λh=>(hc ((AbQ s).2 h.1)).elim⟩
theorem Ans (f:Le) (l:Pj) (hl:l.Out.length<=maxLen) (hr:∀ s∈l.Out,s.length<=maxLen):Hs (Vl f l) λb=>(b=true↔QD f l.Out):=by
 have hm:maxLen<=9223372036854775807:=by decide
 refine .beq (λhe=>?_) λhne=>.pure ⟨λh=>(by cases h),λh=>(hne (by rw[h.1])).elim⟩
 have he:l.Out.length=f.Code.length:=by omega
 have key:Hs (Ro l.Out f) λi=>(0<=i↔¬ ∀ s∈l.Out,PF f.Slots.length s):=by
  refine Hs.loop (λi=>∃ k:Nat,i=(k:Int)/\k<=l.Out.length/\∀ (j:Nat) s,j<k->l.Out[j]? =some s->PF f.Slots.length s) (λi=>l.Out.length-i.toNat) ⟨0,rfl,aAD _,λj s h=>absurd h (aAG _)⟩ ?_
  rintro _ ⟨k,rfl,hk,hall⟩;refine .dec (λhlt=>?_) λhge=>?_
  ·have hlt:k<l.Out.length:=by omega
   rw[Pp,aAA hlt,aA];refine(AtJ _ f (hr _ (aAF hlt))).bind λb hb=>.cond (λh=>?_) λh=>?_
   ·refine .lft (.pure ⟨λ_ hh=>?_,λ_=>by omega⟩)
    simp_all
   ·rw[OZ (by omega)]
    refine .cnt ⟨⟨k+1,rfl,hlt,λj s hj hs=>?_⟩,by grind⟩
    grind
  ·refine .lft (.pure ⟨λh=>by omega,λh=>(h λs hs=>?_).elim⟩)
   grind [aAR]
 refine Hs.bind (P:=λb=>(b=true↔¬ ∀ s∈l.Out,PF f.Slots.length s)) (key.bind λi hi=>.pure (by simp_all)) λb hb=>.pure ?_
 constructor
 ·intro h;have hb':b=false:=by simp_all
  refine⟨he,λs hs=>?_⟩
  simp_all
 ·intro h;have:¬ b=true:=λhbt=>hb.1 hbt h.2
  simp_all
theorem Apw (f:Le) (l:Pj) (hl:l.Out.length<=maxLen) (hr:∀ s∈l.Out,s.length<=maxLen):Hs (Ahl f l) λb=>(b=true↔QD f l.Out):=by
 have hm:maxLen<=9223372036854775807:=by decide
 refine .bne (λhne=>.pure ⟨λh=>(by cases h),λh=>(hne (by rw[h.1])).elim⟩) λhe=>?_
 have he:l.Out.length=f.Code.length:=by omega
 refine Hs.loop (λi=>∃ k:Nat,i=(k:Int)/\k<=l.Out.length/\∀ (j:Nat) s,j<k->l.Out[j]? =some s->PF f.Slots.length s) (λi=>l.Out.length-i.toNat) ⟨0,rfl,aAD _,λj s h=>absurd h (aAG _)⟩ ?_
 rintro _ ⟨k,rfl,hk,hall⟩;refine .dec (λhlt=>?_) λhge=>?_
 ·have hlt:k<l.Out.length:=by omega
  have hg:l.Out[k]? =some l.Out[k]:=aAA hlt;have hlen:=hr _ (aAF hlt);rw[Pp,hg,aA,AfP _ (by omega),aA]
  have next:PF f.Slots.length l.Out[k]->Hs (cnt (R:=Bool) (IntKind.i64.wrap ((k:Int)+1))) (Rnd (λi:Int=>∃ k:Nat,i=(k:Int)/\k<=l.Out.length/\∀ (j:Nat) s,j<k->l.Out[j]? =some s->PF f.Slots.length s) (λi=>l.Out.length-i.toNat) (k:Int) λb=>(b=true↔QD f l.Out)):=by
   intro hset;rw[OZ (by omega)]
   refine .cnt ⟨⟨k+1,rfl,hlt,λj s hj hs=>?_⟩,by grind⟩
   grind
  have stop:¬ PF f.Slots.length l.Out[k]->((false:Bool)=true↔QD f l.Out):=λhn=>⟨λh=>(by cases h),λh=>(hn (h.2 _ (aAF hlt))).elim⟩
  by_cases hc:Tk none l.Out[k]=true
  ·have hset:=(AbQ _).1 hc;rw[hc];simp only[aAi,cond_false,aA];refine .dec (λhp=>?_) λhp=>?_
   ·have hi:l.Out[k].length-1<l.Out[k].length:=by omega
    have w:IntKind.i64.wrap ((l.Out[k].length:Int)-1)=((l.Out[k].length-1:Nat):Int):=by grind [wrap64]
    rw[w,Pp,aAA hi,aA];refine .dec (λh=>.lft (.pure (stop λhh=>?_))) λh=>next ⟨hset,AoZ hset.1 (h:=hi) (by omega)⟩
    have:=hh.2 _ (aAF hi);omega
   grind [aAX,PF.nil]
  ·have hc':Tk none l.Out[k]=false:=by simp_all
   rw[hc'];exact .lft (.pure (stop λh=>hc ((AbQ _).2 h.1)))
 ·refine .lft (.pure ⟨λ_=>⟨he,λs hs=>?_⟩,λ_=>rfl⟩)
  grind [aAR]
def VA (f:Le) (l:List (List Int)) (k:Int):List Int :=
 (PU (OU f k) k).foldl (λo j=>Re o ((inN (OU f j) (Pq l j)).filter λv=>!decide (v∈Pq l k))) []
theorem QD.at (h:QD f l) {j:Int} (h0:0<=j) (h1:j<f.Code.length):l[j.toNat]? =some (Pq l j)/\PF f.Slots.length (Pq l j):=by
 have hl:j.toNat<l.length:=by have:=h.1;omega
 have:l[j.toNat]? =some (Pq l j):=by grind [Pq]
 exact⟨this,h.2 _ (aAE this)⟩
theorem Pv.at (_h:Pv f) {j:Int} (h0:0<=j) (h1:j<f.Code.length):f.Code[j.toNat]? =some (OU f j)/\OU f j∈f.Code:=by
 grind [OU]
theorem Pv.Ave (h:Pv f) (hx:x∈f.Code):∀ v∈Qw x,0<=v/\v<512:=λv hv=>by have:=h.uses x hx v hv;have:=h.slots;omega
theorem Akb (hf:Pv f) (hl:QD f l) {k j:Int} (_hk:0<=k/\k<f.Code.length) (hj:0<=j/\j<f.Code.length) {o:List Int} (ho:PF f.Slots.length o) :
  PF f.Slots.length (Re o ((inN (OU f j) (Pq l j)).filter λv=>!decide (v∈Pq l k)))/\∀ v,v∈Re o ((inN (OU f j) (Pq l j)).filter λv=>!decide (v∈Pq l k))↔v∈o\/(v∈inN (OU f j) (Pq l j)/\v∉Pq l k):=by
 have hsl:=hf.slots;obtain⟨g1,g2⟩:=Ace hf (hf.at hj.1 hj.2).2 (hl.at hj.1 hj.2).2;obtain⟨g3,g4⟩:=UM (n:=f.Slots.length) (by omega) (b:=(inN (OU f j) (Pq l j)).filter λv=>!decide (v∈Pq l k)) ho λx hx=>⟨(g1.1.2 x (aAb.1 hx).1).1,g1.2 x (aAb.1 hx).1⟩
 exact⟨g3,λv=>by simp_all⟩
theorem Anz {f:Le} (hf:Pv f) {l:List (List Int)} (hl:QD f l) {k:Int} (hk:0<=k/\k<f.Code.length):∀ {js:List Int} {o:List Int},(∀ j∈js,0<=j/\j<f.Code.length)->PF f.Slots.length o ->
  PF f.Slots.length (js.foldl (λo j=>Re o ((inN (OU f j) (Pq l j)).filter λv=>!decide (v∈Pq l k))) o)/\∀ v,v∈js.foldl (λo j=>Re o ((inN (OU f j) (Pq l j)).filter λv=>!decide (v∈Pq l k))) o↔v∈o\/∃ j∈js,v∈inN (OU f j) (Pq l j)/\v∉Pq l k
 | [],o,_,ho=>⟨ho,λv=>by simp⟩
 | j::js,o,hj,ho=>by
  obtain⟨h1,h2⟩:=Akb hf hl hk (hj j (aAP ..)) ho;obtain⟨h5,h6⟩:=Anz hf hl hk (λq hq=>hj q (aAL _ hq)) h1
  grind
theorem Ape (hf:Pv f) (hl:QD f l) (hk:k<f.Code.length):PF f.Slots.length (VA f l k)/\∀ v,v∈VA f l k↔∃ j∈PU (OU f k) k,v∈inN (OU f j) (Pq l j)/\v∉Pq l k:=by
 have hx:f.Code[k]? =some (OU f k):=by grind [OU]
 obtain⟨h1,h2⟩:=Anz hf hl (k:=(k:Int)) ⟨by omega,by omega⟩ (hf.next k _ hx) (PF.nil _)
 grind [VA]
theorem Aqy (x:Lo) (k:Int):(PU x k).length<=2:=by grind [PU]
theorem Are (hf:Pv f) {l:Pj} (hl:QD f l.Out) (hk:k<f.Code.length):QB f k l [] l k=some (true,VA f l.Out k):=by
 have hlen:=hf.len';have hx:f.Code[k]? =some (OU f k):=by grind [OU]
 have hn:=hf.next k _ hx;have h2:=Aqy (OU f k) k;obtain⟨hk1,hk2⟩:=hl.at (j:=(k:Int)) (by omega) (by omega)
 simp only[aAB]at hk1;unfold QB;rw[AlI hx (by omega),aA]
 have:=QV (body:=λs:List Int×Int=>PY (PU (OU f k) k) f l l k s.1 s.2) (PU (OU f k) k) (λ(o:List Int) i=>(o,i)) (λo _=>PF f.Slots.length o)
  (λo js=>some (true,js.foldl (λo j=>Re o ((inN (OU f j) (Pq l.Out j)).filter λv=>!decide (v∈Pq l.Out k))) o))
  (λo _=>⟨_,by simp[PY];rfl,by simp⟩) (λo i j r ho hd hi hj=>by
   left;have wi:=OZ (show i<9223372036854775807 by omega)
   have hjm:=hn j (aAE hj);obtain⟨c1,c2⟩:=hf.at hjm.1 hjm.2;obtain⟨o1,o2⟩:=hl.at hjm.1 hjm.2;obtain⟨g1,g2⟩:=Akb hf hl (k:=(k:Int)) ⟨by omega,by omega⟩ hjm ho
   obtain⟨s1,s2⟩:=Ace hf c2 o2;have hsl:=hf.slots;have e1:=ArO o2.1 (hf.Ave c2);have e2:=ApR s1.1 hk2.1;have e3:=Aee ho.1 (b:=(inN (OU f j) (Pq l.Out j)).filter λv=>!decide (v∈Pq l.Out k)) (λx hx=>by have:=s1.1.2 x (aAb.1 hx).1;exact this) (by have:=(s1.1.filter λv=>!decide (v∈Pq l.Out k)).length_le;omega)
   obtain⟨_,hje⟩:=aAC.1 hj;refine⟨_,g1,?_,rfl⟩
   simp_all[PY,Vz,SL,QG]) [] (PF.nil _)
 exact this
theorem Aqi (hf:Pv f) {l:Pj} (hl:QD f l.Out) (hk:k<f.Code.length):AeW f l k=some (VA f l.Out k):=by
 have hlen:=hf.len';have hx:f.Code[k]? =some (OU f k):=by grind [OU]
 have hn:=hf.next k _ hx;have h2:=Aqy (OU f k) k;obtain⟨hk1,hk2⟩:=hl.at (j:=(k:Int)) (by omega) (by omega)
 simp only[aAB]at hk1;unfold AeW;rw[Apt hx (by omega),aA]
 have:=QV (body:=λs:List Int×Int=>Yf (PU (OU f k) k) f l k s.1 s.2) (PU (OU f k) k) (λ(o:List Int) i=>(o,i)) (λo _=>PF f.Slots.length o)
  (λo js=>some (js.foldl (λo j=>Re o ((inN (OU f j) (Pq l.Out j)).filter λv=>!decide (v∈Pq l.Out k))) o))
  (λo _=>⟨_,by simp[Yf];rfl,by simp⟩) (λo i j r ho hd hi hj=>by
   left;have wi:=OZ (show i<9223372036854775807 by omega)
   have hjm:=hn j (aAE hj);obtain⟨c1,c2⟩:=hf.at hjm.1 hjm.2;obtain⟨o1,o2⟩:=hl.at hjm.1 hjm.2;obtain⟨g1,g2⟩:=Akb hf hl (k:=(k:Int)) ⟨by omega,by omega⟩ hjm ho
   obtain⟨s1,s2⟩:=Ace hf c2 o2;have hsl:=hf.slots;have e1:=AtL (OU f j) (Pq l.Out j) (by have:=o2.1.length_le;omega)
   have e2:=Asw (inN (OU f j) (Pq l.Out j)) (Pq l.Out k) (by have:=s1.1.length_le;omega) (by have:=hk2.1.length_le;omega)
   have e3:=union_eq o ((inN (OU f j) (Pq l.Out j)).filter λv=>!decide (v∈Pq l.Out k)) (by have:=(s1.1.filter λv=>!decide (v∈Pq l.Out k)).length_le;have:=ho.1.length_le;omega)
   obtain⟨_,hje⟩:=aAC.1 hj;refine⟨_,g1,?_,rfl⟩
   simp_all[Yf,QG]) [] (PF.nil _)
 exact this
def AfI (f:Le) (l:List (List Int)) (r:Int×Int×Bool):Prop :=
 (QD f l/\∃ (k:Nat) (v:Int),k<f.Code.length/\(∀ j:Nat,j<k->VA f l j=[])/\(VA f l k)[0]? =some v/\r=((k:Int),v,true)) \/
 ((QD f l->∀ j:Nat,j<f.Code.length->VA f l j=[])/\r=(0,0,false))
theorem AfI.unique {r q:Int×Int×Bool} (h:AfI f l r) (k:AfI f l q):r=q:=by
 rcases h with⟨h0,i,v,h1,h2,h3,rfl⟩|⟨h1,rfl⟩<;>rcases k with⟨k0,j,u,k1,k2,k3,rfl⟩|⟨k1,rfl⟩
 all_goals grind
def Acc (f:Le) (l:List (List Int)):Prop:=QD f l/\∀ j:Nat,j<f.Code.length->VA f l j=[]
theorem AfI.acc {r:Int×Int×Bool} (h:AfI f l r) (hl:QD f l):r.2.2=false↔Acc f l:=by
 rcases h with⟨h0,i,v,h1,h2,h3,rfl⟩|⟨h1,rfl⟩
 ·exact⟨λh=>(by cases h),λh=>by rw[h.2 i h1]at h3;cases h3⟩
 ·exact⟨λ_=>⟨hl,h1 hl⟩,λ_=>rfl⟩
def Afp (l:List (List Int)):Prop:=l.length<=maxLen/\∀ s∈l,s.length<=maxLen
theorem Atg (hf:Pv f) {l:Pj} (hl:Afp l.Out):Hs (Zb f l) (AfI f l.Out):=by
 have hlen:=hf.len';refine(Ans f l hl.1 hl.2).bind λb hb=>.cond (λh=>?_) λh=>?_
 ·have hb':¬ b=true:=by simp_all
  exact .pure (.inr ⟨λhh=>(hb' (hb.2 hh)).elim,rfl⟩)
 ·have hb':b=true:=by simp_all
  have hok:=hb.1 hb';refine Hs.loop (λi=>∃ k:Nat,i=(k:Int)/\k<=f.Code.length/\∀ j:Nat,j<k->VA f l.Out j=[]) (λi=>f.Code.length-i.toNat) ⟨0,rfl,aAD _,λj h=>absurd h (aAG _)⟩ ?_
  rintro _ ⟨k,rfl,hk,hall⟩;refine .dec (λhlt=>?_) λhge=>?_
  ·have hlt:k<f.Code.length:=by omega
   rw[show Aag l=some l from rfl,aA,Are hf hok hlt,aA]
   refine .dec (λhp=>?_) λhp=>?_
   ·have hp:0<(VA f l.Out k).length:=by simp_all
    simp only[AoW];have hg:(VA f l.Out k)[0]? =some ((VA f l.Out k)[0]):=aAA hp;rw[hg,aA];exact .lft (.pure (.inl ⟨hok,k,_,hlt,hall,hg,rfl⟩))
   ·rw[OZ (by omega)]
    refine .cnt ⟨⟨k+1,rfl,hlt,λj hj=>?_⟩,by grind⟩
    grind [aAX]
  ·exact .lft (.pure (.inr ⟨λ_ j hj=>hall j (by omega),rfl⟩))
theorem Asv (hf:Pv f) {l:Pj} (hl:Afp l.Out):Hs (Alq f l) (AfI f l.Out):=by
 have hlen:=hf.len';refine(Apw f l hl.1 hl.2).bind λb hb=>.cond (λh=>?_) λh=>?_
 ·have hb':¬ b=true:=by simp_all
  exact .pure (.inr ⟨λhh=>(hb' (hb.2 hh)).elim,rfl⟩)
 ·have hb':b=true:=by simp_all
  have hok:=hb.1 hb';refine Hs.loop (λi=>∃ k:Nat,i=(k:Int)/\k<=f.Code.length/\∀ j:Nat,j<k->VA f l.Out j=[]) (λi=>f.Code.length-i.toNat) ⟨0,rfl,aAD _,λj h=>absurd h (aAG _)⟩ ?_
  rintro _ ⟨k,rfl,hk,hall⟩;refine .dec (λhlt=>?_) λhge=>?_
  ·have hlt:k<f.Code.length:=by omega
   rw[Aqi hf hok hlt,aA];refine .dec (λhp=>?_) λhp=>?_
   ·have hp:0<(VA f l.Out k).length:=by omega
    refine .chk (by omega) ?_
    have hg:(VA f l.Out k)[0]? =some ((VA f l.Out k)[0]):=aAA hp;rw[show(0:Int).toNat=0 from rfl,hg,aA]
    exact .lft (.pure (.inl ⟨hok,k,_,hlt,hall,hg,rfl⟩))
   ·rw[OZ (by omega)]
    refine .cnt ⟨⟨k+1,rfl,hlt,λj hj=>?_⟩,by grind⟩
    grind [aAX]
  ·exact .lft (.pure (.inr ⟨λ_ j hj=>hall j (by omega),rfl⟩))
theorem Aoz (hf:Pv f) {l:Pj} (hl:Afp l.Out):Hs (Wi f l) λe=>(e=0\/e=11)/\(e=0↔Acc f l.Out):=by
 refine(Ans f l hl.1 hl.2).bind λb hb=>.cond (λh=>?_) λh=>?_
 ·have hb':¬ b=true:=by simp_all
  exact .pure ⟨.inr rfl,λh=>by omega,λh=>(hb' (hb.2 h.1)).elim⟩
 ·have hb':b=true:=by simp_all
  refine(Atg hf hl).bind λr hr=>.cond (λh=>.pure ⟨.inr rfl,λh=>by omega,λh'=>?_⟩) λh=>.pure ⟨.inl rfl,λ_=>(hr.acc (hb.1 hb')).1 h,λ_=>rfl⟩
  rw[(hr.acc h'.1).2 h']at h;cases h
theorem Ass (hf:Pv f) {l:Pj} (hl:Afp l.Out):Hs (Alp f l) λe=>(e=0\/e=11)/\(e=0↔Acc f l.Out):=by
 refine(Asv hf hl).bind λr hr=>.cond (λh=>.pure ⟨.inr rfl,λh=>by omega,λh'=>?_⟩) λh=>?_
 ·rw[(hr.acc h'.1).2 h']at h;cases h
 ·refine(Apw f l hl.1 hl.2).bind λb hb=>.cond (λh=>?_) λh2=>?_
  ·have hb':¬ b=true:=by simp_all
   exact .pure ⟨.inr rfl,λh=>by omega,λh=>(hb' (hb.2 h.1)).elim⟩
  ·have hb':b=true:=by simp_all
   exact .pure ⟨.inl rfl,λ_=>(hr.acc (hb.1 hb')).1 h,λ_=>rfl⟩
theorem QD.len (hf:Pv f) (h:QD f l):Afp l:=by
 have hm:(100000:Nat)<=maxLen:=by decide
 have:=hf.len';have:=h.1;exact⟨by omega,λs hs=>by have:=(h.2 s hs).1.length_le;omega⟩
theorem AtS (hf:Pv f) (hl:QD f l):Acc f l↔LE (Sn f l) l:=by
 constructor
 ·rintro⟨_,h⟩ k s t hs ht v hv;have hk:k<f.Code.length:=by have:=(aAC.1 ht).1;have:=hl.1;omega
  have e1:s=Qt f l k:=by grind [Sn]
  have e2:t=Pq l k:=by grind [Pq]
  subst e1 e2;rw[(TH hf hl hk).2]at hv;obtain⟨j,hj,hv⟩:=hv;refine aAl λhn=>?_
  have:v∈VA f l k:=((Ape hf hl hk).2 v).2 ⟨j,hj,hv,hn⟩;simp_all
 ·intro h;refine⟨hl,λk hk=>?_⟩
  refine List.eq_nil_iff_forall_not_mem.2 λv hv=>?_
  obtain⟨j,hj,h1,h2⟩:=((Ape hf hl hk).2 v).1 hv;refine h2 (h k (Qt f l k) (Pq l k) (by grind [Sn]) ?_ v (((TH hf hl hk).2 v).2 ⟨j,hj,h1⟩))
  have:=(hl.at (j:=(k:Int)) (by omega) (by omega)).1
  simp_all
theorem Xd.acc (hf:Pv f) (h:Xd f l):Acc f l:=by
 rw[AtS hf h.ok,h.fix];intro k s t hs ht v hv;simp_all
def I64 (v:Int):Prop:=-9223372036854775808<=v/\v<=9223372036854775807
def ArA (l:List (List Int)):Prop:=∀ s∈l,s.length<=512/\∀ v∈s,I64 v
def Aol (l:List (List Int)):Prop:=∀ s∈l,PO s
theorem Aol.set (h:Aol l) (hs:PO s):Aol (l.set k s):=by
 intro t ht;rcases aAS ht with h1|rfl
 ·exact h t h1
 ·exact hs
theorem PO.add (h:PO s) (n:Int):PO (UZ n s):=by
 unfold UZ;split
 ·exact h.WI (by assumption)
 ·exact h
theorem ArA.len (hf:Pv f) (h1:l.length<=f.Code.length) (h2:ArA l):Afp l:=by
 have hm:(100000:Nat)<=maxLen:=by decide
 have:=hf.len';exact⟨by omega,λs hs=>by have:=(h2 s hs).1;omega⟩
def AgZ (x:Lo):Int×Bool:=if x.Op=16\/x.Op=17 then(x.A,true)else(0,false)
theorem Aky (x:Lo):Us x=some (AgZ x):=by
 grind [Us,Uk,AgZ]
def RO (f:Le):Prop:=∀ x∈f.Code,(x.Op=16\/x.Op=17)->0<=x.A/\x.A<f.Slots.length
theorem UY.defs {i:Int} (h:UY ps i most f):RO f:=by
 intro x hx hop;obtain⟨k,hk⟩:=aAR hx;have hkl:=(aAC.1 hk).1
 by_cases hk1:k+1<f.Code.length
 ·have hins:=h.body k x hk hk1;cases hins with
  | store a b h0 h1 h2=>simp_all
  | move a b h0 h1 h2=>exact⟨h0.1,h0.2.1⟩
  | bin op a b c h1 h2 h3 h4 h5 h6=>grind
  | un op a h1 h2=>grind
  | _=>simp at hop
 ·have he:=h.last x (by grind)
  rcases he with rfl|⟨w,_,rfl⟩<;>simp at hop
def Rb (x:Lo) (v:Int):Bool:=x.Op==17&&x.B==v
def QY (_:Lo) (_:Int):Bool:=false
def Aoi (mv:Lo->Int->Bool) (f:Le) (l:List (List Int)) (k:Nat) (a v:Int):Prop :=
 a=(OU f k).A/\((OU f k).Op=16\/(OU f k).Op=17)/\¬ ((OU f k).Op=17/\(OU f k).A=(OU f k).B)/\v∈Pq l k/\v≠a/\mv (OU f k) v=false
def VD (mv:Lo->Int->Bool) (f:Le) (l:List (List Int)) (k:Nat) (a v:Int):Prop:=∃ j<k,Aoi mv f l j a v
def Ed (mv:Lo->Int->Bool) (f:Le) (l:List (List Int)) (a v:Int):Prop:=VD mv f l f.Code.length a v
def Aat (mv:Lo->Int->Bool) (f:Le) (l:List (List Int)) (k i:Nat) (a v:Int):Prop :=
 VD mv f l k a v\/(a=(OU f k).A/\v∈(Pq l k).take i/\v≠a/\mv (OU f k) v=false)
theorem Anq:VD mv f l (k+1) a v↔VD mv f l k a v\/Aoi mv f l k a v:=by
 constructor
 ·rintro⟨j,hj,h⟩
  by_cases e:j=k
  ·simp_all
  ·exact .inl ⟨j,by omega,h⟩
 ·rintro(⟨j,hj,h⟩|h)
  ·exact⟨j,by omega,h⟩
  ·exact⟨k,by omega,h⟩
theorem AjO:Aat mv f l k 0 a v↔VD mv f l k a v:=by simp[Aat]
theorem AlB (h1:(OU f k).Op=16\/(OU f k).Op=17) (h2:¬ ((OU f k).Op=17/\(OU f k).A=(OU f k).B)) :
  Aat mv f l k (Pq l k).length a v↔VD mv f l (k+1) a v:=by
 grind [Anq,Aat,Aoi]
theorem AgB {x:Int} (hx:(Pq l k)[i]? =some x) :
  Aat mv f l k (i+1) a v↔Aat mv f l k i a v\/(a=(OU f k).A/\v=x/\x≠a/\mv (OU f k) x=false):=by
 grind [aAO,Aat]
theorem AbZ (h:((OU f k).Op≠16/\(OU f k).Op≠17)\/((OU f k).Op=17/\(OU f k).A=(OU f k).B)) :
  VD mv f l (k+1) a v↔VD mv f l k a v:=by
 rw[Anq];constructor
 ·rintro(h1|⟨_,h2,h3,_⟩)
  all_goals omega
 simp_all
theorem AjN {x:Int} (hx:(Pq l k)[i]? =some x) (h:x=(OU f k).A\/mv (OU f k) x=true) :
  Aat mv f l k (i+1) a v↔Aat mv f l k i a v:=by
 grind [AgB]
def AaT (m:List (List Bool)) (a v:Nat):Bool:=(((m[a]?).getD [])[v]?).getD false
def SU (n:Nat) (m:List (List Bool)) (P:Int->Int->Prop):Prop :=
 m.length=n/\(∀ row∈m,row.length=n)/\∀ a v:Nat,a<n->v<n->(AaT m a v=true↔P a v\/P v a)
theorem SU.congr {n:Nat} {P Q:Int->Int->Prop} (h:SU n m P) (hq:∀ a v,Q a v↔P a v):SU n m Q :=
 ⟨h.1,h.2.1,λa v ha hv=>by rw[h.2.2 a v ha hv,hq,hq]⟩
theorem Ano {n:Nat} (hl:m.length=n) {d:Nat} (hd:d<n) (r:List Bool) (a v:Nat):AaT (m.set d r) a v=if a=d then(r[v]?).getD false else AaT m a v:=by
 unfold AaT
 grind
theorem AoS {n:Nat} {r:List Bool} (hl:r.length=n) {v:Nat} (hv:v<n) (b:Nat):((r.set v true)[b]?).getD false=if b=v then true else(r[b]?).getD false:=by
 grind
theorem SU.set {n:Nat} {P:Int->Int->Prop} (h:SU n m P) {d v:Nat} {r1 r2:List Bool} (hd:d<n) (hv:v<n) (hne:d≠v) (h1:m[d]? =some r1) (h2:m[v]? =some r2) :
  SU n ((m.set d (r1.set v true)).set v (r2.set d true)) (λa b=>P a b\/(a=d/\b=v)):=by
 obtain⟨hl,hr,hc⟩:=h;have l1:=hr _ (aAE h1);have l2:=hr _ (aAE h2);refine⟨by simp[hl],λrow hrow=>?_,λa b ha hb=>?_⟩
 ·grind
 ·rw[Ano (n:=n) (by simp[hl]) hv,Ano hl hd,AoS l2 hd,AoS l1 hv]
  have e1:(r1[b]?).getD false=AaT m d b:=by grind [AaT]
  have e2:(r2[b]?).getD false=AaT m v b:=by grind [AaT]
  grind
def PR (n:Nat) (out:List (List Int)) (Q:Nat->Int->Prop):Prop:=out.length=n/\∀ (a:Nat) s,out[a]? =some s->PF n s/\∀ v,v∈s↔Q a v
theorem PR.congr {n:Nat} {out:List (List Int)} {P:Nat->Int->Prop} (h:PR n out P) (hq:∀ a v,a<n->(Q a v↔P a v)):PR n out Q :=
 ⟨h.1,λa s hs=>⟨(h.2 a s hs).1,λv=>by rw[(h.2 a s hs).2 v,hq a v (by have:=(aAC.1 hs).1;have:=h.1;omega)]⟩⟩
theorem PR.ext {n:Nat} {o1 o2:List (List Int)} (h1:PR n o1 Q) (h2:PR n o2 Q):o1=o2:=by
 apply aAZ;intro a
 by_cases ha:a<n
 ·have e1:o1[a]? =some (o1[a]'(by have:=h1.1;omega)):=aAA _
  have e2:o2[a]? =some (o2[a]'(by have:=h2.1;omega)):=aAA _
  rw[e1,e2,(h1.2 a _ e1).1.1.ext (h2.2 a _ e2).1.1 λv=>by rw[(h1.2 a _ e1).2 v,(h2.2 a _ e2).2 v]]
 ·rw[aAJ (by have:=h1.1;omega),aAJ (by have:=h2.1;omega)]
theorem PR.nil (n:Nat) (hq:∀ a v,¬ Q a v):PR n (aAe n []) Q :=
 ⟨by simp,λa s hs=>by
  grind [PF.nil]⟩
theorem PR.set {n:Nat} {out:List (List Int)} {P:Nat->Int->Prop} (h:PR n out P) {d:Nat} (hd:d<n) (hs:PF n s) (h1:∀ v,v∈s↔Q d v) (h2:∀ a v,a≠d->(Q a v↔P a v)):PR n (out.set d s) Q:=by
 refine⟨by simp[h.1],λa t ht=>?_⟩
 by_cases e:a=d
 ·grind
 ·rw[aAM (λh=>e h.symm)]at ht
  exact⟨(h.2 a t ht).1,λv=>by rw[(h.2 a t ht).2 v,h2 a v e]⟩
def Ss (mv:Lo->Int->Bool) (f:Le) (l:List (List Int)) (r:List (List Int)×Int):Prop :=
 (r.2=0/\Acc f l/\PR f.Slots.length r.1 λa v=>Ed mv f l a v\/Ed mv f l v a)\/(r.2=11/\¬ Acc f l/\r.1=[])
theorem Ss.unique {r q:List (List Int)×Int} (h:Ss mv f l r) (k:Ss mv f l q):r=q:=by
 obtain⟨r1,r2⟩:=r;obtain⟨q1,q2⟩:=q;rcases h with⟨h1,h2,h3⟩|⟨h1,h2,h3⟩<;>rcases k with⟨k1,k2,k3⟩|⟨k1,k2,k3⟩
 ·simp only at h1 k1 h3 k3;rw[h1,k1,h3.ext k3]
 all_goals simp_all
def Pd (to:List Int) (s:Int):Int:=(to[s.toNat]?).getD 0
def Se (f:Le) (s:Int):Int:=((f.Slots[s.toNat]?).map Pa.Size).getD 0
def AfK (f:Le) (to:List Int):Prop :=
 to.length=f.Slots.length/\∀ s:Nat,s<to.length->0<=Pd to s/\Pd to s<to.length/\Se f (Pd to s)=Se f s/\Pd to (Pd to s)=Pd to s
theorem Qm {s:Int} (h0:0<=s) (h:s<to.length):to[s.toNat]? =some (Pd to s):=by
 grind [Pd]
theorem Afz {s:Int} {x:Pa} (h:f.Slots[s.toNat]? =some x):x.Size=Se f s:=by
 simp[Se,h]
def Pt (keep:List Bool) (k:Nat):Bool:=(keep[k]?).getD true
def Wu (f:Le) (r:Pn):Prop :=
 AfK f r.To/\r.Keep.length=f.Code.length/\∀ k:Nat,k<f.Code.length->Pt r.Keep k=false->(OU f k).Op=16\/(OU f k).Op=17
theorem Avt {n:Nat} {out:List (List Int)} {P:Int->Int->Prop} (hs:PR n out λa v=>P a v\/P v a) (hn:n<=500) {d y:Nat} (hd:d<n) (hy:y<n) (hne:d≠y) (t:Bool) (hi:i<1000000) (p q r s:Bool) :
  ∃ out',UU ((d:Int),t) out (y:Int) (i:Int) p q r s=some (.inl (out',((i+1:Nat):Int)))/\PR n out' λa v=>(P a v\/((a:Int)=d/\v=y))\/(P v a\/(v=d/\(a:Int)=y)):=by
 have e1:out[d]? =some (out[d]'(by have:=hs.1;omega)):=aAA _
 have e2:out[y]? =some (out[y]'(by have:=hs.1;omega)):=aAA _
 generalize out[d]'(by grind)=sd at e1
 generalize out[y]'(by grind)=sy at e2
 have q1:=hs.2 d _ e1;have q2:=hs.2 y _ e2;have a1:=q1.1.add (m:=(y:Int)) (by omega) (by omega)
 have a2:=q2.1.add (m:=(d:Int)) (by omega) (by omega)
 have m1:=(PF.Aon (m:=(y:Int)) q1.1 (by omega) (by omega)).2.2
 have m2:=(PF.Aon (m:=(d:Int)) q2.1 (by omega) (by omega)).2.2
 have e3:(out.set d (UZ y sd))[y]? =some sy:=by simp_all
 have hl:=hs.1;have h1:0<=(d:Int)/\(d:Int)<out.length:=by omega
 have h2:0<=(y:Int)/\(y:Int)<out.length:=by omega
 have h3:0<=(y:Int)/\(y:Int)<(out.set d (UZ y sd)).length:=by simp_all
 have w:=OZ (show i<9223372036854775807 by omega)
 refine⟨(out.set d (UZ y sd)).set y (UZ d sy),by grind [UU,aAB,PL,AtW],by simp[hl],λa s hs'=>?_⟩
 by_cases ea:a=y
 ·grind
 ·rw[aAM (λh=>ea h.symm)]at hs'
  by_cases ed:a=d
  ·grind
  ·rw[aAM (λh=>ed h.symm)]at hs'
   refine⟨(hs.2 a s hs').1,λv=>?_⟩
   rw[(hs.2 a s hs').2 v]
   grind
def Aoj (mv:Lo->Int->Bool) (f:Le) (l:List (List Int)) (s:List (List Int)×Int):Prop :=
 ∃ k:Nat,s.2=(k:Int)/\k<=f.Code.length/\PR f.Slots.length s.1 λa v=>VD mv f l k a v\/VD mv f l k v a
def AqG (mv:Lo->Int->Bool) (f:Le) (l:List (List Int)) (k:Nat) (s:List (List Int)×Int):Prop :=
 ∃ i:Nat,s.2=(i:Int)/\i<=(Pq l k).length/\PR f.Slots.length s.1 λa v=>Aat mv f l k i a v\/Aat mv f l k i v a
theorem Akl (hf:Pv f) (hd:RO f) {l:Pj} (hl:Afp l.Out) (b:Bool):Hs (Ahn f l b) (Ss (bif b then QY else Rb) f l.Out):=by
 have hlen:=hf.len';have hsl:=hf.slots;refine(Ass hf hl).bind λe he=>.bne (λh=>.pure (.inr ⟨he.1.resolve_left h,λha=>h (he.2.2 ha),rfl⟩)) λh=>?_
 have hacc:Acc f l.Out:=he.2.1 h;refine .chk (by omega) ?_
 generalize hmv:(bif b then QY else Rb)=mv
 refine Hs.loop (Aoj mv f l.Out) (λs=>f.Code.length-s.2.toNat) ⟨0,rfl,aAD _,?_⟩ ?_
 ·exact PR.nil _ λa v h=>by rcases h with⟨j,hj,_⟩|⟨j,hj,_⟩<;>omega
 rintro⟨out,_⟩ ⟨k,rfl,hk,hs⟩;refine .dec (λhlt=>?_) λhge=>.lft (.pure (.inl ⟨rfl,hacc,?_⟩))
 ·have hlt:k<f.Code.length:=by omega
  have hx:=hf.at (j:=(k:Int)) (by omega) (by omega)
  rw[aAB]at hx;have hrow:=hacc.1.at (j:=(k:Int)) (by omega) (by omega)
  rw[aAB]at hrow;simp only[Pp,hx.1,aA,Aky];have next:∀ out',(PR f.Slots.length out' λa v=>VD mv f l.Out (k+1) a v\/VD mv f l.Out (k+1) v a)->∀ a b c d e,Hs (XE (k:Int) a b c d e out') (Rnd (Aoj mv f l.Out) (λs=>f.Code.length-s.2.toNat) (out,(k:Int)) (Ss mv f l.Out)):=by
   intro out' h' a b c d e;unfold XE;rw[OZ (by omega)]
   exact .cnt ⟨⟨k+1,rfl,hlt,h'⟩,by grind⟩
  have inner:¬ ((OU f k).Op=17/\(OU f k).A=(OU f k).B)->Hs (AdR l (k:Int) (AgZ (OU f k)) b (OU f k) out) (Rnd (Aoj mv f l.Out) (λs=>f.Code.length-s.2.toNat) (out,(k:Int)) (Ss mv f l.Out)):=by
   intro hnm
   by_cases hdef:(OU f k).Op=16\/(OU f k).Op=17
   ·have hdn:AgZ (OU f k)=((OU f k).A,true):=if_pos hdef;have hA:=hd _ hx.2 hdef;rw[hdn];have hlo:=hrow.2.1.length_le;refine Hs.loop (AqG mv f l.Out k) (λs=>(Pq l.Out k).length-s.2.toNat) ⟨0,rfl,aAD _,hs.congr λa v _=>by grind [AjO]⟩ ?_
    rintro⟨out2,_⟩ ⟨i,rfl,hi,hs2⟩;unfold AdQ;simp only[Pp,hrow.1,aA];refine .dec (λhlt2=>?_) λhge2=>.lft (next _ (hs2.congr λa v _=>?_) _ _ _ _ _)
    ·have hlt2:i<(Pq l.Out k).length:=by omega
     have hgx:(Pq l.Out k)[i]? =some (Pq l.Out k)[i]:=aAA _;have hxm:=aAF hlt2;generalize(Pq l.Out k)[i]=x at hgx hxm;have hx0:=hrow.2.1.2 x hxm;have hxn:=hrow.2.2 x hxm;unfold AhV;simp only[Pp,hrow.1,hgx,aA];have skip:x=(OU f k).A\/mv (OU f k) x=true->Hs (cnt (out2,IntKind.i64.wrap ((i:Int)+1))) (Rnd (AqG mv f l.Out k) (λs=>(Pq l.Out k).length-s.2.toNat) (out2,(i:Int)) (Rnd (Aoj mv f l.Out) (λs=>f.Code.length-s.2.toNat) (out,(k:Int)) (Ss mv f l.Out))):=by
      intro hh;rw[OZ (by omega)]
      exact .cnt ⟨⟨i+1,rfl,hlt2,hs2.congr λa v _=>by grind [AjN]⟩,by grind⟩
     have add:x≠(OU f k).A->mv (OU f k) x=false->∀ p q r s,Hs (UU ((OU f k).A,true) out2 x (i:Int) p q r s) (Rnd (AqG mv f l.Out k) (λs=>(Pq l.Out k).length-s.2.toNat) (out2,(i:Int)) (Rnd (Aoj mv f l.Out) (λs=>f.Code.length-s.2.toNat) (out,(k:Int)) (Ss mv f l.Out))):=by
      intro hne hmf p q r s;obtain⟨d,hde⟩:∃ d:Nat,(OU f k).A=(d:Int):=⟨_,(aAW hA.1).symm⟩;obtain⟨y,rfl⟩:∃ y:Nat,x=(y:Int):=⟨_,(aAW hx0.1).symm⟩;obtain⟨out',h1,h2⟩:=Avt (P:=Aat mv f l.Out k i) hs2 (by omega) (d:=d) (y:=y) (by omega) (by omega) (by omega) true (i:=i) (by omega) p q r s
      rw[hde,h1];refine .pure ⟨⟨i+1,rfl,hlt2,h2.congr λa v _=>?_⟩,by grind⟩
      grind [AgB]
     refine .beq (λh=>skip (.inl h)) λhne=>?_
     subst hmv;cases b
     ·simp only[aAp,cond_true,cond_false] 
      grind [Rb]
     ·simp only[aAi,cond_true,cond_false] ;exact add hne rfl _ _ _ _
    grind [AlB]
   ·have hdn:AgZ (OU f k)=(0,false):=if_neg hdef;rw[hdn];have hs':=hs.congr (Q:=λa v=>VD mv f l.Out (k+1) a v\/VD mv f l.Out (k+1) v a) λa v _=>by grind [AbZ]
    refine Hs.loop (λs=>s=(out,0)) (λ_=>0) rfl ?_
    rintro _ rfl;unfold AdQ;simp only[Pp,hrow.1,aA,cond_false];exact .dec (λ_=>.lft (next _ hs' _ _ _ _ _)) λ_=>.lft (next _ hs' _ _ _ _ _)
  refine .beq (λh17=>.beq (λhab=>next _ ?_ _ _ _ _ _) λhab=>inner λhh=>hab hh.2) λh17=>inner λhh=>h17 hh.1
  simp_all[AbZ]
 ·have hk:k=f.Code.length:=by omega
  subst hk;exact hs
def Acm (f:Le):Prop:=∀ x∈f.Code,x.Op=17->0<=x.A/\x.A<f.Slots.length/\0<=x.B/\x.B<f.Slots.length/\Se f x.A=Se f x.B
def Amc (f:Le) (out:List Pr):Prop:=∀ p∈out,∃ x∈f.Code,x.Op=17/\p=⟨x.A,x.B⟩
theorem Anl (hlen:f.Code.length<=10000):Hs (AaP f) λout=>out.length<=10000/\Amc f out:=by
 unfold AaP;refine Hs.loop (λs=>∃ k:Nat,s.2=(k:Int)/\k<=f.Code.length/\s.1.length<=k/\Amc f s.1) (λs=>f.Code.length-s.2.toNat) ⟨0,rfl,aAD _,aAY _,λp hp=>by cases hp⟩ ?_
 rintro⟨out,_⟩ ⟨k,rfl,hk,hol,hmv⟩;replace hol:out.length<=k:=hol;replace hmv:Amc f out:=hmv;unfold SJ;refine .dec (λhlt=>?_) λhge=>.lft (.pure ⟨show out.length<=10000 by omega,hmv⟩)
 have hlt:k<f.Code.length:=by omega
 have hx:f.Code[k]? =some f.Code[k]:=aAA _;have hxm:=aAF hlt;generalize f.Code[k]=x at hx hxm;simp only[Pp,hx,aA];have j3:∀ old:Bool,(old=false->x.Op=17)->Hs (Aal out x (k:Int) old) (Rnd (λs:List Pr×Int=>∃ k:Nat,s.2=(k:Int)/\k<=f.Code.length/\s.1.length<=k/\Amc f s.1) (λs=>f.Code.length-s.2.toNat) (out,(k:Int)) λout=>out.length<=10000/\Amc f out):=by
  intro old hold;refine Hs.loop (λs=>∃ i:Nat,s.2=(i:Int)/\i<=out.length/\(s.1=false->x.Op=17)) (λs=>out.length-s.2.toNat) ⟨0,rfl,aAD _,hold⟩ ?_
  rintro⟨old,_⟩ ⟨i,rfl,hi,hold⟩;refine .dec (λhlt2=>?_) λ_=>.lft ?_
  ·have hlt2:i<out.length:=by omega
   have hg:out[i]? =some out[i]:=aAA _;simp only[aAB];rw[OZ (by omega)]
   refine .cond (λh=>.cnt ⟨⟨i+1,rfl,hlt2,λh'=>(by cases h')⟩,by grind⟩) λh=>.chk (by omega) ?_
   rw[hg,aA];exact .cnt ⟨⟨i+1,rfl,hlt2,λ_=>hold h⟩,by grind⟩
  ·unfold XD;rw[OZ (by omega)]
   refine .cond (λh=>.chk (by simp;omega) (.cnt ⟨⟨k+1,rfl,hlt,by simp;omega,λp hp=>?_⟩,by grind⟩)) λ_=>.cnt ⟨⟨k+1,rfl,hlt,by grind,hmv⟩,by grind⟩
   rcases aAK.1 hp with hp|hp
   ·exact hmv p hp
   grind
 grind
theorem AfE (hl:to.length<=500) (s:Int):Hs (Abj to s) λl=>l.length<=to.length/\∀ t,t∈l↔∃ j:Nat,j<to.length/\t=(j:Int)/\Pd to j=s:=by
 refine Hs.loop (λz=>∃ k:Nat,z.2=(k:Int)/\k<=to.length/\z.1.length<=k/\∀ t,t∈z.1↔∃ j:Nat,j<k/\t=(j:Int)/\Pd to j=s) (λz=>to.length-z.2.toNat) ⟨0,rfl,aAD _,aAY _,λt=>⟨λh=>(by cases h),λ⟨j,h,_⟩=>absurd h (aAG _)⟩⟩ ?_
 rintro⟨l,_⟩ ⟨k,rfl,hk,hll,hm⟩;replace hll:l.length<=k:=hll;refine .dec (λhlt=>?_) λhge=>.lft (.pure ?_)
 ·have hlt:k<to.length:=by omega
  have hg:=Qm (to:=to) (s:=(k:Int)) (by omega) (by omega)
  rw[aAB]at hg;simp only[Pp,hg,aA];rw[OZ (by omega)]
  refine .beq (λh=>.chk (by simp;omega) (.cnt ⟨⟨k+1,rfl,hlt,by simp;omega,λt=>?_⟩,by grind⟩)) λh=>.cnt ⟨⟨k+1,rfl,hlt,by grind,λt=>?_⟩,by grind⟩
  all_goals grind
 ·have hk:k=to.length:=by omega
  subst hk;exact⟨hll,hm⟩
def Sw (g:List (List Int)) (to:List Int) (a b:Int):Prop:=∀ (x y:Nat) row,x<to.length->y<to.length->Pd to x=a->Pd to y=b->g[x]? =some row->(y:Int)∉row
theorem AsU {n:Nat} (hg:PR n g Q) (htn:to.length=n) (hl:n<=500) (a b:Int):Hs (Aho g to a b) λr=>r=true->Sw g to a b:=by
 refine(AfE (by omega) a).bind λxs hx=>(AfE (by omega) b).bind λys hy=>?_
 have fin:(∀ x∈xs,∀ y∈ys,∀ row,g[x.toNat]? =some row->y∉row)->Sw g to a b:=by
  intro h x y row h1 h2 h3 h4 h5;exact h x ((hx.2 x).2 ⟨x,h1,rfl,h3⟩) y ((hy.2 y).2 ⟨y,h2,rfl,h4⟩) row (by simp_all)
 refine Hs.loop (λi=>∃ k:Nat,i=(k:Int)/\k<=xs.length/\∀ x∈xs.take k,∀ y∈ys,∀ row,g[x.toNat]? =some row->y∉row) (λi=>xs.length-i.toNat) ⟨0,rfl,aAD _,λx h=>by simp at h⟩ ?_
 rintro _ ⟨k,rfl,hk,hall⟩;refine .dec (λhlt=>?_) λhge=>.lft (.pure λ_=>fin λx hx=>hall x (by grind))
 have hlt:k<xs.length:=by omega
 have hgx:xs[k]? =some xs[k]:=aAA _;have hxm:=aAF hlt;have htk:xs.take (k+1)=xs.take k++[xs[k]]:=by simp_all
 generalize xs[k]=x at hgx hxm htk;obtain⟨jx,hjx,rfl,_⟩:=(hx.2 x).1 hxm;have hgl:=hg.1;have hrow:g[jx]? =some (g[jx]'(by omega)):=aAA _
 generalize g[jx]'(by omega)=row at hrow
 have hset:=(hg.2 jx row hrow).1;have hrl:=hset.1.length_le;refine Hs.loop (λi=>∃ m:Nat,i=(m:Int)/\m<=ys.length/\∀ y∈ys.take m,y∉row) (λi=>ys.length-i.toNat) ⟨0,rfl,aAD _,λx h=>by simp at h⟩ ?_
 rintro _ ⟨m,rfl,hm,hno⟩;refine .dec (λhlt2=>?_) λhge2=>.lft ?_
 ·have hlt2:m<ys.length:=by omega
  have hgy:ys[m]? =some ys[m]:=aAA _;have htm:ys.take (m+1)=ys.take m++[ys[m]]:=by simp_all
  generalize ys[m]=y at hgy htm;refine .chk (by omega) ?_
  simp only[aAB,hgx,aA,Pp,hrow];refine .chk (by omega) ?_
  rw[hgy,aA,Zz _ _ (by omega),aA,OZ (by omega)]
  refine .dec (λ_=>.lft (.lft (.pure λh=>(by cases h)))) λh=>.cnt ⟨⟨m+1,rfl,hlt2,λz hz=>?_⟩,by grind⟩
  grind
 ·unfold AdS;rw[OZ (by omega)]
  refine .cnt ⟨⟨k+1,rfl,hlt,λz hz y hy row' hr=>?_⟩,by grind⟩
  grind [aAB]
structure Aaa (f:Le) (g:List (List Int)) (to:List Int):Prop where
 ok:AfK f to
 apart:∀ (x y:Nat) row,x<to.length->y<to.length->Pd to x=Pd to y->g[x]? =some row->(y:Int)∉row
def Qr (a b c:Int):Int:=if c=a\/c=b then RI a b else c
theorem Aqx (a b:Int):RI a b=a\/RI a b=b:=by grind [RI]
theorem Aaa.join (hg:PR f.Slots.length g Q) (hsym:∀ (x y:Nat) r s,g[x]? =some r->g[y]? =some s->(y:Int)∈r->(x:Int)∈s) {to':List Int} (h:Aaa f g to) {b:Int} (ha:0<=a/\a<f.Slots.length) (hb:0<=b/\b<f.Slots.length) (haa:Pd to a=a) (hbb:Pd to b=b) (hs:Se f a=Se f b) (hap:Sw g to a b) (hl:to'.length=to.length) (hto:∀ j:Nat,j<to.length->Pd to' j=Qr a b (Pd to j)):Aaa f g to':=by
 have htl:=h.ok.1;have hto2:∀ j:Int,0<=j->j<to.length->Pd to' j=Qr a b (Pd to j):=by
  intro j h0 h1;obtain⟨i,rfl⟩:∃ i:Nat,j=(i:Int):=⟨j.toNat,by omega⟩
  simp_all
 have hm:Pd to (RI a b)=RI a b/\0<=RI a b/\RI a b<f.Slots.length/\Se f (RI a b)=Se f a:=by
  grind [Aqx]
 have hj:Qr a b (RI a b)=RI a b:=by
  simp_all[Qr]
 refine⟨⟨by omega,λs hs'=>?_⟩,λx y row hx hy he hr hyr=>?_⟩
 ·obtain⟨q1,q2,q3,q4⟩:=h.ok.2 s (by omega)
  rw[hto s (by omega)]
  by_cases e:Pd to s=a\/Pd to s=b
  ·have ej:Qr a b (Pd to s)=RI a b:=by simp_all[Qr]
   grind
  simp_all[Qr]
 ·rw[hto x (by omega),hto y (by omega)]at he
  have hgl:=hg.1;have hrow:g[y]? =some (g[y]'(by omega)):=aAA _
  by_cases ex:Pd to x=a\/Pd to x=b<;>by_cases ey:Pd to y=a\/Pd to y=b
  ·rcases ex with ex|ex<;>rcases ey with ey|ey
   ·exact h.apart x y row (by omega) (by omega) (by rw[ex,ey]) hr hyr
   ·exact hap x y row (by omega) (by omega) ex ey hr hyr
   ·exact hap y x _ (by omega) (by omega) ey ex hrow (hsym x y _ _ hr hrow hyr)
   ·exact h.apart x y row (by omega) (by omega) (by rw[ex,ey]) hr hyr
  ·have e1:Qr a b (Pd to x)=RI a b:=by simp_all[Qr]
   have e2:Qr a b (Pd to y)=Pd to y:=by simp_all[Qr]
   grind [Aqx]
  ·simp_all[Qr,Pd,RI]
  ·have e1:Qr a b (Pd to y)=Pd to y:=by simp_all[Qr]
   have e2:Qr a b (Pd to x)=Pd to x:=by simp_all[Qr]
   rw[e1,e2]at he;exact h.apart x y row (by omega) (by omega) he hr hyr
theorem Ami (hlen:f.Code.length<=10000) (hsl:f.Slots.length<=500) (hml:Acm f) (hg:PR f.Slots.length g Q) (hsym:∀ (x y:Nat) r s,g[x]? =some r->g[y]? =some s->(y:Int)∈r->(x:Int)∈s) (hirr:∀ (x:Nat) r,g[x]? =some r->(x:Int)∉r):Hs (Tj f g) λto=>Aaa f g to:=by
 unfold Tj;refine Hs.loop (λs=>∃ k:Nat,s.2=(k:Int)/\k<=f.Slots.length/\s.1.length=k/\∀ j:Nat,j<k->s.1[j]? =some (j:Int)) (λs=>f.Slots.length-s.2.toNat) ⟨0,rfl,aAD _,rfl,λj hj=>absurd hj (aAG _)⟩ ?_
 rintro⟨to,_⟩ ⟨k,rfl,hk,htl,hto⟩;replace htl:to.length=k:=htl;replace hto:∀ j:Nat,j<k->to[j]? =some (j:Int):=hto;refine .dec (λhlt=>?_) λhge=>.lft ?_
 ·have hlt:k<f.Slots.length:=by omega
  refine .chk (by simp;omega) ?_
  rw[OZ (by omega)]
  refine .cnt ⟨⟨k+1,rfl,hlt,by simp[htl],λj hj=>?_⟩,by grind⟩
  grind
 have hkk:k=f.Slots.length:=by omega
 subst hkk;have hid:∀ j:Nat,j<f.Slots.length->Pd to j=(j:Int):=by
  grind [Pd]
 have hc0:Aaa f g to:=by
  refine⟨⟨htl,λs hs=>?_⟩,λx y row hx hy he hr hyr=>?_⟩
  all_goals grind
 clear hto hid;refine(Anl hlen).bind λmv hmv=>?_
 obtain⟨hmvl,hmv⟩:=hmv;refine Hs.loop (λs=>∃ i:Nat,s.2=(i:Int)/\i<=mv.length/\Aaa f g s.1) (λs=>mv.length-s.2.toNat) ⟨0,rfl,aAD _,hc0⟩ ?_
 clear hc0 htl hge;rintro⟨to,_⟩ ⟨i,rfl,hi,hc⟩;replace hc:Aaa f g to:=hc;have htl:=hc.ok.1;unfold AbE;refine .dec (λhlt=>?_) λ_=>.lft (.pure hc)
 have hlt:i<mv.length:=by omega
 have hgp:mv[i]? =some mv[i]:=aAA _;have hpm:=aAF hlt;generalize mv[i]=p at hgp hpm;obtain⟨x,hx,hop,rfl⟩:=hmv p hpm;obtain⟨a0,a1,b0,b1,hsz⟩:=hml x hx hop;have hA:=Qm (to:=to) (s:=x.A) a0 (by omega)
 have hB:=Qm (to:=to) (s:=x.B) b0 (by omega)
 simp only[aAB,hgp,aA,hA,hB];have skip:Hs (Rv (i:Int) to) (Rnd (λs:List Int×Int=>∃ i:Nat,s.2=(i:Int)/\i<=mv.length/\Aaa f g s.1) (λs=>mv.length-s.2.toNat) (to,(i:Int)) λto=>Aaa f g to):=by
  unfold Rv;rw[OZ (by omega)]
  exact .cnt ⟨⟨i+1,rfl,hlt,hc⟩,by grind⟩
 refine .chk (by omega) (.chk (by omega) (.chk (by omega) (.chk (by omega) (.beq (λ_=>skip) λhne=>?_))))
 refine(AsU hg htl hsl (Pd to x.A) (Pd to x.B)).bind λr hr=>.cond (λ_=>skip) λhrt=>?_
 have hap:=hr (by simp_all)
 have nat:∀ {s:Int},0<=s->s<to.length->0<=Pd to s/\Pd to s<to.length/\Se f (Pd to s)=Se f s/\Pd to (Pd to s)=Pd to s:=by
  intro s h0 h1;obtain⟨j,rfl⟩:∃ j:Nat,s=(j:Int):=⟨s.toNat,by omega⟩
  exact hc.ok.2 j (by omega)
 obtain⟨qa1,qa2,qa3,qa4⟩:=nat a0 (by omega)
 obtain⟨qb1,qb2,qb3,qb4⟩:=nat b0 (by omega)
 generalize Pd to x.A=a at *;generalize Pd to x.B=b at *;unfold AbG;refine Hs.loop (λs=>∃ k:Nat,s.2=(k:Int)/\k<=to.length/\s.1.length=to.length/\∀ j:Nat,j<to.length->Pd s.1 j=if j<k then Qr a b (Pd to j)else Pd to j) (λs=>to.length-s.2.toNat) ⟨0,rfl,aAD _,rfl,λj _=>(by simp)⟩ ?_
 rintro⟨t2,_⟩ ⟨k,rfl,hk,h2l,h2⟩;replace h2l:t2.length=to.length:=h2l;replace h2:∀ j:Nat,j<to.length->Pd t2 j=if j<k then Qr a b (Pd to j)else Pd to j:=h2
 unfold AbF;refine .dec (λhlt2=>?_) λhge2=>.lft ?_
 ·have hlt2:k<to.length:=by simp_all
  have hgk:=Qm (to:=t2) (s:=(k:Int)) (by omega) (by omega)
  rw[h2 k hlt2,if_neg (Nat.lt_irrefl _)]at hgk;refine .chk (by omega) ?_
  rw[hgk,aA];have fin:∀ q:Bool,(q=true↔Pd to k=a\/Pd to k=b)->Hs (TA (k:Int) t2 a b q) (Rnd (λs:List Int×Int=>∃ k:Nat,s.2=(k:Int)/\k<=to.length/\s.1.length=to.length/\∀ j:Nat,j<to.length->Pd s.1 j=if j<k then Qr a b (Pd to j)else Pd to j) (λs=>to.length-s.2.toNat) (t2,(k:Int)) (Rnd (λs:List Int×Int=>∃ i:Nat,s.2=(i:Int)/\i<=mv.length/\Aaa f g s.1) (λs=>mv.length-s.2.toNat) (to,(i:Int)) λto=>Aaa f g to)):=by
   intro q hq;unfold TA;rw[OZ (by omega)]
   refine .cond (λh=>.chk (by omega) ?_) λh=>.cnt ⟨⟨k+1,rfl,hlt2,h2l,λj hj=>?_⟩,by grind⟩
   ·rw[hgk,aA];refine .cnt ⟨⟨k+1,rfl,hlt2,by simp[h2l],λj hj=>?_⟩,by grind⟩
    by_cases e:j=k
    ·simp_all[Pd,Qr]
    ·have:=h2 j hj;simp only[Pd,aAB]at this ⊢
     grind
   ·show Pd t2 j=_;rw[h2 j hj]
    by_cases e:j=k
    ·simp_all[Qr]
    omega
  refine .beq (λh=>fin true ⟨λ_=>.inl h,λ_=>rfl⟩) λh=>.chk (by omega) ?_
  exact fin _ ⟨λh'=>.inr (by simp_all),λh'=>by simp_all⟩
 ·have hkk:k=to.length:=by grind
  subst hkk;unfold Rv;rw[OZ (by omega)]
  refine .cnt ⟨⟨i+1,rfl,hlt,?_⟩,by simp only;omega⟩
  refine hc.join hg hsym (a:=a) (b:=b) ⟨qa1,by omega⟩ ⟨qb1,by omega⟩ qa4 qb4 (by rw[qa3,qb3,hsz]) hap h2l λj hj=>?_
  simp_all
def TB (f:Le) (l:List (List Int)) (k:Nat):Prop:=((OU f k).Op=16\/(OU f k).Op=17)/\(OU f k).A∉Pq l k
theorem AuB (hf:Pv f) {l:Pj} (hl:QD f l.Out) (hk:k<f.Code.length):Hs (AiS f l (k:Int)) λb=>b=true↔TB f l.Out k:=by
 have hx:=hf.at (j:=(k:Int)) (by omega) (by omega)
 have hrow:=hl.at (j:=(k:Int)) (by omega) (by omega)
 rw[aAB]at hx hrow;have hlo:=hrow.2.1.length_le;unfold AiS;simp only[Pp,hx.1,aA,Aky,AgZ]
 by_cases hd:(OU f k).Op=16\/(OU f k).Op=17
 ·rw[if_pos hd];simp only[cond_true,hrow.1,aA];rw[Zz _ _ (by omega),aA]
  exact .pure ⟨λh=>⟨hd,by simp_all⟩,λh=>by simpa using h.2⟩
 ·rw[if_neg hd];exact .pure ⟨λh=>(by cases h),λh=>(hd h.1).elim⟩
theorem AmS (hf:Pv f) {l:Pj} (hl:QD f l.Out) (hml:Acm f) (htl:to.length=f.Slots.length):Hs (Afw f l to) λkeep=>keep.length=f.Code.length/\∀ k:Nat,k<f.Code.length->(Pt keep k=true↔¬ TB f l.Out k/\¬ ((OU f k).Op=17/\Pd to (OU f k).A=Pd to (OU f k).B)):=by
 have hlen:=hf.len';refine Hs.loop (λs=>∃ k:Nat,s.2=(k:Int)/\k<=f.Code.length/\s.1.length=k/\∀ j:Nat,j<k->(Pt s.1 j=true↔¬ TB f l.Out j/\¬ ((OU f j).Op=17/\Pd to (OU f j).A=Pd to (OU f j).B))) (λs=>f.Code.length-s.2.toNat) ⟨0,rfl,aAD _,rfl,λj hj=>absurd hj (aAG _)⟩ ?_
 rintro⟨keep,_⟩ ⟨k,rfl,hk,hkl,hkp⟩;replace hkl:keep.length=k:=hkl;refine .dec (λhlt=>?_) λhge=>.lft (.pure ?_)
 ·have hlt:k<f.Code.length:=by omega
  have hx:=hf.at (j:=(k:Int)) (by omega) (by omega)
  rw[aAB]at hx;simp only[Pp,hx.1,aA];rw[OZ (by omega)]
  have fin:∀ q:Bool,(q=true↔¬ TB f l.Out k/\¬ ((OU f k).Op=17/\Pd to (OU f k).A=Pd to (OU f k).B))->Hs (chk (keep.length+([q]:List Bool).length<=16777216) (cnt (keep++([q]:List Bool),((k+1:Nat):Int)):Option ((List Bool×Int)⊕List Bool))) (Rnd (λs:List Bool×Int=>∃ k:Nat,s.2=(k:Int)/\k<=f.Code.length/\s.1.length=k/\∀ j:Nat,j<k->(Pt s.1 j=true↔¬ TB f l.Out j/\¬ ((OU f j).Op=17/\Pd to (OU f j).A=Pd to (OU f j).B))) (λs=>f.Code.length-s.2.toNat) (keep,(k:Int)) λkeep=>keep.length=f.Code.length/\∀ k:Nat,k<f.Code.length->(Pt keep k=true↔¬ TB f l.Out k/\¬ ((OU f k).Op=17/\Pd to (OU f k).A=Pd to (OU f k).B))):=by
   intro q hq;refine .chk (by simp;omega) (.cnt ⟨⟨k+1,rfl,hlt,by simp[hkl],λj hj=>?_⟩,by grind⟩)
   grind [Pt,List.getElem?_concat_length]
  refine(AuB hf hl hlt).bind λr hr=>.cond (λh=>?_) λh=>fin false ⟨λh=>(by cases h),λh'=>(h'.1 (hr.1 (by simp_all))).elim⟩
  have hnd:¬ TB f l.Out k:=λh'=>by simp_all
  refine .beq (λh17=>?_) λh17=>fin true ⟨λ_=>⟨hnd,λh=>h17 h.1⟩,λ_=>rfl⟩
  obtain⟨a0,a1,b0,b1,_⟩:=hml _ hx.2 h17
  grind [QG,Qm]
 ·have hkk:k=f.Code.length:=by omega
  subst hkk;exact⟨hkl,hkp⟩
def rnS (to:List Int) (s:Int):Int:=if 0<=s/\s<to.length then Pd to s else s
theorem Avu (to:List Int) (s:Int):VU s to=some (rnS to s):=by
 unfold VU rnS
 by_cases h0:s<0
 ·grind
 ·rw[decide_eq_false h0,cond_false]
  by_cases h1:s>=(to.length:Int)
  ·grind
  ·rw[decide_eq_false h1,cond_false,if_pos (by omega),QG _ (by omega),Qm (by omega) (by omega)]
   rfl
def rnI (to:List Int) (x:Lo):Lo :=
 if x.Op=15 then⟨x.Op,x.A,rnS to x.B,x.C,x.Imm⟩else if x.Op=16 then⟨x.Op,rnS to x.A,x.B,x.C,x.Imm⟩else if x.Op=17 then⟨x.Op,rnS to x.A,rnS to x.B,x.C,x.Imm⟩else x
theorem Aps (x:Lo) (to:List Int):Abg x to=some (rnI to x):=by
 unfold Abg rnI;simp only[Avu,aA]
 grind
theorem Agq (to:List Int) (x:Lo):(rnI to x).Op=x.Op:=by
 unfold rnI
 grind
def kept (keep:List Bool) (k:Nat):Nat:=(keep.take k).countP id
theorem Akx (keep:List Bool) (k:Nat):kept keep k<=k:=by
 grind [kept,List.countP_le_length]
theorem ZC {keep:List Bool} {b:Bool} (h:keep[k]? =some b):kept keep (k+1)=kept keep k+(if b then 1 else 0):=by
 grind [kept,aAO]
theorem AnC (r:Pn) (hl:r.Keep.length<=1000000):Hs (Akh r) λl=>l.length=r.Keep.length/\∀ j:Nat,j<r.Keep.length->l[j]? =some (kept r.Keep j:Int):=by
 refine Hs.loop (λs=>∃ k:Nat,s.2.2=(k:Int)/\k<=r.Keep.length/\s.2.1=(kept r.Keep k:Int)/\s.1.length=k/\∀ j:Nat,j<k->s.1[j]? =some (kept r.Keep j:Int)) (λs=>r.Keep.length-s.2.2.toNat) ⟨0,rfl,aAD _,rfl,rfl,λj hj=>absurd hj (aAG _)⟩ ?_
 rintro⟨l,n,_⟩ ⟨k,rfl,hk,hn,hll,hj⟩;subst hn;replace hll:l.length=k:=hll;refine .dec (λhlt=>?_) λhge=>.lft (.pure ?_)
 ·have hlt:k<r.Keep.length:=by simp_all
  have hg:r.Keep[k]? =some r.Keep[k]:=aAA _;generalize r.Keep[k]=b at hg;have hkl:=Akx r.Keep k;have hks:=ZC hg;have hap:∀ j:Nat,j<k+1->(l++[(kept r.Keep k:Int)])[j]? =some (kept r.Keep j:Int):=by
   grind
  refine .chk (by simp;omega) ?_
  simp only[Pp,hg,aA];rw[OZ (show k<9223372036854775807 by omega),OZ (show kept r.Keep k<9223372036854775807 by omega)]
  refine .cond (λh=>?_) λh=>?_
  ·subst h;exact .cnt ⟨⟨k+1,rfl,hlt,by simp_all,by simp[hll],hap⟩,by grind⟩
  ·subst h;exact .cnt ⟨⟨k+1,rfl,hlt,by simp_all,by simp[hll],hap⟩,by grind⟩
 ·have hkk:k=r.Keep.length:=by grind
  subst hkk;exact⟨hll,hj⟩
theorem Aot (x:Lo):Ye x=some (Qw x):=by
 grind [Ye,Qw]
theorem AfK.rng (h:AfK f to) {s:Int} (h0:0<=s) (h1:s<f.Slots.length):0<=rnS to s/\rnS to s<f.Slots.length/\rnS to s=Pd to s:=by
 obtain⟨j,rfl⟩:∃ j:Nat,s=(j:Int):=⟨s.toNat,by omega⟩
 have hl:=h.1;have:=h.2 j (by omega)
 simp_all[rnS]
def PQ (x:Lo):List Int:=Qw x++(if x.Op=16\/x.Op=17 then[x.A]else[])
theorem AeC (hf:Pv f) (hd:RO f) (h:AfK f to) (hx:x∈f.Code):∀ v∈PQ (rnI to x),0<=v/\v<f.Slots.length:=by
 intro v hv;have hu:=hf.uses x hx;have hdf:=hd x hx;have key:∀ s:Int,0<=s->s<f.Slots.length->0<=rnS to s/\rnS to s<f.Slots.length:=λs h0 h1=>⟨(h.rng h0 h1).1,(h.rng h0 h1).2.1⟩
 grind [PQ,Qw,rnI]
theorem Avd (hf:Pv f) (hd:RO f) (hr:Wu f r):Hs (Afx f r) λl=>PF f.Slots.length l/\∀ k:Nat,k<f.Code.length->Pt r.Keep k=true->∀ v∈PQ (rnI r.To (OU f k)),v∈l:=by
 have hlen:=hf.len';have hsl:=hf.slots;have hkl:=hr.2.1;unfold Afx;refine Hs.loop (λs=>∃ k:Nat,s.2=(k:Int)/\k<=f.Code.length/\PF f.Slots.length s.1/\∀ j:Nat,j<k->Pt r.Keep j=true->∀ v∈PQ (rnI r.To (OU f j)),v∈s.1) (λs=>f.Code.length-s.2.toNat) ⟨0,rfl,aAD _,PF.nil _,λj hj=>absurd hj (aAG _)⟩ ?_
 rintro⟨l,_⟩ ⟨k,rfl,hk,hs,hj⟩;replace hs:PF f.Slots.length l:=hs;replace hj:∀ j:Nat,j<k->Pt r.Keep j=true->∀ v∈PQ (rnI r.To (OU f j)),v∈l:=hj;unfold Aji;refine .dec (λhlt=>.dec (λ_=>?_) λh=>?_) λhge=>.lft (.pure ⟨hs,λj h=>hj j (by omega)⟩)
 ·have hlt:k<f.Code.length:=by omega
  have hx:=hf.at (j:=(k:Int)) (by omega) (by omega)
  rw[aAB]at hx;have hg:r.Keep[k]? =some (Pt r.Keep k):=by grind [Pt]
  have hnr:=AeC hf hd hr.1 hx.2;unfold AeX;simp only[Pp,hg,hx.1,aA,Aps,Aot,Aky,OZ (show k<9223372036854775807 by omega)]
  refine .cond (λh=>.cnt ⟨⟨k+1,rfl,hlt,hs,λj h' hkj=>?_⟩,by grind⟩) λh=>?_
  ·grind
  ·obtain⟨y,hy⟩:∃ y,y=rnI r.To (OU f k):=⟨_,rfl⟩;rw[<- hy]at hnr ⊢;have hul:(Qw y).length<=1:=by grind [Qw]
   have hll:=hs.1.length_le;rw[union_eq _ _ (by omega),aA]
   obtain⟨u1,u2⟩:=UM (n:=f.Slots.length) (by omega) (b:=Qw y) (a:=l) hs (λx hx=>hnr x (by grind [PQ]))
   by_cases hdy:y.Op=16\/y.Op=17
   ·simp only[AgZ,if_pos hdy,cond_true];have hA:=hnr y.A (by simp_all[PQ])
    obtain⟨a1,a2⟩:=PF.add (n:=f.Slots.length) u1 hA (by omega)
    have a3:=(PF.Aon u1 hA (by omega)).2.2
    rw[a2,aA];refine .cnt ⟨⟨k+1,rfl,hlt,a1,λj h' hkj v hv=>?_⟩,by grind⟩
    show v∈UZ y.A (Re l (Qw y));rw[a3,u2]
    by_cases e:j=k
    ·subst e;rw[<- hy]at hv;unfold PQ at hv
     grind
    grind
   ·simp only[AgZ,if_neg hdy,cond_false];refine .cnt ⟨⟨k+1,rfl,hlt,u1,λj h' hkj v hv=>?_⟩,by grind⟩
    show v∈Re l (Qw y);rw[u2]
    by_cases e:j=k
    ·simp_all[PQ]
    grind
 omega
theorem Amy (hl:r.To.length<=500) (hu:used.length<=512):Hs (AeY r used) λl=>l.length=r.To.length/\∀ (s:Nat) x,l[s]? =some x->0<=x/\(Pd r.To s∈used->used[x.toNat]? =some (Pd r.To s)):=by
 unfold AeY;refine Hs.loop (λz=>∃ k:Nat,z.2=(k:Int)/\k<=r.To.length/\z.1.length=k/\∀ (s:Nat) x,z.1[s]? =some x->0<=x/\(Pd r.To s∈used->used[x.toNat]? =some (Pd r.To s))) (λz=>r.To.length-z.2.toNat) ⟨0,rfl,aAD _,rfl,λs x h=>by simp at h⟩ ?_
 rintro⟨l,_⟩ ⟨k,rfl,hk,hll,hq⟩;replace hll:l.length=k:=hll;refine .dec (λhlt=>?_) λhge=>.lft (.pure ?_)
 ·have hlt:k<r.To.length:=by omega
  have hg:=Qm (to:=r.To) (s:=(k:Int)) (by omega) (by omega)
  rw[aAB]at hg;refine Hs.loop (λz=>∃ i:Nat,z.2=(i:Int)/\i<=used.length/\0<=z.1/\(Pd r.To k∈used.take i->used[z.1.toNat]? =some (Pd r.To k))) (λz=>used.length-z.2.toNat) ⟨0,rfl,aAD _,Int.le_refl _,λh=>by simp at h⟩ ?_
  rintro⟨n,_⟩ ⟨i,rfl,hi,hn,hm⟩;refine .dec (λhlt2=>?_) λhge2=>.lft (.chk (by simp;omega) ?_)
  ·have hlt2:i<used.length:=by omega
   have hgx:used[i]? =some used[i]:=aAA _;have htk:used.take (i+1)=used.take i++[used[i]]:=by simp_all
   generalize used[i]=y at hgx htk;simp only[Pp,hgx,hg,aA];rw[OZ (by omega)]
   refine .beq (λh=>.cnt ⟨⟨i+1,rfl,hlt2,by omega,λ_=>?_⟩,by grind⟩) λh=>.cnt ⟨⟨i+1,rfl,hlt2,hn,λh'=>?_⟩,by simp only;omega⟩
   all_goals grind [aAB]
  ·have hii:i=used.length:=by omega
   subst hii;unfold Ago;rw[OZ (by omega)]
   refine .cnt ⟨⟨k+1,rfl,hlt,by simp[hll],λs x hx=>?_⟩,by simp only;omega⟩
   have hx:(l++[n])[s]? =some x:=hx
   by_cases e:s=k
   ·simp_all
   ·have hsl:s<l.length:=by
     have:=(aAC.1 hx).1;simp at this;omega
    rw[aAd hsl]at hx;exact hq s x hx
 ·have hkk:k=r.To.length:=by simp only at hge;omega
  subst hkk;exact⟨hll,hq⟩
def mvI (pl:List Int) (x:Lo):Lo :=
 if x.Op=20 then⟨x.Op,(pl[x.A.toNat]?).getD 0,x.B,x.C,x.Imm⟩else if x.Op=21 then⟨x.Op,x.A,(pl[x.B.toNat]?).getD 0,x.C,x.Imm⟩else x
def TZ (f:Le) (keep:List Bool) (to pl:List Int) (k:Nat):List Lo:=(aAf k).filterMap λj=>if Pt keep j=true then some (mvI pl (rnI to (OU f (j:Nat))))else none
theorem Akd (f:Le) (keep:List Bool) (to pl:List Int) (k:Nat):TZ f keep to pl (k+1)=TZ f keep to pl k++(if Pt keep k=true then[mvI pl (rnI to (OU f (k:Nat)))]else[]):=by
 grind [TZ,aAc]
theorem AbD {f:Le} {keep:List Bool} {to pl:List Int}:∀ k:Nat,k<=keep.length->(TZ f keep to pl k).length=kept keep k/\∀ (p:Nat) x,(TZ f keep to pl k)[p]? =some x->∃ j:Nat,j<k/\Pt keep j=true/\kept keep j=p/\x=mvI pl (rnI to (OU f (j:Nat)))
 | 0,_=>⟨rfl,λp x h=>by grind [TZ]⟩
 | k+1,hk=>by
  obtain⟨h1,h2⟩:=AbD (f:=f) (keep:=keep) (to:=to) (pl:=pl) k (by omega)
  have hg:keep[k]? =some (Pt keep k):=by grind [Pt]
  rw[Akd]
  by_cases h:Pt keep k=true
  ·rw[if_pos h];rw[h]at hg;have hs:=ZC hg
   grind
  ·rw[if_neg h,aAm]
   grind [ZC]
theorem AeE (h:x.Op=20\/x.Op=21):rnI to x=x:=by
 unfold rnI
 grind
theorem AiW (hf:Pv f) (hk:k<f.Code.length):((OU f k).Op=20->0<=(OU f k).A/\(OU f k).A<f.Code.length)/\((OU f k).Op=21->0<=(OU f k).B/\(OU f k).B<f.Code.length):=by
 have hx:=hf.at (j:=(k:Int)) (by omega) (by omega)
 rw[aAB]at hx;have hn:=hf.next k _ hx.1;refine⟨λh=>hn _ (by simp[PU,h]),λh=>hn _ ?_⟩
 unfold PU
 grind
theorem Aom (hf:Pv f) (hkl:r.Keep.length=f.Code.length) (to pl:List Int) (hpl:pl.length=r.Keep.length) (sl:List Pa) :
  Hs (Pc (λs=>AhW f r to pl sl s.1 s.2) ([],0)) λq=>q=(⟨f.Params,sl,TZ f r.Keep to pl f.Code.length⟩,0):=by
 have hlen:=hf.len';refine Hs.loop (λs=>∃ k:Nat,s.2=(k:Int)/\k<=f.Code.length/\s.1=TZ f r.Keep to pl k) (λs=>f.Code.length-s.2.toNat) ⟨0,rfl,aAD _,rfl⟩ ?_
 rintro⟨_,_⟩ ⟨k,rfl,hk,rfl⟩;refine .dec (λhlt=>?_) λhge=>.lft (.pure ?_)
 ·have hlt:k<f.Code.length:=by omega
  have hx:=hf.at (j:=(k:Int)) (by omega) (by omega)
  rw[aAB]at hx;have hg:r.Keep[k]? =some (Pt r.Keep k):=by grind [Pt]
  have hol:=(AbD (f:=f) (keep:=r.Keep) (to:=to) (pl:=pl) k (by omega)).1
  have hkk:=Akx r.Keep k;have hs:=Akd f r.Keep to pl k;obtain⟨t1,t2⟩:=AiW hf hlt;simp only[Pp,hg,hx.1,aA,Aps];refine .cond (λh=>?_) λh=>?_
  ·have hkf:¬ Pt r.Keep k=true:=λh'=>by simp_all
   rw[if_neg hkf,aAm]at hs;rw[OZ (by omega)]
   exact .cnt ⟨⟨k+1,rfl,hlt,hs.symm⟩,by grind⟩
  ·have hkt:Pt r.Keep k=true:=by simp_all
   rw[if_pos hkt]at hs;have fin:∀ a b:Int,(⟨(rnI to (OU f k)).Op,a,b,(rnI to (OU f k)).C,(rnI to (OU f k)).Imm⟩:Lo)=mvI pl (rnI to (OU f k))->Hs (XF (TZ f r.Keep to pl k) (rnI to (OU f k)) (k:Int) a b) (Rnd (λs:List Lo×Int=>∃ k:Nat,s.2=(k:Int)/\k<=f.Code.length/\s.1=TZ f r.Keep to pl k) (λs=>f.Code.length-s.2.toNat) (TZ f r.Keep to pl k,(k:Int)) λq=>q=(⟨f.Params,sl,TZ f r.Keep to pl f.Code.length⟩,0)):=by
    intro a b hab;unfold XF;refine .chk (by simp;omega) (.chk (by simp;omega) ?_)
    rw[OZ (by omega)]
    refine .cnt ⟨⟨k+1,rfl,hlt,?_⟩,by grind⟩
    simp_all
   refine .beq (λh20=>?_) λh20=>.beq (λh21=>?_) λh21=>fin _ _ ?_
   ·simp_all[Agq,AeE,chk,mvI]
   ·simp_all[Agq,AeE,chk,mvI]
   simp_all[mvI]
 ·have hkk:k=f.Code.length:=by omega
  subst hkk;rfl
theorem AsC (f:Le) (to:List Int) (hsl:f.Slots.length<=500):Hs (Alr f to) λb=>b=true↔AfK f to:=by
 refine .bne (λh=>.pure ⟨λh'=>(by cases h'),λh'=>(h (by rw[h'.1])).elim⟩) λh=>?_
 have hl:to.length=f.Slots.length:=by omega
 refine Hs.loop (λi=>∃ k:Nat,i=(k:Int)/\k<=to.length/\∀ s:Nat,s<k->0<=Pd to s/\Pd to s<to.length) (λi=>to.length-i.toNat) ⟨0,rfl,aAD _,λs hs=>absurd hs (aAG _)⟩ ?_
 rintro _ ⟨k,rfl,hk,hall⟩;refine .dec (λhlt=>?_) λhge=>.lft ?_
 ·have hlt:k<to.length:=by omega
  have hg:to[k]? =some (Pd to k):=by have:=Qm (to:=to) (s:=k) (by omega) (by omega);simp_all
  simp only[Pp,hg,aA];refine .dec (λh0=>.lft (.pure ⟨λh=>(by cases h),λh=>?_⟩)) λh0=>.dec (λh1=>.lft (.pure ⟨λh=>(by cases h),λh=>?_⟩)) λh1=>?_
  ·have:=(h.2 k hlt).1;omega
  ·have:=(h.2 k hlt).2.1;omega
  rw[OZ (by omega)]
  refine .cnt ⟨⟨k+1,rfl,hlt,λs hs=>?_⟩,by grind⟩
  grind
 have hkk:k=to.length:=by omega
 subst hkk;refine Hs.loop (λi=>∃ k:Nat,i=(k:Int)/\k<=to.length/\∀ s:Nat,s<k->Se f (Pd to s)=Se f s/\Pd to (Pd to s)=Pd to s) (λi=>to.length-i.toNat) ⟨0,rfl,aAD _,λs hs=>absurd hs (aAG _)⟩ ?_
 rintro _ ⟨k,rfl,hk,hall2⟩;refine .dec (λhlt=>?_) λhge=>.lft (.pure ?_)
 ·have hlt:k<to.length:=by omega
  obtain⟨q0,q1⟩:=hall k hlt;have hg:to[k]? =some (Pd to k):=by have:=Qm (to:=to) (s:=k) (by omega) (by omega);simp_all
  simp only[Pp,hg,aA];refine Hs.bind (Hs.ix (i:=Pd to k) (P:=λx=>x.Size=Se f (Pd to k)) (by omega) (by omega) λx hx=>Afz hx) λa ha=>?_
  refine Hs.bind (Hs.get (i:=(k:Int)) (P:=λx=>x.Size=Se f k) (by omega) (by omega) λx hx=>Afz hx) λb hb=>?_
  rw[ha,hb];refine .bne (λh2=>.lft (.pure ⟨λh=>(by cases h),λh=>(h2 (h.2 k hlt).2.2.1).elim⟩)) λh2=>?_
  rw[QG _ (by omega),Qm (by omega) (by omega),aA]
  refine .bne (λh3=>.lft (.pure ⟨λh=>(by cases h),λh=>(h3 (h.2 k hlt).2.2.2).elim⟩)) λh3=>?_
  rw[OZ (by omega)]
  refine .cnt ⟨⟨k+1,rfl,hlt,λs hs=>?_⟩,by grind⟩
  grind
 ·exact⟨λ_=>⟨hl,λs hs=>⟨(hall s hs).1,(hall s hs).2,(hall2 s (by omega)).1,(hall2 s (by omega)).2⟩⟩,λ_=>rfl⟩
theorem AsA (x:Lo):Uk x=some (decide (x.Op=16\/x.Op=17)):=by
 unfold Uk
 grind
theorem Aln (hf:Pv f) (r:Pn):Hs (Ahp f r) λe=>(e=0\/e=12)/\(e=0↔Wu f r):=by
 have hlen:=hf.len';unfold Ahp;refine(AsC f r.To hf.slots).bind λb hb=>.cond (λh=>.pure ⟨.inr rfl,λh=>by omega,λh'=>?_⟩) λh=>?_
 ·rw[hb.2 h'.1]at h;cases h
 have hv:AfK f r.To:=hb.1 (by simp_all)
 refine .bne (λh=>.pure ⟨.inr rfl,λh=>by omega,λh'=>(h (by rw[h'.2.1])).elim⟩) λh=>?_
 have hkl:r.Keep.length=f.Code.length:=by omega
 unfold AhY;refine Hs.loop (λi=>∃ k:Nat,i=(k:Int)/\k<=f.Code.length/\∀ j:Nat,j<k->Pt r.Keep j=false->(OU f j).Op=16\/(OU f j).Op=17) (λi=>f.Code.length-i.toNat) ⟨0,rfl,aAD _,λs hs=>absurd hs (aAG _)⟩ ?_
 rintro _ ⟨k,rfl,hk,hall⟩;unfold AhX;refine .dec (λhlt=>?_) λhge=>.lft (.pure ⟨.inl rfl,λ_=>⟨hv,hkl,λj hj=>hall j (by omega)⟩,λ_=>rfl⟩)
 have hlt:k<f.Code.length:=by omega
 have hx:=hf.at (j:=(k:Int)) (by omega) (by omega)
 rw[aAB]at hx;have hg:r.Keep[k]? =some (Pt r.Keep k):=by grind [Pt]
 have stp:(Pt r.Keep k=false->(OU f k).Op=16\/(OU f k).Op=17)->∀ j:Nat,j<k+1->Pt r.Keep j=false->(OU f j).Op=16\/(OU f j).Op=17:=by
  grind
 simp only[Pp,hx.1,hg,aA,AsA];rw[OZ (by omega)]
 refine .cond (λh=>?_) λh=>.cnt ⟨⟨k+1,rfl,hlt,stp λh'=>by simp_all⟩,by grind⟩
 have hkf:Pt r.Keep k=false:=by simp_all
 refine .cond (λh=>.lft (.pure ⟨.inr rfl,λh=>by omega,λh'=>?_⟩)) λh=>.cnt ⟨⟨k+1,rfl,hlt,stp λ_=>aAl λhn=>by simp_all⟩,by grind⟩
 have:=h'.2.2 k hlt hkf;simp_all
theorem Akw:∀ {l:List Int} {a n:Int},l.Pairwise (· <·)->(∀ x∈l,a<=x/\x<n)->(l.length:Int)<=max 0 (n-a)
 | [],a,n,_,_=>by simp;omega
 | x::l,a,n,hp,hr=>by
  have h:=aAU.1 hp;have hx:=hr x (by simp)
  have:=Akw (l:=l) (a:=x+1) (n:=n) h.2 λy hy=>⟨by grind,(hr y (by simp[hy])).2⟩
  grind
theorem AsV (hsl:f.Slots.length<=500) (htl:r.To.length=f.Slots.length) {u:Int} {x:Pa} {out:List Pa} (hi:i<=1000) {l:List Int} (hll:l.length<=1000) (ho:out.length=i) (hl:∀ t∈l,0<=t/\t<f.Slots.length) {Q:Le×Int->Prop} (hI:∀ y:Pa,y.Size=x.Size->(∃ t∈x::f.Slots,y.Align=t.Align)->Rnd I μ s0 Q (.inl (out++[y],((i+1:Nat):Int)))):Hs (Pc (λs=>AdT l f out x (i:Int) s.1 s.2) (x.Align,0)) (Rnd I μ s0 Q):=by
 refine Hs.loop (λs=>∃ k:Nat,s.2=(k:Int)/\k<=l.length/\∃ t∈x::f.Slots,s.1=t.Align) (λs=>l.length-s.2.toNat) ⟨0,rfl,aAD _,x,by simp,rfl⟩ ?_
 rintro⟨a,_⟩ ⟨k,rfl,hk,t0,ht0,hat⟩;refine .dec (λhlt=>?_) λ_=>.lft (.chk (by simp;omega) (.chk (by simp;omega) ?_))
 ·have hlt:k<l.length:=by omega
  refine .chk (by omega) ((Hs.get (by omega) (by omega) λt ht=>aAE ht).bind λt ht=>?_)
  have:=hl t ht;refine(Hs.ix (P:=λy=>y∈f.Slots) this.1 this.2 λy hy=>aAE hy).bind λy hy=>?_
  rw[OZ (by omega),Aah]
  refine .cnt ⟨⟨k+1,rfl,hlt,?_⟩,by grind⟩
  grind
 ·unfold AdU;rw[OZ (by omega)]
  exact .cnt (hI _ rfl ⟨t0,ht0,hat⟩)
def AfJ (f:Le) (used:List Int) (out:List Pa):Prop :=
 ∀ (j:Nat) y,out[j]? =some y->∃ u x,used[j]? =some u/\f.Slots[u.toNat]? =some x/\y.Size=x.Size/\∃ t∈f.Slots,y.Align=t.Align
theorem AfJ.snoc {out:List Pa} (h:AfJ f used out) (ho:out.length=i) (hu:used[i]? =some u) {x y:Pa} (hx:f.Slots[u.toNat]? =some x) (h1:y.Size=x.Size) (h2:∃ t∈x::f.Slots,y.Align=t.Align):AfJ f used (out++[y]):=by
 intro j z hz
 by_cases e:j<out.length
 ·rw[aAd e]at hz;exact h j z hz
 grind
theorem ArB (hf:Pv f) (hd:RO f) (hr:Wu f r):Hs (UP f r) λq=>q.2=0/\∃ used to pl:List Int,PF f.Slots.length used/\(∀ k:Nat,k<f.Code.length->Pt r.Keep k=true->∀ v∈PQ (rnI r.To (OU f k)),v∈used)/\to.length=r.To.length/\(∀ (s:Nat) x,to[s]? =some x->0<=x/\(Pd r.To s∈used->used[x.toNat]? =some (Pd r.To s))) /\
  pl.length=r.Keep.length/\(∀ j:Nat,j<r.Keep.length->pl[j]? =some (kept r.Keep j:Int))/\q.1.Slots.length=used.length/\q.1.Params=f.Params/\q.1.Code=TZ f r.Keep to pl f.Code.length/\AfJ f used q.1.Slots:=by
 have hlen:=hf.len';have hsl:=hf.slots;have hkl:=hr.2.1;have htl:=hr.1.1;refine(Aln hf r).bind λe he=>.bne (λh=>(h (he.2.2 hr)).elim) λ_=>?_
 refine(Avd hf hd hr).bind λused ⟨hu1,hu2⟩=>?_
 have hul:=hu1.1.length_le;refine Hs.loop (λs=>∃ i:Nat,s.2=(i:Int)/\i<=used.length/\s.1.length=i/\AfJ f used s.1) (λs=>used.length-s.2.toNat) ⟨0,rfl,aAD _,rfl,λj y hj=>by simp at hj⟩ ?_
 rintro⟨out,_⟩ ⟨i,rfl,hi,ho,hsa⟩;refine .dec (λhlt=>?_) λhge=>.lft ?_
 ·have hlt:i<used.length:=by omega
  have hgx:used[i]? =some used[i]:=aAA _;have hxm:=aAF hlt;generalize used[i]=u at hgx hxm;have h0:=(hu1.1.2 u hxm).1;have h1:=hu1.2 u hxm;refine .chk (by omega) ?_
  simp only[aAB,hgx,aA];refine(Hs.ix (P:=λx=>f.Slots[u.toNat]? =some x) h0 h1 λx hx=>hx).bind λx hfx=>.chk (by omega) ?_
  refine(AfE (by omega) u).bind λl hm=>?_
  refine AsV (u:=u) hsl htl (by omega) (l:=l) (by omega) ho (λt ht=>?_) λy hy1 hy2=>⟨⟨i+1,rfl,hlt,by simp[ho],hsa.snoc ho hgx hfx hy1 hy2⟩,by grind⟩
  grind
 have hii:i=used.length:=by omega
 subst hii;refine(Amy (by omega) hul).bind λto ⟨n1,n2⟩=>(AnC r (by omega)).bind λpl ⟨p1,p2⟩=>?_
 refine(Aom hf hkl to pl p1 out).mono λq hq=>?_
 subst hq;exact⟨rfl,used,to,pl,hu1,hu2,n1,n2,p1,p2,ho,rfl,rfl,hsa⟩
theorem Aop (hf:Pv f) (hd:RO f) (hr:Wu f r):Hs (UP f r) λq=>q.2=0/\∃ used to pl:List Int,PF f.Slots.length used/\(∀ k:Nat,k<f.Code.length->Pt r.Keep k=true->∀ v∈PQ (rnI r.To (OU f k)),v∈used)/\to.length=r.To.length/\(∀ (s:Nat) x,to[s]? =some x->0<=x/\(Pd r.To s∈used->used[x.toNat]? =some (Pd r.To s))) /\
  pl.length=r.Keep.length/\(∀ j:Nat,j<r.Keep.length->pl[j]? =some (kept r.Keep j:Int))/\q.1.Slots.length=used.length/\q.1.Params=f.Params/\q.1.Code=TZ f r.Keep to pl f.Code.length :=
 (ArB hf hd hr).mono λq ⟨h0,used,to,pl,u1,u2,n1,n2,p1,p2,sl,pr,cd,_⟩=>⟨h0,used,to,pl,u1,u2,n1,n2,p1,p2,sl,pr,cd⟩
theorem Anv {keep:List Bool} {j:Nat}:∀ {k:Nat},j<=k->k<=keep.length->kept keep j<=kept keep k
 | 0,h,_=>by
  simp_all
 | k+1,h,hk=>by
  by_cases e:j=k+1
  ·simp_all
  ·have h1:=Anv (keep:=keep) (j:=j) (k:=k) (by omega) (by omega)
   have hg:keep[k]? =some (keep[k]'(by omega)):=aAA _
   grind [ZC]
def Ahs (f:Le):Prop:=(OU f (f.Code.length-1:Nat)).Op=23\/(OU f (f.Code.length-1:Nat)).Op=24
theorem AmT (hf:Pv f) (hlast:Ahs f) (hr:Wu f r) {t:Nat} (ht:t<f.Code.length):kept r.Keep t<kept r.Keep f.Code.length:=by
 have hkl:=hr.2.1;have hl:=hf.len;have hk:Pt r.Keep (f.Code.length-1)=true:=by
  cases h:Pt r.Keep (f.Code.length-1)
  ·have:=hr.2.2 _ (by omega) h
   grind [Ahs]
  ·rfl
 have hg:r.Keep[f.Code.length-1]? =some true:=by
  grind [Pt]
 have h1:=ZC hg;have h2:=Anv (keep:=r.Keep) (j:=t) (k:=f.Code.length-1) (by omega) (by omega)
 grind
theorem AqI (hf:Pv f) (hlast:Ahs f) (hr:Wu f r) {pl:List Int} (hpl:∀ j:Nat,j<r.Keep.length->pl[j]? =some (kept r.Keep j:Int)) {p:Nat} (hx:(TZ f r.Keep to pl f.Code.length)[p]? =some x):∀ t∈PU x p,0<=t/\t<(kept r.Keep f.Code.length:Int):=by
 have hkl:=hr.2.1;obtain⟨j,hj,hk,rfl,rfl⟩:=(AbD (f:=f) (keep:=r.Keep) (to:=to) (pl:=pl) f.Code.length (by omega)).2 p x hx
 have hcode:=(hf.at (j:=(j:Int)) (by omega) (by omega)).1
 have hn:=hf.next j _ hcode;obtain⟨t1,t2⟩:=AiW hf hj;have hg:r.Keep[j]? =some true:=by
  grind [Pt]
 have hs:=ZC hg;simp at hs;have at_:∀ t:Int,0<=t->t<f.Code.length->(pl[t.toNat]?).getD 0=(kept r.Keep t.toNat:Int)/\kept r.Keep t.toNat<kept r.Keep f.Code.length:=λt h0 h1=>by
  simp_all[AmT]
 have nx:(j:Int)+1<f.Code.length->(kept r.Keep j:Int)+1<kept r.Keep f.Code.length:=λh=>by
  have:=AmT hf hlast hr (t:=j+1) (by omega)
  omega
 intro t ht
 by_cases h20:(OU f j).Op=20
 ·simp_all[AeE,mvI,PU]
 ·by_cases h21:(OU f j).Op=21
  ·rw[AeE (.inr h21)]at ht;have a:=at_ _ (t2 h21).1 (t2 h21).2
   have b:=nx (by
    have:=hn ((j:Int)+1) (by
     unfold PU
     grind)
    omega)
   have hmem:t=(pl[(OU f j).B.toNat]?).getD 0\/t=(kept r.Keep j:Int)+1:=by
    simp only[mvI,if_neg h20,if_pos h21,PU]at ht
    grind
   omega
  ·have hop:(mvI pl (rnI to (OU f j))).Op=(OU f j).Op:=by
    have h:=Agq to (OU f j);simp_all[mvI]
   unfold PU at ht;rw[hop,if_neg h20]at ht
   by_cases h23:(OU f j).Op=23\/(OU f j).Op=24
   ·simp_all
   ·rw[if_neg h23,if_neg h21]at ht
    have b:=nx (by
     simp_all[PU])
    grind
theorem AlS (to:List Int) (x:Lo) (v:Int):v∈PQ (rnI to x)↔∃ s∈PQ x,v=rnS to s:=by
 grind [PQ,Qw,rnI]
theorem Atq (pl:List Int) (x:Lo):PQ (mvI pl x)=PQ x:=by
 grind [mvI,PQ,Qw]
theorem AnA (hf:Pv f) (hd:RO f) (hx:x∈f.Code) {s:Int} (hs:s∈PQ x):0<=s/\s<f.Slots.length:=by
 rcases aAK.1 hs with h|h
 ·exact hf.uses x hx s h
 ·by_cases hop:x.Op=16\/x.Op=17
  ·rw[if_pos hop]at h;rw[aAI.1 h];exact hd x hx hop
  simp_all
theorem ApP (hf:Pv f) (hd:RO f) (hr:Wu f r) {pl:List Int} (hu:∀ k:Nat,k<f.Code.length->Pt r.Keep k=true->∀ v∈PQ (rnI r.To (OU f k)),v∈used) (htl:to.length=r.To.length) (hto:∀ (s:Nat) x,to[s]? =some x->0<=x/\(Pd r.To s∈used->used[x.toNat]? =some (Pd r.To s))) {p:Nat} (hx:(TZ f r.Keep to pl f.Code.length)[p]? =some x):∀ v∈PQ x,0<=v/\v<used.length:=by
 have hkl:=hr.2.1;have hrl:=hr.1.1;obtain⟨j,hj,hk,rfl,rfl⟩:=(AbD (f:=f) (keep:=r.Keep) (to:=to) (pl:=pl) f.Code.length (by omega)).2 p x hx
 have hxm:=(hf.at (j:=(j:Int)) (by omega) (by omega)).2
 intro v hv;rw[Atq,AlS]at hv;obtain⟨s,hs,rfl⟩:=hv;obtain⟨h0,h1⟩:=AnA hf hd hxm hs;have hm:=hu j hj hk (rnS r.To s) ((AlS _ _ _).2 ⟨s,hs,rfl⟩);rw[(hr.1.rng h0 h1).2.2]at hm;have hg:=Qm (to:=to) (s:=s) h0 (by omega)
 have e:rnS to s=Pd to s:=by simp_all[rnS]
 grind [aAW]
theorem AqH (hf:Pv f) (hd:RO f) (hlast:Ahs f) (hr:Wu f r):Hs (UP f r) λq=>q.2=0/\Pv q.1/\RO q.1:=by
 have hkl:=hr.2.1;have hsl:=hf.slots;have hlen:=hf.len';have hl1:=hf.len;refine(Aop hf hd hr).mono λq ⟨h0,used,to,pl,u1,u2,n1,n2,p1,p2,sl,_,cd⟩=>⟨h0,?_⟩
 have hcl:q.1.Code.length=kept r.Keep f.Code.length:=by grind [AbD]
 have hk0:=AmT hf hlast hr (t:=0) (by omega)
 have hkl2:=Akx r.Keep f.Code.length;have hul:=Akw (l:=used) (a:=0) (n:=f.Slots.length) u1.1.1 λx hx=>⟨(u1.1.2 x hx).1,u1.2 x hx⟩
 have nm:∀ x∈q.1.Code,∀ v∈PQ x,0<=v/\v<q.1.Slots.length:=by
  intro x hx v hv;obtain⟨p,hp⟩:=aAR hx;rw[cd]at hp;have:=ApP hf hd hr u2 n1 n2 hp v hv;omega
 refine⟨⟨by omega,by omega,by omega,λk x hx j hj=>?_,λx hx v hv=>nm x hx v (aAg _ hv)⟩,λx hx hop=>nm x hx x.A (by simp_all[PQ])⟩
 rw[cd]at hx;have:=AqI hf hlast hr p2 hx j hj;omega
def Adp (n:Nat) (f:Le):Prop:=∀ x∈f.Code,x.Op=22->0<=x.A/\x.A<n
theorem UY.calls {i:Int} (h:UY ps i most f) (hi:0<=i):Adp ps.length f:=by
 intro x hx hop;obtain⟨k,hk⟩:=aAR hx;have hkl:=(aAC.1 hk).1
 by_cases hk1:k+1<f.Code.length
 ·have hins:=h.body k x hk hk1;cases hins<;>grind
 ·have he:=h.last x (by grind)
  rcases he with rfl|⟨w,_,rfl⟩<;>simp at hop
theorem Arq {n:Nat} (h:Adp n f) {keep:List Bool} {pl:List Int} (hk:f.Code.length<=keep.length):∀ x∈TZ f keep to pl f.Code.length,x.Op=22->0<=x.A/\x.A<n:=by
 intro x hx hop;obtain⟨p,hp⟩:=aAR hx;obtain⟨j,h1,_,_,rfl⟩:=(AbD (f:=f) (keep:=keep) (to:=to) (pl:=pl) _ hk).2 p x hp;have hm:OU f (j:Nat)∈f.Code:=by
  grind [OU]
 have ho:(mvI pl (rnI to (OU f (j:Nat)))).Op=(OU f (j:Nat)).Op:=by
  refine Eq.trans ?_ (Agq to _)
  grind [mvI]
 rw[ho]at hop;have e:mvI pl (rnI to (OU f (j:Nat)))=OU f (j:Nat):=by grind [mvI,rnI]
 rw[e];exact h _ hm hop
theorem ApO (hf:Pv f) (hd:RO f) (hlast:Ahs f) {n:Nat} (hc:Adp n f) (hr:Wu f r):Hs (UP f r) λq=>q.2=0/\Pv q.1/\RO q.1/\Adp n q.1:=by
 obtain⟨q,e,h1,h2,h3⟩:=AqH hf hd hlast hr;obtain⟨q',e',_,used,to,pl,_,_,_,_,_,_,_,_,cd⟩:=Aop hf hd hr;rw[e]at e';cases e';refine⟨q,e,h1,h2,h3,?_⟩;unfold Adp;rw[cd];exact Arq hc (by rw[hr.2.1];omega)
theorem AqM (hf:Pv f) (hd:RO f) (hml:Acm f) {l:Pj} (hacc:Acc f l.Out):Hs (Aeh f l) λg=>Hs (Tj f g.1) λto=>Hs (Afw f l to) λkeep=>Wu f ⟨to,keep⟩:=by
 have hlen:=hf.len';have hsl:=hf.slots;refine Hs.mono (P:=Ss Rb f l.Out) ?_ λg hg=>?_
 ·exact(Akl hf hd (hacc.1.len hf) false).bind λr hr=>.pure hr
 rcases hg with⟨_,_,hg⟩|⟨_,hn,_⟩
 rotate_left
 ·simp_all
 refine(Ami hlen hsl hml hg (λx y r s hr hs hy=>((hg.2 y s hs).2 _).2 (((hg.2 x r hr).2 _).1 hy).symm) λx r hr hx=>?_).mono λto hto=>?_
 ·rcases((hg.2 x r hr).2 _).1 hx with⟨_,_,_,_,_,_,h',_⟩|⟨_,_,_,_,_,_,h',_⟩<;>exact h' rfl
 refine(AmS hf hacc.1 hml hto.ok.1).mono λkeep ⟨hkl,hkp⟩=>⟨hto.ok,hkl,λk hk h=>?_⟩
 by_cases h1:TB f l.Out k
 ·exact h1.1
 grind
theorem AtU (ht:Sg t) (n:Int):TK t n=some (decide (0<=n/\n<512)&&hasB t n,t):=by
 unfold TK;rw[AgQ,aA]
 by_cases h:0<=n/\n<512
 ·rw[decide_eq_true h];obtain⟨h0,h1⟩:=h;have hi:n.toNat / 64<8:=by omega
  have hw:=ht.word hi;simp only[cond_true,Bool.true_and];rw[Arv h0 h1,PL (by omega),aAB,ZZ hi,aA,PL (Aog n).1,(Aog n).2 h0 h1]
  have e:Nat.min (n.toNat % 64) IntKind.u64.bits=n.toNat % 64:=Nat.min_eq_left (by show n.toNat % 64<=64;omega)
  have e2:(TJ t (n.toNat / 64)).fdiv (2 ^ (n.toNat % 64))=(((TJ t (n.toNat / 64)).toNat / 2 ^ (n.toNat % 64):Nat):Int):=by
   rw[Int.fdiv_eq_ediv_of_nonneg _ (Int.pow_nonneg (by omega))]
   have:TJ t (n.toNat / 64)=(((TJ t (n.toNat / 64)).toNat:Nat):Int):=by have:=hw.1;omega
   grind
  have hlt:(TJ t (n.toNat / 64)).toNat / 2 ^ (n.toNat % 64)<18446744073709551616:=Nat.lt_of_le_of_lt (Nat.div_le_self ..) hw.toNat_lt;rw[e,e2,AtK (WW.nat hlt) ⟨by omega,by omega⟩]
  congr 2;unfold hasB Adt
  grind
 grind
theorem AsX (hs:PO s) (n:Int):Acn s n=some (decide (n∈s)):=by
 unfold Acn;obtain⟨t,h1,h2,h3⟩:=AiJ s (by have:=hs.length_le;omega)
 rw[h1,aA,AtU h2,aA]
 by_cases h:0<=n/\n<512
 ·simp_all
 ·rw[decide_eq_false h,Bool.false_and,decide_eq_false λhm=>h (hs.2 n hm)]
theorem Atb (hf:Pv f) {l:Pj} (hl:QD f l.Out):Hs (Aac f l) λd=>d.length<=f.Code.length/\∀ v,v∈d↔∃ k:Nat,k<f.Code.length/\v=(k:Int)/\TB f l.Out k:=by
 have hlen:=hf.len';refine Hs.loop (λs=>∃ k:Nat,s.2=(k:Int)/\k<=f.Code.length/\s.1.length<=k/\∀ v,v∈s.1↔∃ j:Nat,j<k/\v=(j:Int)/\TB f l.Out j) (λs=>f.Code.length-s.2.toNat) ⟨0,rfl,aAD _,aAY _,λv=>⟨λh=>(by cases h),λ⟨j,h,_⟩=>absurd h (aAG _)⟩⟩ ?_
 rintro⟨d,_⟩ ⟨k,rfl,hk,hdl,hd⟩;replace hdl:d.length<=k:=hdl;refine .dec (λhlt=>?_) λhge=>.lft (.pure ?_)
 ·have hlt:k<f.Code.length:=by omega
  have hx:=hf.at (j:=(k:Int)) (by omega) (by omega)
  have hrow:=hl.at (j:=(k:Int)) (by omega) (by omega)
  rw[aAB]at hx hrow;simp only[Pp,hx.1,aA,AfC,OZ (show k<9223372036854775807 by omega)]
  have no:¬ TB f l.Out k->Rnd (λs:List Int×Int=>∃ k:Nat,s.2=(k:Int)/\k<=f.Code.length/\s.1.length<=k/\∀ v,v∈s.1↔∃ j:Nat,j<k/\v=(j:Int)/\TB f l.Out j) (λs=>f.Code.length-s.2.toNat) (d,(k:Int)) (λd:List Int=>d.length<=f.Code.length/\∀ v,v∈d↔∃ k:Nat,k<f.Code.length/\v=(k:Int)/\TB f l.Out k) (.inl (d,((k+1:Nat):Int))):=λhn=>by
   refine⟨⟨k+1,rfl,hlt,by grind,λv=>?_⟩,by grind⟩
   grind
  by_cases hop:(OU f k).Op=16\/(OU f k).Op=17
  ·rw[if_pos hop];simp only[cond_true,hrow.1,aA];rw[AsX hrow.2.1,aA];refine .cond (λh=>?_) λh=>.cnt (no λhk=>by have:=hk.2;simp_all)
   have hdk:TB f l.Out k:=⟨hop,by simp_all⟩
   refine .chk (by simp;omega) (.cnt ⟨⟨k+1,rfl,hlt,by simp;omega,λv=>?_⟩,by grind⟩)
   grind
  ·rw[if_neg hop];exact .cnt (no λh=>hop h.1)
 ·have hkk:k=f.Code.length:=by omega
  subst hkk;exact⟨hdl,hd⟩
theorem Atc (hf:Pv f) {l:Pj} (hl:QD f l.Out) (hml:Acm f) (htl:to.length=f.Slots.length):Hs (Xn f l to) λkeep=>keep.length=f.Code.length/\∀ k:Nat,k<f.Code.length->(Pt keep k=true↔¬ TB f l.Out k/\¬ ((OU f k).Op=17/\Pd to (OU f k).A=Pd to (OU f k).B)):=by
 have hlen:=hf.len';refine .chk (by omega) ((Atb hf hl).bind λd ⟨hdl,hd⟩=>?_)
 refine Hs.loop (λs=>∃ k:Nat,s.2=(k:Int)/\k<=f.Code.length/\s.1.length=f.Code.length/\(∀ j:Nat,j<k->(Pt s.1 j=true↔¬ TB f l.Out j/\¬ ((OU f j).Op=17/\Pd to (OU f j).A=Pd to (OU f j).B)))/\∀ j:Nat,k<=j->j<f.Code.length->Pt s.1 j=false) (λs=>f.Code.length-s.2.toNat)
  ⟨0,rfl,aAD _,by simp,λj hj=>absurd hj (aAG _),λj _ hj=>by grind [Pt]⟩ ?_
 rintro⟨keep,_⟩ ⟨k,rfl,hk,hkl,hk1,hk2⟩;replace hkl:keep.length=f.Code.length:=hkl;refine .dec (λhlt=>?_) λhge=>.lft (.pure ?_)
 rotate_left
 ·have hkk:k=f.Code.length:=by omega
  subst hkk;exact⟨hkl,hk1⟩
 have hlt:k<f.Code.length:=by omega
 have hx:=hf.at (j:=(k:Int)) (by omega) (by omega)
 rw[aAB]at hx;simp only[Pp,hx.1,aA];refine Hs.loop (λi=>∃ m:Nat,i=(m:Int)/\m<=d.length/\∀ v∈d.take m,v≠(k:Int)) (λi=>d.length-i.toNat) ⟨0,rfl,aAD _,λv h=>by simp at h⟩ ?_
 rintro _ ⟨m,rfl,hm,hno⟩;unfold WX;rw[OZ (by omega),OZ (by omega)]
 refine .dec (λhlt2=>?_) λhge2=>.lft ?_
 ·have hlt2:m<d.length:=by omega
  have hg:d[m]? =some d[m]:=aAA _;have htk:d.take (m+1)=d.take m++[d[m]]:=by simp_all
  have hdm:=aAF hlt2;generalize d[m]=x at hg htk hdm;refine .chk (by omega) ?_
  rw[aAB,hg,aA];refine .beq (λhe=>?_) λhe=>.cnt ⟨⟨m+1,rfl,hlt2,λv hv=>?_⟩,by grind⟩
  ·subst he;obtain⟨j,_,e,hdk⟩:=(hd _).1 hdm;have e:j=k:=by omega
   subst e;refine .lft (.cnt ⟨⟨j+1,rfl,hlt,hkl,λi hi=>?_,λi h1 h2=>hk2 i (by omega) h2⟩,by grind⟩)
   grind
  grind
 ·have hmm:m=d.length:=by omega
  subst hmm;rw[aAQ]at hno;have hnd:¬ TB f l.Out k:=λh=>hno k ((hd _).2 ⟨k,hlt,rfl,h⟩) rfl
  have hgk:keep[k]? =some (Pt keep k):=by grind [Pt]
  have fin:∀ q:Bool,(q=true↔¬ ((OU f k).Op=17/\Pd to (OU f k).A=Pd to (OU f k).B))->Rnd (λs:List Bool×Int=>∃ k:Nat,s.2=(k:Int)/\k<=f.Code.length/\s.1.length=f.Code.length/\(∀ j:Nat,j<k->(Pt s.1 j=true↔¬ TB f l.Out j/\¬ ((OU f j).Op=17/\Pd to (OU f j).A=Pd to (OU f j).B)))/\∀ j:Nat,k<=j->j<f.Code.length->Pt s.1 j=false) (λs=>f.Code.length-s.2.toNat) (keep,(k:Int)) (λkeep:List Bool=>keep.length=f.Code.length/\∀ k:Nat,k<f.Code.length->(Pt keep k=true↔¬ TB f l.Out k/\¬ ((OU f k).Op=17/\Pd to (OU f k).A=Pd to (OU f k).B))) (.inl (keep.set k q,((k+1:Nat):Int))):=by
   intro q hq;have at_:∀ i:Nat,Pt (keep.set k q) i=if i=k then q else Pt keep i:=λi=>by
    unfold Pt
    grind
   refine⟨⟨k+1,rfl,hlt,by simp[hkl],λi hi=>?_,λi h1 h2=>?_⟩,by grind⟩
   ·show Pt (keep.set k q) i=true↔_;rw[at_]
    grind
   grind
  refine .bne (λh17=>.chk (by omega) ?_) λh17=>?_
  ·rw[aAB,hgk,aA];exact .cnt (fin true ⟨λ_ h=>h17 h.1,λ_=>rfl⟩)
  ·obtain⟨a0,a1,b0,b1,_⟩:=hml _ hx.2 h17;rw[QG _ a0,Qm a0 (by omega),aA,QG _ b0,Qm b0 (by omega),aA]
   refine .chk (by omega) ?_
   rw[aAB,hgk,aA];exact .cnt (fin _ ⟨λh h'=>by simp_all,λh=>by simp_all⟩)
theorem ApZ {n:Nat} {a b:List Bool} {p:Nat->Prop} (ha:a.length=n/\∀ k:Nat,k<n->(Pt a k=true↔p k)) (hb:b.length=n/\∀ k:Nat,k<n->(Pt b k=true↔p k)):a=b:=by
 refine aAZ λk=>?_
 by_cases hk:k<n
 ·have e1:a[k]? =some (Pt a k):=by grind [Pt]
  have e2:b[k]? =some (Pt b k):=by grind [Pt]
  grind
 simp_all
theorem Asb (hf:Pv f) {l:Pj} (hl:QD f l.Out) (hml:Acm f) (htl:to.length=f.Slots.length):∃ keep,Xn f l to=some keep/\Afw f l to=some keep:=by
 obtain⟨a,h1,h2⟩:=Atc hf hl hml htl;obtain⟨b,k1,k2⟩:=AmS hf hl hml htl;exact⟨a,h1,by rw[k1,ApZ k2 h2]⟩
def alS (f:Le) (t:Int):Int:=((f.Slots[t.toNat]?).map Pa.Align).getD 0
def Abr (f:Le) (l:List Int) (a0 a:Int):Prop:=a0<=a/\(∀ t∈l,alS f t<=a)/\(a=a0\/∃ t∈l,a=alS f t)
theorem Abr.unique {l l':List Int} {a0 b:Int} (h:Abr f l a0 a) (k:Abr f l' a0 b) (e:∀ t,t∈l↔t∈l'):a=b:=by
 obtain⟨h1,h2,h3⟩:=h;obtain⟨k1,k2,k3⟩:=k
 grind
theorem Abr.nil (f:Le) (a:Int):Abr f [] a a:=⟨Int.le_refl _,λt h=>(by cases h),.inl rfl⟩
theorem Abr.snoc {l:List Int} {a0:Int} (h:Abr f l a0 a) (t:Int):Abr f (l++[t]) a0 (max a (alS f t)):=by
 obtain⟨h1,h2,h3⟩:=h;refine⟨by omega,λu hu=>?_,?_⟩
 all_goals grind
def AsS (to:List Int) (s:Int) (l:List Int):Prop:=∀ t,t∈l↔∃ j:Nat,j<to.length/\t=(j:Int)/\Pd to j=s
def Aok (f:Le) (r:Pn) (used:List Int):Prop:=TC used λv=>∃ k:Nat,k<f.Code.length/\Pt r.Keep k=true/\v∈PQ (rnI r.To (OU f k))
structure Yh (f:Le) (r:Pn) (used:List Int) (out:List Pa):Prop where
 len:out.length=used.length
 at_:∀ (i:Nat) (u:Int) (y:Pa),used[i]? =some u->out[i]? =some y->∃ x l,f.Slots[u.toNat]? =some x/\y.Size=x.Size/\AsS r.To u l/\Abr f l x.Align y.Align
theorem Yh.unique {a b:List Pa} (h:Yh f r used a) (k:Yh f r used b):a=b:=by
 refine aAZ λi=>?_
 by_cases hi:i<used.length
 ·have e1:a[i]? =some (a[i]'(by have:=h.len;omega)):=aAA _
  have e2:b[i]? =some (b[i]'(by have:=k.len;omega)):=aAA _
  have hu:used[i]? =some used[i]:=aAA _;obtain⟨x,l,x1,x2,x3,x4⟩:=h.at_ i _ _ hu e1;obtain⟨x',l',y1,y2,y3,y4⟩:=k.at_ i _ _ hu e2;rw[x1]at y1;cases y1;rw[e1,e2];have ea:=x4.unique y4 λt=>(x3 t).trans (y3 t).symm
  congr 1;generalize a[i]'_=p at *;generalize b[i]'_=q at *;cases p;cases q;simp_all
 ·rw[aAJ (by have:=h.len;omega),aAJ (by have:=k.len;omega)]
def Aoa (r:Pn) (used to:List Int):Prop:=to.length=r.To.length/\∀ (s:Nat) x,to[s]? =some x->Pd r.To s∈used->0<=x/\used[x.toNat]? =some (Pd r.To s)
def Aht (r:Pn) (pl:List Int):Prop:=pl.length=r.Keep.length/\∀ j:Nat,j<r.Keep.length->pl[j]? =some (kept r.Keep j:Int)
theorem Aht.unique {a b:List Int} (h:Aht r a) (k:Aht r b):a=b:=by
 refine aAZ λj=>?_
 by_cases hj:j<r.Keep.length
 ·rw[h.2 j hj,k.2 j hj]
 ·rw[aAJ (by have:=h.1;omega),aAJ (by have:=k.1;omega)]
theorem Asx {to':List Int} (h:∀ s∈PQ x,rnS to s=rnS to' s):rnI to x=rnI to' x:=by
 simp_all[rnI,PQ,Qw]
theorem PO.inj {l:List Int} (h:PO l) {j:Nat} (hi:l[i]? =some v) (hj:l[j]? =some v):i=j:=by
 obtain⟨a1,a2⟩:=aAC.1 hi;obtain⟨b1,b2⟩:=aAC.1 hj;have hp:=aAk.1 h.1
 grind
theorem AhH {α β:Type} {f g:α->Option β}:∀ {l:List α},(∀ x∈l,f x=g x)->l.filterMap f=l.filterMap g
 | [],_=>rfl
 | a::l,h=>by
  have h0:=h a (aAP ..);have h1:=AhH (l:=l) λx hx=>h x (aAL _ hx)
  grind
theorem Arr (hf:Pv f) (hd:RO f) (hr:Wu f r) {to' pl:List Int} (hs:PO used) (hu:∀ k:Nat,k<f.Code.length->Pt r.Keep k=true->∀ v∈PQ (rnI r.To (OU f k)),v∈used) (h:Aoa r used to) (h':Aoa r used to') :
  TZ f r.Keep to pl f.Code.length=TZ f r.Keep to' pl f.Code.length:=by
 have hrl:=hr.1.1;unfold TZ;refine AhH λj hj=>?_
 have hj:=List.mem_range.1 hj
 by_cases hk:Pt r.Keep j=true
 ·have hxm:=(hf.at (j:=(j:Int)) (by omega) (by omega)).2
  rw[Asx λs hs'=>?_]
  obtain⟨h0,h1⟩:=AnA hf hd hxm hs';have hm:=hu j hj hk (rnS r.To s) ((AlS _ _ _).2 ⟨s,hs',rfl⟩);rw[(hr.1.rng h0 h1).2.2]at hm;have one:∀ {t:List Int},Aoa r used t->rnS t s=Pd t s/\0<=Pd t s/\used[(Pd t s).toNat]? =some (Pd r.To s):=fun{t} ht=>by
   have htl:=ht.1;have hg:=Qm (to:=t) (s:=s) h0 (by omega)
   have:=ht.2 s.toNat _ hg;rw[aAW h0]at this;simp_all[rnS]
  obtain⟨a1,a2,a3⟩:=one h;obtain⟨b1,b2,b3⟩:=one h';have:=hs.inj a3 b3;omega
 simp_all
def AfH (f:Le) (r:Pn) (q:Le×Int):Prop:=q.2=0/\q.1.Params=f.Params/\∃ used to pl:List Int,Aok f r used/\Yh f r used q.1.Slots/\Aoa r used to/\Aht r pl/\q.1.Code=TZ f r.Keep to pl f.Code.length
theorem AfH.unique (hf:Pv f) (hd:RO f) (hr:Wu f r) {q q':Le×Int} (h:AfH f r q) (k:AfH f r q'):q=q':=by
 obtain⟨h1,h2,used,to,pl,h3,h4,h5,h6,h7⟩:=h;obtain⟨k1,k2,used',to',pl',k3,k4,k5,k6,k7⟩:=k;have e1:used=used':=TC.eq h3 k3 λv _ _=>Iff.rfl
 subst e1;have e2:=h6.unique k6;subst e2;have hm:∀ k:Nat,k<f.Code.length->Pt r.Keep k=true->∀ v∈PQ (rnI r.To (OU f k)),v∈used:=λj hj hk v hv=>by
  have hsl:=hf.slots;have hxm:=(hf.at (j:=(j:Int)) (by omega) (by omega)).2
  have:=AeC hf hd hr.1 hxm v hv;exact(h3.2 v).2 ⟨⟨this.1,by omega⟩,j,hj,hk,hv⟩
 rw[Arr hf hd hr h3.1 hm h5 k5]at h7;obtain⟨⟨p,s,c⟩,e⟩:=q;obtain⟨⟨p',s',c'⟩,e'⟩:=q';simp only at *;rw[h1,k1,h2,k2,h7,k7,h4.unique k4]
section
variable {f:Le}
theorem ArD (hsl:f.Slots.length<=500) {x:Pa} {out:List Pa} (hi:i<=1000) {l:List Int} (hll:l.length<=1000) (ho:out.length=i) (hl:∀ t∈l,0<=t/\t<f.Slots.length) {Q:Le×Int->Prop} (hI:∀ y:Pa,y.Size=x.Size->Abr f l x.Align y.Align->Rnd I μ s0 Q (.inl (out++[y],((i+1:Nat):Int)))):Hs (Pc (λs=>AdT l f out x (i:Int) s.1 s.2) (x.Align,0)) (Rnd I μ s0 Q):=by
 refine Hs.loop (λs=>∃ k:Nat,s.2=(k:Int)/\k<=l.length/\Abr f (l.take k) x.Align s.1) (λs=>l.length-s.2.toNat) ⟨0,rfl,aAD _,by grind [Abr.nil]⟩ ?_
 rintro⟨a,_⟩ ⟨k,rfl,hk,hm⟩;refine .dec (λhlt=>?_) λhge=>.lft (.chk (by simp;omega) (.chk (by simp;omega) ?_))
 ·have hlt:k<l.length:=by omega
  have hg:l[k]? =some l[k]:=aAA _;have htk:l.take (k+1)=l.take k++[l[k]]:=by simp_all
  have ht:=hl _ (aAF hlt);generalize l[k]=t at hg htk ht;refine .chk (by omega) ?_
  rw[aAB,hg,aA];refine(Hs.ix (P:=λy=>alS f t=y.Align) ht.1 ht.2 λy hy=>by grind [alS]).bind λy hy=>?_
  rw[OZ (by omega),Aah,<- hy]
  refine .cnt ⟨⟨k+1,rfl,hlt,?_⟩,by grind⟩
  rw[htk];exact hm.snoc t
 ·have hkk:k=l.length:=by omega
  subst hkk;rw[aAQ]at hm;unfold AdU;rw[OZ (by omega)]
  exact .cnt (hI _ rfl hm)
theorem Yh.snoc {out:List Pa} (ho:out.length=i) (hi:i<=used.length) (h:Yh f r (used.take i) out) (hu:used[i]? =some u) {x y:Pa} {l:List Int} (hx:f.Slots[u.toNat]? =some x) (h1:y.Size=x.Size) (hl:AsS r.To u l) (h2:Abr f l x.Align y.Align):Yh f r (used.take (i+1)) (out++[y]):=by
 have hlt:=(aAC.1 hu).1;refine⟨by grind,λj v z hv hz=>?_⟩
 by_cases e:j<i
 ·rw[aAd (by omega)]at hz
  refine h.at_ j v z ?_ hz
  grind
 grind
theorem Avv (hf:Pv f) (hd:RO f) (hr:Wu f r):Hs (Afx f r) λl=>Aok f r l/\PF f.Slots.length l:=by
 have hlen:=hf.len';have hsl:=hf.slots;have hkl:=hr.2.1;refine Hs.loop (λs=>∃ k:Nat,s.2=(k:Int)/\k<=f.Code.length/\PF f.Slots.length s.1/\∀ v,v∈s.1↔∃ j:Nat,j<k/\Pt r.Keep j=true/\v∈PQ (rnI r.To (OU f j))) (λs=>f.Code.length-s.2.toNat) ⟨0,rfl,aAD _,PF.nil _,λv=>⟨λh=>(by cases h),λ⟨j,hj,_⟩=>absurd hj (aAG _)⟩⟩ ?_
 rintro⟨l,_⟩ ⟨k,rfl,hk,hs,hj⟩;replace hs:PF f.Slots.length l:=hs;have split:∀ v,(∃ j:Nat,j<k+1/\Pt r.Keep j=true/\v∈PQ (rnI r.To (OU f j)))↔v∈l\/(Pt r.Keep k=true/\v∈PQ (rnI r.To (OU f k))):=λv=>by
  grind
 refine .dec (λhlt=>.dec (λ_=>?_) λh=>?_) λhge=>.lft (.pure ⟨⟨hs.1,λv=>?_⟩,hs⟩)
 ·have hlt:k<f.Code.length:=by omega
  have hx:=hf.at (j:=(k:Int)) (by omega) (by omega)
  rw[aAB]at hx;have hg:r.Keep[k]? =some (Pt r.Keep k):=by grind [Pt]
  have hnr:=AeC hf hd hr.1 hx.2;unfold AeX;simp only[Pp,hg,hx.1,aA,Aps,Aot,Aky,OZ (show k<9223372036854775807 by omega)]
  refine .cond (λh=>.cnt ⟨⟨k+1,rfl,hlt,hs,λv=>?_⟩,by grind⟩) λh=>?_
  ·simp_all
  ·have hkt:Pt r.Keep k=true:=by simp_all
   obtain⟨y,hy⟩:∃ y,y=rnI r.To (OU f k):=⟨_,rfl⟩;rw[<- hy]at hnr ⊢;have hul:(Qw y).length<=1:=by grind [Qw]
   have hll:=hs.1.length_le;rw[union_eq _ _ (by omega),aA]
   obtain⟨u1,u2⟩:=UM (n:=f.Slots.length) (by omega) (b:=Qw y) (a:=l) hs (λx hx=>hnr x (by grind [PQ]))
   by_cases hdy:y.Op=16\/y.Op=17
   ·simp only[AgZ,if_pos hdy,cond_true];have hA:=hnr y.A (by simp_all[PQ])
    obtain⟨a1,a2⟩:=PF.add (n:=f.Slots.length) u1 hA (by omega)
    have a3:=(PF.Aon u1 hA (by omega)).2.2
    rw[a2,aA];refine .cnt ⟨⟨k+1,rfl,hlt,a1,λv=>?_⟩,by grind⟩
    show v∈UZ y.A (Re l (Qw y))↔_;rw[split v,a3,u2,<- hy];unfold PQ
    grind
   ·simp only[AgZ,if_neg hdy,cond_false];refine .cnt ⟨⟨k+1,rfl,hlt,u1,λv=>?_⟩,by grind⟩
    simp_all[PQ]
 ·omega
 ·have hkk:k=f.Code.length:=by omega
  subst hkk;constructor
  ·intro h;have:=hs.2 v h;exact⟨⟨(hs.1.2 v h).1,by omega⟩,(hj v).1 h⟩
  simp_all
theorem Aty (hf:Pv f) (hd:RO f) (hr:Wu f r):Hs (UP f r) (AfH f r):=by
 have hlen:=hf.len';have hsl:=hf.slots;have hkl:=hr.2.1;have htl:=hr.1.1;refine(Aln hf r).bind λe he=>.bne (λh=>(h (he.2.2 hr)).elim) λ_=>?_
 refine(Avv hf hd hr).bind λused ⟨hu0,hu1⟩=>?_
 have hul:=hu1.1.length_le;refine Hs.loop (λs=>∃ i:Nat,s.2=(i:Int)/\i<=used.length/\s.1.length=i/\Yh f r (used.take i) s.1) (λs=>used.length-s.2.toNat) ⟨0,rfl,aAD _,rfl,rfl,λj u y hj=>by simp at hj⟩ ?_
 rintro⟨out,_⟩ ⟨i,rfl,hi,ho,hsa⟩;refine .dec (λhlt=>?_) λhge=>.lft ?_
 ·have hlt:i<used.length:=by omega
  have hgx:used[i]? =some used[i]:=aAA _;have hxm:=aAF hlt;generalize used[i]=u at hgx hxm;have h0:=(hu1.1.2 u hxm).1;have h1:=hu1.2 u hxm;refine .chk (by omega) ?_
  simp only[aAB,hgx,aA];refine(Hs.ix (P:=λx=>f.Slots[u.toNat]? =some x) h0 h1 λx hx=>hx).bind λx hfx=>.chk (by omega) ?_
  refine(AfE (by omega) u).bind λl hm=>?_
  refine ArD hsl (by omega) (l:=l) (by omega) ho (λt ht=>?_) λy hy1 hy2=>⟨⟨i+1,rfl,hlt,by simp[ho],hsa.snoc ho (by omega) hgx hfx hy1 hm.2 hy2⟩,by grind⟩
  grind
 have hii:i=used.length:=by omega
 subst hii;rw[aAQ]at hsa;refine(Amy (by omega) hul).bind λto ⟨n1,n2⟩=>(AnC r (by omega)).bind λpl ⟨p1,p2⟩=>?_
 refine(Aom hf hkl to pl p1 out).mono λq hq=>?_
 subst hq;exact⟨rfl,rfl,used,to,pl,hu0,hsa,⟨n1,λs x hs hm=>⟨(n2 s x hs).1,(n2 s x hs).2 hm⟩⟩,⟨p1,p2⟩,rfl⟩
end
open Go Go.Dw Go.Proofs
theorem AtI (f:Le) (to:List Int) (hsl:f.Slots.length<=500):Hs (Xk f to) λb=>b=true↔AfK f to:=by
 unfold Xk;refine .bne (λh=>.pure ⟨λh'=>(by cases h'),λh'=>(h (by rw[h'.1])).elim⟩) λh=>?_
 have hl:to.length=f.Slots.length:=by omega
 refine Hs.loop (λi=>∃ k:Nat,i=(k:Int)/\k<=to.length/\∀ s:Nat,s<k->0<=Pd to s/\Pd to s<to.length/\Se f (Pd to s)=Se f s/\Pd to (Pd to s)=Pd to s) (λi=>to.length-i.toNat) ⟨0,rfl,aAD _,λs hs=>absurd hs (aAG _)⟩ ?_
 rintro _ ⟨k,rfl,hk,hall⟩;unfold WU;refine .dec (λhlt=>?_) λhge=>.lft (.pure ⟨λ_=>⟨hl,λs hs=>hall s (by omega)⟩,λ_=>rfl⟩)
 have hlt:k<to.length:=by omega
 have hg:to[k]? =some (Pd to k):=by have:=Qm (to:=to) (s:=k) (by omega) (by omega);simp_all
 rw[Pp,hg,aA];have no:∀ {p:Prop},¬ p->(AfK f to->p)->Hs (lft (some false):Option (Int⊕Bool)) (Rnd (λi=>∃ k:Nat,i=(k:Int)/\k<=to.length/\∀ s:Nat,s<k->0<=Pd to s/\Pd to s<to.length/\Se f (Pd to s)=Se f s/\Pd to (Pd to s)=Pd to s) (λi=>to.length-i.toNat) (k:Int) λb=>b=true↔AfK f to) :=
  λhp hq=>.lft (.pure ⟨λh=>(by cases h),λh=>(hp (hq h)).elim⟩)
 refine .dec (λh0=>no (p:=0<=Pd to k) (by omega) λh=>(h.2 k hlt).1) λh0=>?_
 refine .dec (λh1=>no (p:=Pd to k<to.length) (by omega) λh=>(h.2 k hlt).2.1) λh1=>?_
 refine Hs.bind (Hs.ix (i:=Pd to k) (P:=λx=>x.Size=Se f (Pd to k)) (by omega) (by omega) λx hx=>Afz hx) λa ha=>?_
 refine Hs.bind (Hs.ix (i:=(k:Int)) (P:=λx=>x.Size=Se f k) (by omega) (by omega) λx hx=>Afz hx) λb hb=>?_
 rw[ha,hb];refine .bne (λh2=>no h2 λh=>(h.2 k hlt).2.2.1) λh2=>?_
 rw[QG _ (by omega),Qm (by omega) (by omega),aA]
 refine .bne (λh3=>no h3 λh=>(h.2 k hlt).2.2.2) λh3=>?_
 rw[OZ (by omega)]
 refine .cnt ⟨⟨k+1,rfl,hlt,λs hs=>?_⟩,by grind⟩
 grind
theorem Ary (hf:Pv f) (r:Pn):Hs (Abl f r) λe=>(e=0\/e=12)/\(e=0↔Wu f r):=by
 have hlen:=hf.len';refine(AtI f r.To hf.slots).bind λb hb=>.cond (λh=>.pure ⟨.inr rfl,λh=>by omega,λh'=>?_⟩) λh=>?_
 ·rw[hb.2 h'.1]at h;cases h
 have hv:AfK f r.To:=hb.1 (by simp_all)
 refine .bne (λh=>.pure ⟨.inr rfl,λh=>by omega,λh'=>(h (by rw[h'.2.1])).elim⟩) λh=>?_
 have hkl:r.Keep.length=f.Code.length:=by omega
 refine Hs.loop (λi=>∃ k:Nat,i=(k:Int)/\k<=f.Code.length/\∀ j:Nat,j<k->Pt r.Keep j=false->(OU f j).Op=16\/(OU f j).Op=17) (λi=>f.Code.length-i.toNat) ⟨0,rfl,aAD _,λs hs=>absurd hs (aAG _)⟩ ?_
 rintro _ ⟨k,rfl,hk,hall⟩;refine .dec (λhlt=>?_) λhge=>.lft (.pure ⟨.inl rfl,λ_=>⟨hv,hkl,λj hj=>hall j (by omega)⟩,λ_=>rfl⟩)
 have hlt:k<f.Code.length:=by omega
 have hx:=hf.at (j:=(k:Int)) (by omega) (by omega)
 rw[aAB]at hx;have hg:r.Keep[k]? =some (Pt r.Keep k):=by grind [Pt]
 have stp:(Pt r.Keep k=false->(OU f k).Op=16\/(OU f k).Op=17)->∀ j:Nat,j<k+1->Pt r.Keep j=false->(OU f j).Op=16\/(OU f j).Op=17:=by
  grind
 simp only[Pp,hx.1,hg,aA];rw[OZ (by omega)]
 refine .cond (λh=>?_) λh=>.cnt ⟨⟨k+1,rfl,hlt,stp λh'=>by simp_all⟩,by grind⟩
 have hkf:Pt r.Keep k=false:=by simp_all
 unfold XX;rw[AfC,aA,aA]
 by_cases hd:(OU f k).Op=16\/(OU f k).Op=17
 ·rw[if_pos hd];exact .cnt ⟨⟨k+1,rfl,hlt,stp λ_=>hd⟩,by grind⟩
 ·rw[if_neg hd];exact .lft (.pure ⟨.inr rfl,λh=>by omega,λh=>(hd (h.2.2 k hlt hkf)).elim⟩)
attribute [local simp] PL aAH
def Agc (v:Int):Nat->List Int->Int
 | _,[]=>-1
 | a,x::r=>if v=x then a else Agc v (a+1) r
theorem Alj (v:Int):∀ (a:Nat) (s:List Int),0<=Agc v a s↔v∈s
 | a,[]=>by simp[Agc]
 | a,x::r=>by
  simp only[Agc];split
  ·simp_all
  ·rename_i h;rw[Alj v (a+1) r];simp[h]
theorem AoV (s:List Int) (v:Int) (hs:s.length<=9223372036854775807):Sd s v=some (Agc v 0 s):=by
 unfold Sd;refine QV s (λ(_:Nat) i=>i) (λa i=>a=i) (λa l=>some (Agc v a l)) (λ_ _=>⟨-1,by simp[Sf],by simp[Agc]⟩) (λa i x r ha hd hi hx=>?_) 0 rfl
 subst ha;have w:=OZ (show a<9223372036854775807 by omega)
 obtain⟨_,rfl⟩:=aAC.1 hx
 by_cases h:v=s[a]
 all_goals simp_all[Sf,Agc]
theorem AoU (v:Int):∀ (a:Nat) (s:List Int),v∈s->∃ i:Nat,Agc v a s=((a+i:Nat):Int)/\s[i]? =some v
 | a,[],h=>by cases h
 | a,x::r,h=>by
  simp only[Agc]
  by_cases e:v=x
  ·rw[if_pos e];exact⟨0,rfl,by rw[e];rfl⟩
  ·obtain⟨i,h1,h2⟩:=AoU v (a+1) r ((aAa.1 h).resolve_left e);exact⟨i+1,by omega,by simp_all⟩
theorem AuE (to:List Int) (s:Int):Rg s to=some (rnS to s):=by
 unfold Rg rnS
 by_cases h0:s<0
 ·grind
 ·rw[decide_eq_false h0,cond_false]
  by_cases h1:s>=(to.length:Int)
  ·grind
  ·rw[decide_eq_false h1,cond_false,if_pos (by omega),QG _ (by omega),Qm (by omega) (by omega)]
   rfl
theorem AuD (x:Lo) (to:List Int):Xp x to=some (rnI to x):=by
 unfold Xp rnI;simp only[AuE,aA]
 grind
def Vy (f:Le) (keep:List Bool) (to:List Int) (k:Nat):List Lo:=(aAf k).filterMap λj=>if Pt keep j=true then some (rnI to (OU f (j:Nat)))else none
theorem Arn (f:Le) (keep:List Bool) (to:List Int) (k:Nat):Vy f keep to (k+1)=Vy f keep to k++(if Pt keep k=true then[rnI to (OU f (k:Nat))]else[]):=by
 grind [Vy,aAc]
theorem AjY (f:Le) (keep:List Bool) (to:List Int) (k:Nat):(Vy f keep to k).length<=k:=by
 grind [Vy]
theorem Asl (f:Le) (keep:List Bool) (to pl:List Int) (k:Nat):TZ f keep to pl k=(Vy f keep to k).map (mvI pl):=by
 unfold TZ Vy;rw[List.map_filterMap];simp_all
section
variable {f:Le}
theorem AoI (hf:Pv f) (hkl:r.Keep.length=f.Code.length) (to:List Int):XH f r to=some (Vy f r.Keep to f.Code.length):=by
 have hlen:=hf.len';have key:Hs (XH f r to) λl=>l=Vy f r.Keep to f.Code.length:=by
  refine Hs.loop (λs=>∃ k:Nat,s.2=(k:Int)/\k<=f.Code.length/\s.1=Vy f r.Keep to k) (λs=>f.Code.length-s.2.toNat) ⟨0,rfl,aAD _,rfl⟩ ?_
  rintro⟨_,_⟩ ⟨k,rfl,hk,rfl⟩;refine .dec (λhlt=>?_) λhge=>.lft (.pure ?_)
  ·have hlt:k<f.Code.length:=by omega
   have hx:=hf.at (j:=(k:Int)) (by omega) (by omega)
   rw[aAB]at hx;have hg:r.Keep[k]? =some (Pt r.Keep k):=by grind [Pt]
   have hs:=Arn f r.Keep to k;have hl:=AjY f r.Keep to k;simp only[Pp,hx.1,aA];refine .dec (λ_=>?_) λh=>by omega
   rw[hg,aA];unfold Wp;rw[AuD,OZ (by omega)]
   refine .cond (λh=>?_) λh=>?_
   ·rw[if_pos h]at hs;exact .chk (by simp;omega) (.cnt ⟨⟨k+1,rfl,hlt,hs.symm⟩,by grind⟩)
   ·rw[if_neg (by simp_all),aAm]at hs
    exact .cnt ⟨⟨k+1,rfl,hlt,hs.symm⟩,by grind⟩
  ·have hkk:k=f.Code.length:=by omega
   subst hkk;rfl
 obtain⟨l,h,rfl⟩:=key;exact h
theorem AlN {keep:List Bool}:x∈Vy f keep to k↔∃ j:Nat,j<k/\Pt keep j=true/\x=rnI to (OU f j):=by
 unfold Vy
 grind
theorem AuF (hf:Pv f) (hd:RO f) (hr:Wu f r):Hs (ZS f r) λl=>Aok f r l/\PF f.Slots.length l:=by
 have hlen:=hf.len';have hkl:=hr.2.1;unfold ZS;rw[AoI hf hkl,aA];have hK:=AjY f r.Keep r.To f.Code.length;have hin:∀ x∈Vy f r.Keep r.To f.Code.length,∀ v∈PQ x,0<=v/\v<f.Slots.length:=λx hx v hv=>by
  obtain⟨j,hj,_,rfl⟩:=AlN.1 hx;exact AeC hf hd hr.1 (hf.at (j:=(j:Int)) (by omega) (by omega)).2 v hv
 generalize hKe:Vy f r.Keep r.To f.Code.length=K at hK hin;have nm:∀ x:Lo,(PQ x).length<=2:=λx=>by
  grind [PQ,Qw]
 refine Hs.loop (λs=>∃ k:Nat,s.2=(k:Int)/\k<=K.length/\s.1.length<=2*k/\s.1=(K.take k).flatMap PQ) (λs=>K.length-s.2.toNat) ⟨0,rfl,aAD _,aAY _,by simp⟩ ?_
 rintro⟨l,_⟩ ⟨k,rfl,hk,hll,hl⟩;replace hll:l.length<=2*k:=hll;replace hl:l=(K.take k).flatMap PQ:=hl;refine .dec (λhlt=>?_) λhge=>.lft ?_
 ·have hlt:k<K.length:=by omega
  have hg:K[k]? =some K[k]:=aAA _;have htk:K.take (k+1)=K.take k++[K[k]]:=by simp_all
  generalize K[k]=x at hg htk;have hu:=AqD x;have hn:=nm x;have step:(K.take (k+1)).flatMap PQ=l++PQ x:=by simp_all
  refine .chk (by omega) ?_
  simp only[aAB,hg,aA,AoJ,AfC,OZ (show k<9223372036854775807 by omega)]
  refine .chk (by omega) ?_
  by_cases hdy:x.Op=16\/x.Op=17
  ·rw[if_pos hdy];simp only[cond_true];have e:PQ x=Qw x++[x.A]:=by simp_all[PQ]
   rw[e]at step hn;refine .chk (by simp;omega) (.cnt ⟨⟨k+1,rfl,hlt,?_,?_⟩,by grind⟩)
   all_goals grind
  ·rw[if_neg hdy];have e:PQ x=Qw x:=by simp_all[PQ]
   rw[e]at step;refine .cnt ⟨⟨k+1,rfl,hlt,?_,step.symm⟩,by grind⟩
   simp;omega
 ·have hkk:k=K.length:=by omega
  subst hkk;rw[aAQ]at hl;refine(Aov l (by omega)).bind λq hq=>.pure ?_
  have hm:∀ v,v∈l↔∃ j:Nat,j<f.Code.length/\Pt r.Keep j=true/\v∈PQ (rnI r.To (OU f j)):=λv=>by
   rw[hl,List.mem_flatMap,<- hKe]
   grind [AlN]
  refine⟨hq.mono λv _ _=>hm v,hq.1,λv hv=>?_⟩
  have:=((hq.2 v).1 hv).2
  grind
theorem Atu (hl:to.length<=500) (s:Int):Hs (XS to s) λl=>l.length<=to.length/\AsS to s l:=by
 refine Hs.loop (λz=>∃ k:Nat,z.2=(k:Int)/\k<=to.length/\z.1.length<=k/\∀ t,t∈z.1↔∃ j:Nat,j<k/\t=(j:Int)/\Pd to j=s) (λz=>to.length-z.2.toNat) ⟨0,rfl,aAD _,aAY _,λt=>⟨λh=>(by cases h),λ⟨j,h,_⟩=>absurd h (aAG _)⟩⟩ ?_
 rintro⟨l,_⟩ ⟨k,rfl,hk,hll,hm⟩;replace hll:l.length<=k:=hll;refine .dec (λhlt=>?_) λhge=>.lft (.pure ?_)
 ·have hlt:k<to.length:=by omega
  have hg:=Qm (to:=to) (s:=(k:Int)) (by omega) (by omega)
  rw[aAB]at hg;simp only[Pp,hg,aA];rw[OZ (by omega)]
  refine .beq (λh=>.chk (by simp;omega) (.cnt ⟨⟨k+1,rfl,hlt,by simp;omega,λt=>?_⟩,by grind⟩)) λh=>.cnt ⟨⟨k+1,rfl,hlt,by grind,λt=>?_⟩,by grind⟩
  all_goals grind
 ·have hk:k=to.length:=by omega
  subst hk;exact⟨hll,hm⟩
theorem Aso (r:Pn) (hl:r.Keep.length<=1000000):Hs (Aan r) (Aht r):=by
 refine Hs.loop (λs=>∃ k:Nat,s.2.1=(k:Int)/\k<=r.Keep.length/\s.2.2=(kept r.Keep k:Int)/\s.1.length=k/\∀ j:Nat,j<k->s.1[j]? =some (kept r.Keep j:Int)) (λs=>r.Keep.length-s.2.1.toNat) ⟨0,rfl,aAD _,rfl,rfl,λj hj=>absurd hj (aAG _)⟩ ?_
 rintro⟨l,_,n⟩ ⟨k,rfl,hk,hn,hll,hj⟩;subst hn;replace hll:l.length=k:=hll;refine .dec (λhlt=>?_) λhge=>.lft (.pure ?_)
 ·have hlt:k<r.Keep.length:=by simp_all
  have hg:r.Keep[k]? =some r.Keep[k]:=aAA _;generalize r.Keep[k]=b at hg;have hkl:=Akx r.Keep k;have hks:=ZC hg;have hap:∀ j:Nat,j<k+1->(l++[(kept r.Keep k:Int)])[j]? =some (kept r.Keep j:Int):=by
   grind
  simp only[Pp,hg,aA];refine .chk (by simp;omega) ?_
  rw[OZ (show k<9223372036854775807 by omega),OZ (show kept r.Keep k<9223372036854775807 by omega)]
  refine .cond (λh=>?_) λh=>?_
  ·subst h;exact .cnt ⟨⟨k+1,rfl,hlt,by simp_all,by simp[hll],hap⟩,by grind⟩
  ·subst h;exact .cnt ⟨⟨k+1,rfl,hlt,by simp_all,by simp[hll],hap⟩,by grind⟩
 ·have hkk:k=r.Keep.length:=by grind
  subst hkk;exact⟨hll,hj⟩
theorem Att (hf:Pv f) (hkl:r.Keep.length=f.Code.length) (to pl:List Int) (hpl:pl.length=r.Keep.length) (sl:List Pa) :
  Hs (Pc (λs=>Yg (Vy f r.Keep to f.Code.length) pl f sl s.1 s.2) (Vy f r.Keep to f.Code.length,0)) λq=>q=(⟨f.Params,sl,TZ f r.Keep to pl f.Code.length⟩,0):=by
 have hlen:=hf.len';have hK:=AjY f r.Keep to f.Code.length;have hin:∀ x∈Vy f r.Keep to f.Code.length,(x.Op=20->0<=x.A/\x.A<f.Code.length)/\(x.Op=21->0<=x.B/\x.B<f.Code.length):=λx hx=>by
  grind [AlN,AiW,Agq,AeE]
 rw[Asl];generalize Vy f r.Keep to f.Code.length=K at hK hin;refine Hs.loop (λs=>∃ k:Nat,s.2=(k:Int)/\k<=K.length/\s.1=(K.take k).map (mvI pl)++K.drop k) (λs=>K.length-s.2.toNat) ⟨0,rfl,aAD _,by simp⟩ ?_
 rintro⟨_,_⟩ ⟨k,rfl,hk,rfl⟩;refine .dec (λhlt=>?_) λhge=>.lft (.pure ?_)
 ·have hlt:k<K.length:=by omega
  have hg:K[k]? =some K[k]:=aAA _;have htk:K.take (k+1)=K.take k++[K[k]]:=by simp_all
  have hdk:K.drop k=K[k]::K.drop (k+1):=aAV hlt;have hxm:=aAF hlt;generalize K[k]=x at hg htk hdk hxm;have hml:((K.take k).map (mvI pl)).length=k:=by simp;omega
  obtain⟨x1,x2⟩:=hin x hxm;have at_:((K.take k).map (mvI pl)++K.drop k)[k]? =some x:=by
   simp_all
  have fin:∀ y,y=mvI pl x->((K.take k).map (mvI pl)++K.drop k).set k y=(K.take (k+1)).map (mvI pl)++K.drop (k+1):=λy hy=>by
   simp_all
  refine .chk (by simp;omega) ?_
  simp only[aAB,at_,aA,OZ (show k<9223372036854775807 by omega)]
  refine .beq (λh=>?_) λh=>.beq (λh'=>?_) λh'=>.cnt ⟨⟨k+1,rfl,hlt,?_⟩,by simp only;omega⟩
  ·have t:=x1 h;refine .chk (by omega) ((Hs.get t.1 (by omega) λz hz=>hz).bind λz hz=>.cnt ⟨⟨k+1,rfl,hlt,fin _ ?_⟩,by simp only;omega⟩)
   simp_all[mvI]
  ·have t:=x2 h';refine .chk (by omega) ((Hs.get t.1 (by omega) λz hz=>hz).bind λz hz=>.cnt ⟨⟨k+1,rfl,hlt,fin _ ?_⟩,by simp only;omega⟩)
   simp_all[mvI]
  ·have:=fin x (by simp_all[mvI])
   grind
 ·have hkk:k=K.length:=by omega
  subst hkk;show((⟨f.Params,sl,_⟩:Le),(0:Int))=_;simp_all
theorem Ats (hf:Pv f) (hd:RO f) (hr:Wu f r):Hs (Yl f r) (AfH f r):=by
 have hlen:=hf.len';have hsl:=hf.slots;have hkl:=hr.2.1;have htl:=hr.1.1;refine(Ary hf r).bind λe he=>.bne (λh=>(h (he.2.2 hr)).elim) λ_=>?_
 refine(AuF hf hd hr).bind λused ⟨hu0,hu1⟩=>?_
 have hul:=hu1.1.length_le;refine Hs.loop (λs=>∃ i:Nat,s.2=(i:Int)/\i<=used.length/\s.1.length=i/\Yh f r (used.take i) s.1) (λs=>used.length-s.2.toNat) ⟨0,rfl,aAD _,rfl,rfl,λj u y hj=>by simp at hj⟩ ?_
 rintro⟨out,_⟩ ⟨i,rfl,hi,ho,hsa⟩;replace ho:out.length=i:=ho;refine .dec (λhlt=>?_) λhge=>.lft ?_
 ·have hlt:i<used.length:=by omega
  have hgx:used[i]? =some used[i]:=aAA _;have hxm:=aAF hlt;generalize used[i]=u at hgx hxm;have h0:=(hu1.1.2 u hxm).1;have h1:=hu1.2 u hxm;refine .chk (by omega) ?_
  simp only[aAB,hgx,aA];refine(Hs.ix (P:=λx=>f.Slots[u.toNat]? =some x) h0 h1 λx hx=>hx).bind λx hfx=>?_
  refine(Atu (by omega) u).bind λl ⟨hll,hm⟩=>?_
  have hl:∀ t∈l,0<=t/\t<f.Slots.length:=λt ht=>by
   obtain⟨j,q1,rfl,_⟩:=(hm t).1 ht;omega
  refine Hs.loop (λs=>∃ k:Nat,s.2=(k:Int)/\k<=l.length/\Abr f (l.take k) x.Align s.1) (λs=>l.length-s.2.toNat) ⟨0,rfl,aAD _,by grind [Abr.nil]⟩ ?_
  rintro⟨a,_⟩ ⟨k,rfl,hk,hx⟩;refine .dec (λhlt2=>?_) λhge2=>.lft (.chk (by simp;omega) ?_)
  ·have hlt2:k<l.length:=by omega
   have hg:l[k]? =some l[k]:=aAA _;have htk:l.take (k+1)=l.take k++[l[k]]:=by simp_all
   have ht:=hl _ (aAF hlt2);generalize l[k]=t at hg htk ht;refine .chk (by omega) ?_
   rw[aAB,hg,aA];refine(Hs.ix (P:=λy=>alS f t=y.Align) ht.1 ht.2 λy hy=>by grind [alS]).bind λy hy=>?_
   rw[OZ (by omega),Aah,<- hy]
   refine .cnt ⟨⟨k+1,rfl,hlt2,?_⟩,by grind⟩
   rw[htk];exact hx.snoc t
  ·have hkk:k=l.length:=by omega
   subst hkk;rw[aAQ]at hx;rw[OZ (by omega)]
   exact .cnt ⟨⟨i+1,rfl,hlt,by simp[ho],hsa.snoc ho (by omega) hgx hfx rfl hm hx⟩,by grind⟩
 have hii:i=used.length:=by omega
 subst hii;rw[aAQ]at hsa;unfold Ajz Yi;rw[PL (by omega),aA]
 refine Hs.loop (λs=>∃ k:Nat,s.2=(k:Int)/\k<=r.To.length/\s.1.length=r.To.length/\(∀ (j:Nat) x,j<k->s.1[j]? =some x->Pd r.To j∈used->0<=x/\used[x.toNat]? =some (Pd r.To j))/\∀ j:Nat,k<=j->s.1[j]? =r.To[j]?) (λs=>r.To.length-s.2.toNat) ⟨0,rfl,aAD _,rfl,λj x hj=>absurd hj (aAG _),λj _=>rfl⟩ ?_
 rintro⟨to,_⟩ ⟨k,rfl,hk,h1,h2,h3⟩;replace h1:to.length=r.To.length:=h1;refine .dec (λhlt=>?_) λhge=>.lft ?_
 ·have hlt:k<r.To.length:=by omega
  have hg:=Qm (to:=r.To) (s:=(k:Int)) (by omega) (by omega)
  rw[aAB,<- h3 k (aAY _)]at hg;refine .chk (by simp_all) ?_
  rw[aAB,hg,aA,AoV _ _ (by omega),aA]
  refine .chk (by simp_all) ?_
  rw[aA,OZ (by omega)]
  refine .cnt ⟨⟨k+1,rfl,hlt,by simp[h1],λj x hj hx hm=>?_,λj hj=>?_⟩,by simp only;omega⟩
  ·have hx:(to.set k (Agc (Pd r.To k) 0 used))[j]? =some x:=hx
   by_cases e:j=k
   ·subst e;rw[aAN (by omega)]at hx
    cases hx;obtain⟨q,q1,q2⟩:=AoU _ 0 _ hm;simp_all
   ·rw[aAM (λh=>e h.symm)]at hx
    exact h2 j x (by omega) hx hm
  grind
 ·have hkk:k=r.To.length:=by omega
  subst hkk;refine(Aso r (by omega)).bind λpl hp=>?_
  rw[AoI hf hkl,aA];refine(Att hf hkl to pl hp.1 out).mono λq hq=>?_
  subst hq;exact⟨rfl,rfl,used,to,pl,hu0,hsa,⟨h1,λs x hs hm=>h2 s x (by grind) hs hm⟩,hp,rfl⟩
theorem AqJ (hf:Pv f) (hd:RO f) (hr:Wu f r):∃ q,Yl f r=some q/\UP f r=some q/\AfH f r q:=by
 obtain⟨q,h1,h2⟩:=Ats hf hd hr;obtain⟨q',k1,k2⟩:=Aty hf hd hr;exact⟨q,h1,by rw[k1,k2.unique hf hd hr h2],h2⟩
end
end Go.Proofs.YtilmapojncgflaaGreatDoor
namespace Go.Dw
variable {s:Nat} {y:Int}
structure RG (u to:List Int):Prop where
 len:u.length=to.length
 up:∀ (s:Nat) (x y:Int),u[s]? =some x->to[s]? =some y->0<=x/\x<=s/\0<=y/\y<=s/\to[x.toNat]? =some y/\to[y.toNat]? =some y/\(x=s↔y=s)
section
variable {u to:List Int}
theorem RG.get (h:RG u to) (hs:s<u.length):∃ x y,u[s]? =some x/\to[s]? =some y/\0<=x/\x<=s/\0<=y/\y<=s/\to[x.toNat]? =some y/\to[y.toNat]? =some y/\(x=s↔y=s):=by
 have e1:u[s]? =some (u[s]'hs):=aAA hs;have e2:to[s]? =some (to[s]'(by have:=h.len;omega)):=aAA _
 exact⟨_,_,e1,e2,h.up s _ _ e1 e2⟩
theorem RG.half (h:RG u to) {x z:Int} (h1:u[s]? =some x) (hne:x≠s) (h2:u[x.toNat]? =some z):RG (u.set s z) to:=by
 refine⟨by rw[aAn];exact h.len,λt a y ha hy=>?_⟩
 by_cases hts:t=s
 ·subst hts;have hl:t<u.length:=(aAC.1 h1).1;rw[aAN hl]at ha;cases ha;obtain⟨g1,g2,g3,g4,g5,g6,g7⟩:=h.up t x y h1 hy;obtain⟨k1,k2,k3,k4,k5,k6,k7⟩:=h.up x.toNat z y h2 g5
  grind
 ·rw[aAM (Ne.symm hts)]at ha;exact h.up t a y ha hy
def WZ (to:List Int) (a b:Int):List Int:=to.map λy=>if y=a\/y=b then min a b else y
theorem AgF {a b:Int} (h:to[s]? =some y):(WZ to a b)[s]? =some (if y=a\/y=b then min a b else y):=by
 grind [WZ]
theorem Atl {a b:Int} (h:(WZ to a b)[s]? =some y):∃ z,to[s]? =some z/\y=if z=a\/z=b then min a b else z:=by
 grind [WZ]
theorem RG.join (h:RG u to) {a b:Nat} (ha:to[a]? =some (a:Int)) (hb:to[b]? =some (b:Int)) (hne:a≠b):RG (u.set (max a b) ((min a b:Nat):Int)) (WZ to a b):=by
 have hla:a<u.length:=by rw[h.len];grind
 have hlb:b<u.length:=by rw[h.len];grind
 have em:(min (a:Int) (b:Int))=((min a b:Nat):Int):=by omega
 have hm:(WZ to a b)[min a b]? =some ((min a b:Nat):Int):=by
  rcases Nat.le_total a b with hab|hab
  all_goals simp_all[AgF]
 refine⟨by rw[aAn];unfold WZ;rw[List.length_map];exact h.len,λt x y hx hy=>?_⟩
 obtain⟨z,hz,rfl⟩:=Atl hy
 by_cases htm:t=max a b
 ·grind
 ·rw[aAM (Ne.symm htm)]at hx;obtain⟨g1,g2,g3,g4,g5,g6,g7⟩:=h.up t x z hx hz;have k5:=AgF (a:=a) (b:=b) g5
  by_cases hzz:z=a\/z=b
  ·grind
  simp_all[AgF]
theorem RG.AqA (n:Nat):RG ((aAf n).map λi:Nat=>(i:Int)) ((aAf n).map λi:Nat=>(i:Int)):=by
 refine⟨rfl,λs x y hx hy=>?_⟩
 grind
end
theorem AoM {to:List Int}:∀ (k:Nat) {u:List Int} {s:Nat} {y:Int},RG u to->to[s]? =some y->s<k->∃ u',findF k u s=some (u',y)/\RG u' to
 | 0,_,_,_,_,_,h=>absurd h (aAG _)
 | k+1,u,s,y,hR,hy,hk=>by
  have hs:s<u.length:=by rw[hR.len];grind
  obtain⟨x,y',e1,e2,g1,g2,g3,g4,g5,g6,g7⟩:=hR.get hs;rw[hy]at e2;cases e2;simp only[findF,e1,aA]
  by_cases hx:x=(s:Int)
  ·simp_all
  ·rw[if_neg hx,if_pos ⟨g1,by omega⟩]
   obtain⟨z,y2,e3,e4,k1,k2,k3,k4,k5,k6,k7⟩:=hR.get (s:=x.toNat) (by omega)
   rw[g5]at e4;cases e4;rw[e3,aA,if_pos ⟨k1,by omega⟩]
   exact AoM k (hR.half e1 hx e3) k5 (by omega)
theorem ArQ {u to:List Int} (hR:RG u to) {s:Int} (h0:0<=s) (hy:to[s.toNat]? =some y):∃ u',Vx u s=some (u',y)/\RG u' to:=by
 simp_all[Vx,AoM]
end Go.Dw
namespace Go.Proofs.YtilmapojncgflaaGreatDoor
open Go Go.Dw Go.Proofs
variable {k:Nat} {m:List (Int×Bool)} {l:List (List Int)} {f:Le} {w s:List Int}
def Agx (k:Nat) (l:List (List Int)) (j:Int):List (List Int):=l.set j.toNat ((l[j.toNat]?).getD []++[(k:Int)])
def Aeo (k:Nat) (l:List (List Int)) (nx:List Int):List (List Int):=nx.foldl (Agx k) l
def Ads (f:Le):Nat->List (List Int)
 | 0=>aAe f.Code.length []
 | k+1=>Aeo k (Ads f k) (PU (VX f k) k)
theorem Aoy (k:Nat) (l:List (List Int)) (j:Int):(Agx k l j).length=l.length:=by simp[Agx]
theorem AeI (k:Nat):∀ (nx:List Int) (l:List (List Int)),(Aeo k l nx).length=l.length
 | [],_=>rfl
 | j::nx,l=>(AeI k nx _).trans (Aoy k l j)
theorem ApU {m:Nat} (h:∀ q∈l,q.length<=m) (j:Int):∀ q∈Agx k l j,q.length<=m+1:=by
 intro q hq;rcases aAS hq with hq|hq
 all_goals grind
theorem AfO {k:Nat}:∀ (nx:List Int) (m:Nat) (l:List (List Int)),(∀ q∈l,q.length<=m)->∀ q∈Aeo k l nx,q.length<=m+nx.length
 | [],m,l,h=>h
 | j::nx,m,l,h=>λq hq=>by
  have:=AfO nx (m+1) _ (ApU h j) q hq
  grind
theorem ApV {i:Nat} {nx:List Int} {y:Int} (h:nx[i]? =some y):Aeo k l (nx.take (i+1))=Agx k (Aeo k l (nx.take i)) y:=by
 grind [Aeo,aAO]
theorem Alf (f:Le):∀ k,(Ads f k).length=f.Code.length
 | 0=>by simp[Ads]
 | k+1=>(AeI k _ _).trans (Alf f k)
theorem AeT (x:Lo) (k:Int):(PU x k).length<=2:=by grind [PU]
theorem Aii (f:Le):∀ k,∀ q∈Ads f k,q.length<=2*k
 | 0,q,hq=>by grind [Ads]
 | k+1,q,hq=>by
  have:=AfO _ _ _ (Aii f k) q hq
  grind [AeT]
theorem ArG {y:Int} {j:Nat} {q:List Int} (hy:0<=y) (h:l[j]? =some q):∃ q',(Agx k l y)[j]? =some q'/\∀ x,x∈q'↔x∈q\/(x=(k:Int)/\y=(j:Int)):=by
 grind [Agx]
theorem Amh {k:Nat} {j:Nat}:∀ (nx:List Int) (l:List (List Int)) (q:List Int),(∀ y∈nx,0<=y)->l[j]? =some q->∃ q',(Aeo k l nx)[j]? =some q'/\∀ x,x∈q'↔x∈q\/(x=(k:Int)/\(j:Int)∈nx)
 | [],l,q,_,h=>⟨q,h,λx=>by simp⟩
 | y::nx,l,q,hn,h=>by
  obtain⟨q1,h1,m1⟩:=ArG (k:=k) (hn y (by simp)) h
  obtain⟨q2,h2,m2⟩:=Amh nx _ q1 (λz hz=>hn z (by simp[hz])) h1
  refine⟨q2,h2,λx=>?_⟩
  grind
theorem Aou {f:Le} (hf:Pv f) {j:Nat} (hj:j<f.Code.length):∀ k,k<=f.Code.length->∃ q,(Ads f k)[j]? =some q/\∀ x,x∈q↔∃ i:Nat,i<k/\x=(i:Int)/\(j:Int)∈PU (VX f i) i
 | 0,_=>⟨[],by grind [Ads],λx=>by simp⟩
 | k+1,hk=>by
  obtain⟨q,h1,m1⟩:=Aou hf hj k (by omega)
  have hcode:f.Code[k]? =some (VX f k):=by grind [VX]
  obtain⟨q2,h2,m2⟩:=Amh (k:=k) (PU (VX f k) k) _ q (λy hy=>(hf.next k _ hcode y hy).1) h1
  refine⟨q2,h2,λx=>?_⟩
  grind
theorem Arh (hf:Pv f):AaM f=some (Ads f f.Code.length):=by
 have hlen':=hf.len';have:Hs (AaM f) (· =Ads f f.Code.length):=by
  refine .chk (by omega) ?_
  refine Hs.loop (λs=>∃ k:Nat,s.2=(k:Int)/\k<=f.Code.length/\s.1=Ads f k) (λs=>f.Code.length-s.2.toNat) ⟨0,rfl,aAD _,by simp[Ads]⟩ ?_
  rintro⟨l,k'⟩ ⟨k,rfl,hk,rfl⟩;refine .dec (λhlt=>?_) λhlt=>.lft (.pure ?_)
  ·have hlt:k<f.Code.length:=aAT.1 hlt;have wk:=OZ (show k<9223372036854775807 by omega)
   have hcode:f.Code[k]? =some (VX f k):=by grind [VX]
   have hnx:=hf.next k _ hcode;have hnl:=AeT (VX f k) k;have hb:=Aii f k;have hbl:=Alf f k;rw[AlI hcode (by omega),aA]
   refine Hs.loop (λs=>∃ i:Nat,s.2=(i:Int)/\i<=(PU (VX f k) k).length/\s.1=Aeo k (Ads f k) ((PU (VX f k) k).take i)) (λs=>(PU (VX f k) k).length-s.2.toNat) ⟨0,rfl,aAD _,rfl⟩ ?_
   rintro⟨l,i'⟩ ⟨i,rfl,hi,rfl⟩;unfold Aae;dsimp only;refine .dec (λhil=>?_) λhil=>.lft (.cnt ⟨⟨k+1,wk,hlt,?_⟩,?_⟩)
   ·have hil:i<(PU (VX f k) k).length:=aAT.1 hil;have wi:=OZ (show i<9223372036854775807 by omega)
    refine .chk (by omega) ((Hs.get (i:=(i:Int)) (by omega) (by omega) λz hz=>hz).bind λy hy=>?_)
    simp only[aAB]at hy;have hyr:=hnx y (aAE hy);have hl2:=AeI k ((PU (VX f k) k).take i) (Ads f k);refine .chk (by omega) ((Hs.get (i:=y) (by omega) (by omega) λz hz=>hz).bind λq hq=>?_)
    have hqb:=AfO _ _ _ hb q (aAE hq);simp only[List.length_take]at hqb;refine .chk (by grind) (.chk (by omega) (.cnt ⟨⟨i+1,wi,hil,?_⟩,by grind⟩))
    simp_all[ApV,Agx]
   ·have:i=(PU (VX f k) k).length:=by omega
    subst this;simp only[aAQ];rfl
   grind
  ·have:k=f.Code.length:=by omega
   rw[this];rfl
 obtain⟨r,h1,h2⟩:=this;rw[h1,h2]
def KND (m:List (Int×Bool)):Prop:=(m.map Prod.fst).Nodup
theorem Amx {y:Int}:∀ {m:List (Int×Bool)},y∉m.map Prod.fst->QC false y m=false
 | [],_=>rfl
 | (k,u)::r,h=>by
  simp only[aAj,aAa,not_or]at h;simp only[QC];rw[if_neg (λe=>h.1 e.symm)]
  exact Amx h.2
theorem AiI (x y:Int):∀ m:List (Int×Bool),QC false y (RL x true m)=if y=x then true else QC false y m
 | []=>by
  simp only[RL,QC]
  grind
 | (k,u)::r=>by
  simp only[RL]
  by_cases e:k=x
  ·subst e;rw[if_pos rfl];simp only[QC]
   grind
  ·rw[if_neg e];simp only[QC]
   by_cases e2:k=y
   ·simp_all
   ·rw[if_neg e2,if_neg e2];exact AiI x y r
theorem AoY (x y:Int) (u:Bool):∀ m:List (Int×Bool),y∈(RL x u m).map Prod.fst↔y=x\/y∈m.map Prod.fst
 | []=>by simp[RL]
 | (k,u')::r=>by
  simp only[RL]
  by_cases e:k=x
  ·simp_all
  ·rw[if_neg e];simp only[aAj,aAa,AoY x y u r]
   grind
theorem KND.set (h:KND m) (x:Int) (u:Bool):KND (RL x u m):=by
 induction m with
 | nil=>simp[KND,RL]
 | cons p r ih =>
  obtain⟨k,u'⟩:=p;simp only[KND,aAj,aAh]at h;simp only[RL]
  by_cases e:k=x
  ·rw[if_pos e];exact aAh.2 h
  ·rw[if_neg e];refine aAh.2 ⟨λhm=>?_,ih h.2⟩
   grind [AoY]
theorem AoX (x y:Int):∀ m:List (Int×Bool),y∈(RQ x m).map Prod.fst->y∈m.map Prod.fst
 | [],h=>h
 | (k,u')::r,h=>by
  simp only[RQ]at h;split at h
  ·simp_all
  ·rcases aAa.1 h with h|h
   ·simp_all
   ·exact aAL _ (AoX x y r h)
theorem KND.del (h:KND m) (x:Int):KND (RQ x m):=by
 induction m<;>grind [KND,RQ,AoX]
theorem Aro (h:KND m) (x y:Int):QC false y (RQ x m)=if y=x then false else QC false y m:=by
 induction m with
 | nil=>simp[RQ,QC]
 | cons p r ih =>
  obtain⟨k,u'⟩:=p;simp only[KND,aAj,aAh]at h;simp only[RQ]
  by_cases e:k=x
  ·subst e;rw[if_pos rfl]
   by_cases e2:y=k
   ·simp_all[Amx]
   ·rw[if_neg e2];simp only[QC]
    grind
  ·rw[if_neg e];simp only[QC]
   by_cases e2:k=y
   ·simp_all
   ·rw[if_neg e2,if_neg e2];exact ih h.2
structure WL (n:Nat) (m:List (Int×Bool)) (w:List Int):Prop where
 nd:KND m
 iff:∀ x,QC false x m=true↔x∈w
 uniq:w.Nodup
 rng:∀ x∈w,0<=x/\x<(n:Int)
theorem WL.nil (n:Nat):WL n [] []:=⟨List.nodup_nil,λx=>by simp[QC],List.nodup_nil,λx h=>by cases h⟩
theorem WL.len {n:Nat} (h:WL n m w):w.length<=n:=by
 have h1:(w.map Int.toNat).Nodup:=by
  refine List.pairwise_map.2 (List.Pairwise.imp_of_mem (fun{a b} ha hb hab e=>hab ?_) h.uniq)
  have:=h.rng a ha;have:=h.rng b hb;omega
 have:=h1.length_le_of_subset (l₂:=aAf n) λx hx=>by
  obtain⟨y,hy,rfl⟩:=List.mem_map.1 hx;have:=h.rng y hy;simp_all
 simp_all
theorem WL.put {n:Nat} (h:WL n m w) {x:Int} (hx:x∉w) (hr:0<=x/\x<(n:Int)):WL n (RL x true m) (w++[x]):=by
 refine⟨h.nd.set x true,λy=>?_,?_,λy hy=>?_⟩
 ·rw[AiI]
  by_cases e:y=x
  ·simp_all
  ·rw[if_neg e,h.iff];simp[e]
 ·refine List.nodup_append.2 ⟨h.uniq,by simp,λa ha b hb=>?_⟩
  grind
 ·simp only[aAK,aAI]at hy;rcases hy with hy|rfl
  ·exact h.rng y hy
  ·exact hr
theorem WL.take {n:Nat} {x:Int} (h:WL n m (w++[x])):WL n (RQ x m) w:=by
 obtain⟨u1,_,u3⟩:=List.nodup_append.1 h.uniq;refine⟨h.nd.del x,λy=>?_,u1,λy hy=>h.rng y (aAg _ hy)⟩
 rw[Aro h.nd]
 by_cases e:y=x
 ·grind
 ·rw[if_neg e,h.iff];simp[e]
theorem Atf (s t:List Int) (hs:s.length<=9223372036854775807):SY s t=some (decide (s=t)):=by
 unfold SY
 by_cases hl:s.length=t.length
 ·have:Hs (Pc (λq=>Tq s t q) 0) λb=>b=decide (s=t):=by
   refine Hs.loop (λq=>∃ k:Nat,q=(k:Int)/\k<=s.length/\s.take k=t.take k) (λq=>s.length-q.toNat) ⟨0,rfl,aAD _,by simp⟩ ?_
   rintro _ ⟨k,rfl,hk,he⟩;refine .dec (λhlt=>?_) λhge=>.lft (.pure ?_)
   ·have hlt:k<s.length:=aAT.1 hlt;have e1:s[k]? =some s[k]:=aAA hlt;have e2:t[k]? =some (t[k]'(by omega)):=aAA _
    rw[Pp,e1,aA,Pp,e2,aA];refine .bne (λhne=>.lft (.pure ?_)) λhee=>?_
    ·have:s≠t:=by grind
     show false=decide (s=t);simp[this]
    ·rw[OZ (by omega)]
     refine .cnt ⟨⟨k+1,rfl,hlt,?_⟩,by grind⟩
     grind [aAO]
   ·have hkn:k=s.length:=by omega
    subst hkn;have:s=t:=by
     grind
    show true=decide (s=t);simp[this]
  obtain⟨r,h1,rfl⟩:=this;simp_all
 ·have hne:s≠t:=λe=>hl (by rw[e])
  grind
theorem AnB (hk:k<l.length) {j:Int} (hj:0<=j):Pq (l.set k s) j=if j=(k:Int)then s else Pq l j:=by
 unfold Pq
 grind
theorem AnW (hf:Pv f) {l':List (List Int)} (hl:QD f l) (hl':QD f l') (hk:k<f.Code.length) (h:∀ j∈PU (OU f k) k,Pq l j=Pq l' j):Qt f l k=Qt f l' k:=by
 have h1:=TH hf hl hk;have h2:=TH hf hl' hk;refine h1.1.1.ext h2.1.1 λv=>?_
 grind
theorem QD.row (h:QD f l) (hk:k<f.Code.length):l[k]? =some (Pq l k)/\PF f.Slots.length (Pq l k):=by
 have hkl:k<l.length:=by have:=h.1;omega
 have e:Pq l (k:Int)=l[k]:=by grind [Pq]
 rw[e];exact⟨aAA hkl,h.2 _ (aAF hkl)⟩
theorem QD.setRow (h:QD f l) (hs:PF f.Slots.length s):QD f (l.set k s) :=
 ⟨by simpa using h.1,λt ht=>(aAS ht).elim (h.2 t) λe=>e▸hs⟩
theorem XM (hk:k<f.Code.length):(Sn f l)[k]? =some (Qt f l k):=by grind [Sn]
structure Up (f:Le) (l:List (List Int)) (w:List Int):Prop where
 ok:QD f l
 le:LE l (Sn f l)
 least:∀ b,QD f b->LE (Sn f b) b->LE l b
 done:∀ k:Nat,k<f.Code.length->(k:Int)∉w->Qt f l k=Pq l k
theorem Up.set (hf:Pv f) {w':List Int} (h:Up f l (w++[(k:Int)])) (hk:k<f.Code.length) (hw:∀ x∈w,x∈w') (hb:∀ i:Nat,i<f.Code.length->(k:Int)∈PU (OU f i) i->(i:Int)∈w') :
  Up f (l.set k (Qt f l k)) w'/\LE l (l.set k (Qt f l k)):=by
 have hs:=TH hf h.ok hk;have hok:=h.ok.setRow (k:=k) hs.1;have hlen:k<l.length:=by have:=h.ok.1;omega
 obtain⟨g1,g2⟩:=h.ok.row hk;have hsub:∀ v∈Pq l k,v∈Qt f l k:=h.le k _ _ g1 (XM hk);have hLE:LE l (l.set k (Qt f l k)):=by
  intro q s t hq ht v hv
  grind
 have hmono:=AgN hf h.ok hok hLE;refine⟨⟨hok,λq s t hq ht v hv=>?_,λb hb1 hb2=>?_,λq hq hqw=>?_⟩,hLE⟩
 ·have hql:q<f.Code.length:=by have:=(aAC.1 hq).1;have:=hok.1;omega
  by_cases e:q=k
  ·subst e;rw[aAN hlen]at hq;cases hq;exact hmono q _ t (XM hql) ht v hv
  ·rw[aAM (λh=>e h.symm)]at hq
   exact hmono q _ t (XM hql) ht v (h.le q s _ hq (XM hql) v hv)
 ·have hlb:=h.least b hb1 hb2;have hsb:=AgN hf h.ok hb1 hlb;intro q s t hq ht v hv
  by_cases e:q=k
  ·subst e;rw[aAN hlen]at hq;cases hq;exact hb2 q _ t (XM hk) ht v (hsb q _ _ (XM hk) (XM hk) v hv)
  ·rw[aAM (λh=>e h.symm)]at hq
   exact hlb q s t hq ht v hv
 ·have hkn:(k:Int)∉PU (OU f q) q:=λhm=>hqw (hb q hq hm)
  have hq0:f.Code[q]? =some (OU f q):=by simp[OU,hq]
  have e1:Qt f (l.set k (Qt f l k)) q=Qt f l q:=by
   refine AnW hf hok h.ok hq λj hj=>?_
   rw[AnB hlen (hf.next q _ hq0 j hj).1,if_neg (λe:j=(k:Int)=>hkn (e▸hj))]
  rw[e1,AnB hlen (by omega)]
  by_cases e:(q:Int)=(k:Int)
  ·simp_all
  ·rw[if_neg e];refine h.done q hq λhm=>?_
   simp_all
theorem Up.same (h:Up f l (w++[(k:Int)])) (he:Qt f l k=Pq l k):Up f l w:=by
 refine⟨h.ok,h.le,h.least,λq hq hqw=>?_⟩
 by_cases e:q=k
 ·simp_all
 ·refine h.done q hq λhm=>?_
  grind
theorem Up.end_ (h:Up f l []):Xd f l:=by
 refine⟨h.ok,?_,h.least⟩;apply aAZ;intro k
 by_cases hk:k<f.Code.length
 ·rw[XM hk,(h.ok.row hk).1,h.done k hk (by simp)]
 ·rw[aAJ (by grind [Sn]),aAJ (by have:=h.ok.1;omega)]
theorem Anx (hf:Pv f):Hs (US f) λl=>Xd f l.Out:=by
 have hlen:=hf.len;have hlen':=hf.len';have hsl:=hf.slots;unfold US;refine .chk (by omega) ?_
 rw[Arh hf,aA];refine Hs.loop (λs=>∃ k:Nat,s.2.2=(k:Int)/\k<=f.Code.length/\WL f.Code.length s.1 s.2.1/\∀ x,x∈s.2.1↔0<=x/\x<(k:Int)) (λs=>f.Code.length-s.2.2.toNat) ⟨0,rfl,aAD _,WL.nil _,λx=>⟨λh=>(by cases h),λh=>(by omega)⟩⟩ ?_
 rintro⟨m,w,_⟩ ⟨k,rfl,hk,hw,hwk⟩;simp only at hw hwk;unfold Xa;dsimp only;refine .dec (λhlt=>?_) λhge=>.lft ?_
 ·have hlt:k<f.Code.length:=aAT.1 hlt;have hn:QC false (k:Int) m=false:=by
   cases h:QC false (k:Int) m
   ·rfl
   ·have:=(hwk _).1 ((hw.iff _).1 h);omega
  have hwl:=hw.len;have hnw:(k:Int)∉w:=λh=>by simp_all
  rw[hn,aAp,cond_true];refine .chk (by grind) ?_
  unfold Uv;rw[OZ (by omega)]
  exact .cnt ⟨⟨k+1,rfl,hlt,hw.put hnw ⟨by omega,by omega⟩,λx=>by grind⟩,by grind⟩
 have hkn:k=f.Code.length:=by
  omega
 subst hkn;have h0:QD f (aAe (f.Code.length:Int).toNat ([]:List Int)):=⟨by simp,λs hs=>by grind [PF.nil]⟩
 have hnil:∀ (q:Nat) s,(aAe (f.Code.length:Int).toNat ([]:List Int))[q]? =some s->s=[]:=λq s hq=>by
  grind
 refine Hs.loop (λs=>Up f s.1 s.2.2/\WL f.Code.length s.2.1 s.2.2) (λs=>(512*f.Code.length-(s.1.map List.length).sum)*(f.Code.length+1)+s.2.2.length)
  ⟨⟨h0,λq s t hq _ v hv=>(by grind),λb _ _ q s t hq _ v hv=>(by grind),λq hq hqw=>absurd ((hwk _).2 ⟨by omega,by omega⟩) hqw⟩,hw⟩ ?_
 show ∀ s,_->Hs _ (Rnd _ _ s λr:Pj=>Xd f r.Out)
 clear h0 hnil hwk hw hge hk w m;rintro⟨l,m,w⟩ ⟨hu,hw⟩;simp only at hu hw;dsimp only;refine .dec (λhpos=>?_) λhz=>.lft (.pure ?_)
 ·have hpos:0<w.length:=by omega
  have hwl:=hw.len;have ew:IntKind.i64.wrap ((w.length:Int)-1)=((w.length-1:Nat):Int):=by grind [wrap64]
  rw[ew];have hx:w[w.length-1]? =some (w[w.length-1]'(by omega)):=aAA _
  generalize hxx:w[w.length-1]'(by omega)=x at hx
  have hxr:=hw.rng x (aAE hx);obtain⟨k,rfl⟩:∃ k:Nat,x=(k:Int):=⟨x.toNat,by omega⟩
  have hk:k<f.Code.length:=by omega
  have hcode:f.Code[k]? =some (OU f k):=by grind [OU]
  have hnx:=hf.next k _ hcode;have hsplit:w=w.take (w.length-1)++[(k:Int)]:=by
   have:=aAO (l:=w) (i:=w.length-1)
   grind
  generalize hw0:w.take (w.length-1)=w0 at *;have hw0l:w0.length+1=w.length:=by simp_all
  rw[hsplit]at hu hw;have hwt:=hw.take;refine .chk (by omega) ?_
  simp only[aAB];rw[hx,aA];refine .chk (by omega) ?_
  rw[AlI hcode (by omega),aA]
  have hnl:=AeT (OU f k) k;refine Hs.loop (λs=>∃ i:Nat,s.1=(i:Int)/\i<=(PU (OU f k) k).length/\s.2=((PU (OU f k) k).take i).foldl (λo j=>Re o (inN (OU f j) (Pq l j))) []) (λs=>(PU (OU f k) k).length-s.1.toNat) ⟨0,rfl,aAD _,rfl⟩ ?_
  rintro⟨_,s⟩ ⟨i,rfl,hi,hs⟩;simp only at hs;unfold Xb;dsimp only;refine .dec (λhlt=>?_) λhge=>.lft ?_
  ·have hlt:i<(PU (OU f k) k).length:=aAT.1 hlt;have hg:(PU (OU f k) k)[i]? =some ((PU (OU f k) k)[i]):=aAA hlt;generalize(PU (OU f k) k)[i]=j at hg;have hj:=hnx j (aAE hg);have hjc:f.Code[j.toNat]? =some (OU f j):=by grind [OU]
   obtain⟨o1,o2⟩:=hu.ok.row (k:=j.toNat) (by omega)
   rw[aAW hj.1]at o1 o2;have hll:=hu.ok.1;have hf1:=AlJ hf hu.ok (js:=(PU (OU f k) k).take i) (o:=[]) (λy hy=>hnx y (List.mem_of_mem_take hy)) (PF.nil _)
   have huse:=hf.uses _ (aAE hjc);have hin:=Ace hf (aAE hjc) o2;have hinl:=hin.1.1.length_le;refine .chk (by omega) ?_
   rw[aAB,hg,aA,QG _ hj.1,hjc,aA];refine .chk (by omega) ?_
   rw[o1,aA,ArO o2.1 (λv hv=>by grind),aA,hs,Aee hf1.1.1 (λv hv=>hin.1.1.2 v hv) (by omega),aA,OZ (by omega)]
   refine .cnt ⟨⟨i+1,rfl,hlt,?_⟩,by grind⟩
   grind [aAO]
  ·have hil:i=(PU (OU f k) k).length:=by
    omega
   subst hil;rw[aAQ]at hs;have hs:s=Qt f l k:=hs;subst hs;obtain⟨g1,g2⟩:=hu.ok.row hk;have hsr:=TH hf hu.ok hk;have hsrl:=hsr.1.1.length_le;have hll:=hu.ok.1;refine .chk (by omega) ?_
   rw[aAB,g1,aA,Atf _ _ (by omega),aA,ew]
   simp only[aAB,hw0];refine .dec (λheq=>?_) λhne=>?_
   ·exact .cnt ⟨⟨hu.same heq,hwt⟩,by grind⟩
   ·refine .chk (by omega) ?_
    obtain⟨row,hrow,hmem⟩:=Aou hf hk f.Code.length (aAY _);rw[Pp,hrow,aA];have hrr:∀ y∈row,0<=y/\y<(f.Code.length:Int):=λy hy=>by
     grind
    have hrl:row.length<=2*f.Code.length:=Aii f _ row (aAE hrow);have hsum:=ApH (a:=l) (b:=l.set k (Qt f l k)) (by simp) (λs hs=>(hu.ok.2 s hs).1) (λs hs=>((hu.ok.setRow hsr.1).2 s hs).1)
    refine Hs.loop (λs=>∃ i:Nat,s.2.2=(i:Int)/\i<=row.length/\WL f.Code.length s.1 s.2.1/\(∀ x∈w0,x∈s.2.1)/\∀ x∈row.take i,x∈s.2.1) (λs=>row.length-s.2.2.toNat) ⟨0,rfl,aAD _,hwt,λ_ h=>h,λx hx=>by simp at hx⟩ ?_
    rintro⟨m2,w2,_⟩ ⟨i,rfl,hi2,hw2,hsub,hin⟩;simp only at hw2 hsub hin;refine .dec (λhlt=>?_) λhge2=>.lft ?_
    ·have hlt:i<row.length:=aAT.1 hlt;have hg:row[i]? =some row[i]:=aAA hlt;generalize row[i]=y at hg;have hyr:=hrr y (aAE hg);rw[Pp,hg,aA];have hw2l:=hw2.len;have w1:=OZ (show i<9223372036854775807 by omega)
     cases hgy:QC false y m2 with
     | true =>
      unfold Tg;rw[w1];refine .cnt ⟨⟨i+1,rfl,hlt,hw2,hsub,λx hx=>?_⟩,by grind⟩
      rw[aAO,hg]at hx;simp only[Option.toList_some,aAK,aAI]at hx;rcases hx with hx|rfl
      ·grind
      ·exact(hw2.iff _).1 hgy
     | false =>
      have hny:y∉w2:=λh=>by rw[(hw2.iff _).2 h]at hgy;cases hgy
      rw[aAp,cond_true];refine .chk (by simp only[List.length_singleton];omega) ?_
      unfold Tg;rw[w1];refine .cnt ⟨⟨i+1,rfl,hlt,hw2.put hny hyr,λx hx=>aAg _ (hsub x hx),λx hx=>?_⟩,by grind⟩
      rw[aAO,hg]at hx;simp only[Option.toList_some,aAK,aAI]at hx ⊢;rcases hx with hx|rfl
      ·exact .inl (hin x hx)
      ·exact .inr rfl
    ·have hil:i=row.length:=by
      have:¬ i<row.length:=λh=>hge2 (aAT.2 h)
      omega
     subst hil;rw[aAQ]at hin;have hup:=hu.set hf hk hsub λq hq hm=>hin _ ((hmem _).2 ⟨q,hq,rfl,hm⟩)
     obtain⟨s1,s2⟩:=hsum hup.2;have hb:=Akr (a:=l.set k (Qt f l k)) λs hs=>(hup.1.ok.2 s hs).1
     have hw2l:=hw2.len;have hlt:(l.map List.length).sum<((l.set k (Qt f l k)).map List.length).sum:=by
      refine Nat.lt_of_le_of_ne s1 λe=>hne ?_
      have:=s2 e;have h1:(l.set k (Qt f l k))[k]? =some (Qt f l k):=aAN (by omega)
      rw[<- this,g1]at h1;exact(Option.some.inj h1).symm
     refine .cnt ⟨⟨hup.1,hw2⟩,?_⟩;simp only[aAn,hll,aAB]at hb ⊢;generalize((l.set k (Qt f l k)).map List.length).sum=A at *;generalize(l.map List.length).sum=B at *;have hm1:(512*f.Code.length-A+1)*(f.Code.length+1)<=(512*f.Code.length-B)*(f.Code.length+1):=Nat.mul_le_mul_right _ (by omega)
     rw[Nat.add_mul]at hm1;omega
 ·have hz:w.length=0:=by omega
  rw[List.eq_nil_of_length_eq_zero hz]at hu;exact hu.end_
attribute [local simp] PL aAH
theorem Asa (s:List Pr) (v:Pr) (h:s.length<=1000000):Rt s v=some (decide (v∈s)):=by
 unfold Rt SZ;have:=QV (body:=λi:Int=>Qd s v i) s (λ(k:Nat) i=>i) (λk i=>k=i) (λk l=>some (match l.findIdx? (· ==v)with|none=>-1|some j=>((k+j:Nat):Int)))
  (λk _=>⟨-1,by simp[Qd],by simp⟩) (λk i x r hk hd hi hx=>by
   subst hk;have w:=OZ (show k<9223372036854775807 by omega)
   by_cases e:s[k]=v
   ·simp_all[Qd,List.findIdx?_cons]
   ·refine .inl ⟨k+1,rfl,?_,?_⟩
    ·have hne:¬ (v.a0=s[k].a0/\v.a1=s[k].a1):=λhh=>e (by
      generalize s[k]=y at hh
      cases v;simp_all)
     simp_all[Qd]
    grind) 0 rfl
 rw[show Pc (λs_1=>Qd s v s_1) 0=_ from this]
 simp only[aA];congr 1
 grind
def SH (l:List Lo) (out:List Pr):List Pr :=
 l.foldl (λout x=>if x.Op=17/\x.A≠x.B/\(⟨x.A,x.B⟩:Pr)∉out then out++[⟨x.A,x.B⟩]else out) out
theorem Atp (f:Le) (h:f.Code.length<=1000000):Wg f=some (SH f.Code []):=by
 unfold Wg;have:=QV (body:=λs:List Pr×Int=>QQ f s.1 s.2) f.Code (λ(out:List Pr) i=>(out,i)) (λout i=>out.length<=i) (λout l=>some (SH l out))
  (λout _=>⟨out,by simp[QQ],by simp[SH]⟩) (λout i x r ho hd hi hx=>by
   have w:=OZ (show i<9223372036854775807 by omega)
   obtain⟨_,rfl⟩:=aAC.1 hx;have hc:=Asa out ⟨f.Code[i].A,f.Code[i].B⟩ (by omega)
   left
   by_cases h17:f.Code[i].Op=17
   ·by_cases hab:f.Code[i].A=f.Code[i].B
    ·exact⟨out,by omega,by simp_all[QQ],by grind [SH]⟩
    ·by_cases hm:(⟨f.Code[i].A,f.Code[i].B⟩:Pr)∈out
     ·exact⟨out,by omega,by simp_all[QQ],by grind [SH]⟩
     ·exact⟨out++[⟨f.Code[i].A,f.Code[i].B⟩],by simp;omega,by simp[QQ,hi,h17,hab,hc,hm,w,show out.length<=16777215 by omega],by grind [SH]⟩
   ·exact⟨out,by omega,by simp_all[QQ],by grind [SH]⟩) [] (by simp)
 omega
theorem Apr (out:List Pr) (x:Lo) (hk:k<1000000) (h:out.length<=1000000) (old:Bool):Aal out x k old=some (.inl (if old=true\/(⟨x.A,x.B⟩:Pr)∈out then out else out++[⟨x.A,x.B⟩],((k+1:Nat):Int))):=by
 have wk:=OZ (show k<9223372036854775807 by omega)
 have:=QV (body:=λs:Bool×Int=>Tz out x k s.1 s.2) out (λ(old:Bool) i=>(old,i)) (λ_ _=>True) (λold l=>some (.inl (if old=true\/(⟨x.A,x.B⟩:Pr)∈l then out else out++[⟨x.A,x.B⟩],((k+1:Nat):Int))))
  (λold _=>by
   cases old
   ·exact⟨_,by simp[Tz,XD,wk,show out.length<=16777215 by omega];rfl,by simp⟩
   simp_all[Tz,XD]) (λold i y r _ hd hi hx=>by
   have w:=OZ (show i<9223372036854775807 by omega)
   obtain⟨_,rfl⟩:=aAC.1 hx;left;cases old
   ·by_cases e:out[i]=⟨x.A,x.B⟩
    ·simp_all[Tz]
    ·refine⟨false,trivial,?_,?_⟩
     ·have hne:(out[i].a0==x.A&&out[i].a1==x.B)=false:=by
       generalize out[i]=y at e;cases y;simp_all
      simp_all[Tz]
     grind
   simp_all[Tz]) old trivial
 exact this
theorem Akm (f:Le) (h:f.Code.length<=1000000):AaP f=some (SH f.Code []):=by
 unfold AaP;have:=QV (body:=λs:List Pr×Int=>SJ f s.1 s.2) f.Code (λ(out:List Pr) i=>(out,i)) (λout i=>out.length<=i) (λout l=>some (SH l out))
  (λout _=>⟨out,by simp[SJ],by simp[SH]⟩) (λout i x r ho hd hi hx=>by
   obtain⟨_,rfl⟩:=aAC.1 hx;left
   by_cases h17:f.Code[i].Op=17
   ·have hj:=Apr out f.Code[i] (show i<1000000 by omega) (by omega) (f.Code[i].A==f.Code[i].B)
    by_cases hab:f.Code[i].A=f.Code[i].B
    ·have hj:=Apr out f.Code[i] (show i<1000000 by omega) (by omega) true
     exact⟨out,by omega,by simp_all[SJ],by grind [SH]⟩
    ·by_cases hm:(⟨f.Code[i].A,f.Code[i].B⟩:Pr)∈out
     ·exact⟨out,by omega,by simp_all[SJ],by grind [SH]⟩
     ·exact⟨out++[⟨f.Code[i].A,f.Code[i].B⟩],by simp;omega,by simp_all[SJ],by grind [SH]⟩
   ·have hj:=Apr out f.Code[i] (show i<1000000 by omega) (by omega) true
    exact⟨out,by omega,by simp_all[SJ],by grind [SH]⟩) [] (by simp)
 omega
end Go.Proofs.YtilmapojncgflaaGreatDoor
