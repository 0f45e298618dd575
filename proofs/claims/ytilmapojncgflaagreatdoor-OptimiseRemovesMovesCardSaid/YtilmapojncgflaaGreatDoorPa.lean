/-
  Plain laws about the typed programs.
-/
import Derived.Test.YtilmapojncgflaaGreatDoorDc
import Derived.Test.YtilmapojncgflaaGreatDoorDxP
import Derived.Test.YtilmapojncgflaaGreatDoorDd
open Bool renaming cond_eq_ite->aAH,false_eq_true->aAk,not_true->aAn,not_false->aAv
open Classical renaming byContradiction->aAe
open Int renaming toNat_natCast->aAB,ofNat_lt->aAV,toNat_of_nonneg->aAZ,fdiv_eq_ediv_of_nonneg->aAm
open List renaming getElem?_eq_getElem->aAA,getElem?_eq_some_iff->aAC,mem_of_getElem?->aAE,getElem_mem->aAF,mem_cons_of_mem->aAI,getElem?_set_ne->aAJ,mem_cons->aAK,getElem?_eq_none->aAL,mem_cons_self->aAM,getElem?_set_self->aAN,take_add_one->aAO,mem_singleton->aAP,take_length->aAQ,getElem?_of_mem->aAR,mem_or_eq_of_mem_set->aAS,mem_append->aAU,pairwise_cons->aAW,drop_eq_getElem_cons->aAX,getElem?_append_left->aAY,length_eq_zero_iff->aAa,mem_filter->aAb,ext_getElem?->aAc,range_succ->aAd,replicate->aAf,range->aAh,mem_append_left->aAi,nodup_cons->aAj,getElem?_concat_length->aAl,map_cons->aAo,getElem?_map->aAp,pairwise_iff_getElem->aAq,findIdx?_eq_none_iff->aAr,append_nil->aAt,length_set->aAu,length_singleton->aAw
open Nat renaming zero_le->aAD,not_lt_zero->aAG,le_refl->aAT,min_eq_left->aAg
open Option renaming bind_some->aA,getD_some->aAs
namespace Go.Dw
section
variable {ι R α:Type} {body:ι->Option (ι⊕R)} {v:R}
theorem QT {α β:Type} (s:List α) (mk:β->Int->ι) (I:β->Nat->Prop) (F:β->List α->Option R)
  (hnil:∀ acc,I acc s.length->∃ v,body (mk acc s.length)=some (.inr v)/\F acc []=some v)
  (hcons:∀ acc (i:Nat) x r,I acc i->s.drop i=x::r->i<s.length->s[i]? =some x ->
   (∃ acc',I acc' (i+1)/\body (mk acc i)=some (.inl (mk acc' ((i+1:Nat):Int)))/\F acc (x::r)=F acc' r)\/(∃ v,body (mk acc i)=some (.inr v)/\F acc (x::r)=some v))
  (acc:β) (h0:I acc 0):Pe body (mk acc 0)=F acc s:=by
 have:∀ k i acc,i+k=s.length->I acc i->Pe body (mk acc (i:Nat))=F acc (s.drop i):=by
  intro k
  induction k with
  | zero =>
   intro i acc hi hI;simp only[Nat.add_zero]at hi;subst hi;obtain⟨v,h1,h2⟩:=hnil acc hI;rw[YI,h1,List.drop_length,h2]
  | succ k ih =>
   intro i acc hi hI;have hl:i<s.length:=by omega
   have hd:=aAX hl;rw[hd];rcases hcons acc i _ _ hI hd hl (aAA hl)with⟨acc',h1,h2,h3⟩|⟨v,h1,h2⟩
   ·rw[YI,h2,h3];exact ih (i+1) acc' (by omega) h1
   ·rw[YI,h1,h2]
 have:=this s.length 0 acc (by omega) h0
 simpa using this
@[simp] theorem Pp (l:List α) (i:Nat):ixO l (i:Int)=l[i]?:=by
 unfold ixO;rw[if_neg (by omega)]
 simp
theorem QB (l:List α) {i:Int} (h:0<=i):ixO l i=l[i.toNat]?:=by
 unfold ixO;rw[if_neg (by omega)]
@[simp] theorem Auy (l:List α) (i:Nat):ixO l ((i:Int)+1)=l[i+1]?:=by
 have:=Pp l (i+1);simpa using this
@[simp] theorem AkH (l:List α):ixO l 0=l[0]?:=QB l (Int.le_refl 0)
theorem wrap64 {n:Int} (h0: -9223372036854775808<=n) (h1:n<=9223372036854775807):IntKind.i64.wrap n=n:=AtP h0 h1
@[simp] theorem AuF:IntKind.i64.wrap 0=0:=by decide
@[simp] theorem AuG:IntKind.i64.wrap 1=1:=by decide
@[simp] theorem AuH:IntKind.i64.wrap 2=2:=by decide
@[simp] theorem AuI:IntKind.i64.wrap 3=3:=by decide
theorem OZ {i:Nat} (h:i<9223372036854775807):IntKind.i64.wrap ((i:Int)+1)=((i+1:Nat):Int):=by
 rw[wrap64 (by omega) (by omega)];rfl
@[simp] theorem AuA (r:R):(lft (some r):Option (ι⊕R))=some (.inr r):=rfl
@[simp] theorem Auz:(lft none:Option (ι⊕R))=none:=rfl
@[simp] theorem Apa (s:ι):(cnt s:Option (ι⊕R))=some (.inl s):=rfl
theorem AtZ {a:Int} (h0:0<=a) (h1:a<=9223372036854775807):IntKind.i64.wrap ((IntKind.u64.wrap (IntKind.i64.wrap a)).fdiv (2 ^ (Nat.min (1:Int).toNat IntKind.u64.bits)))=a / 2:=by
 rw[wrap64 (by omega) h1]
 have e1:IntKind.u64.wrap a=a:=by simp[IntKind.wrap,IntKind.signed,IntKind.bits];omega
 have e2:(2:Int) ^ (Nat.min (1:Int).toNat IntKind.u64.bits)=2:=by decide
 rw[e1,e2,aAm _ (by omega),wrap64 (by omega) (by omega)]
theorem Un (a b:Int):PF a b=max a b:=by unfold PF;split<;>omega
end
open Go
variable {i:Int}
def Hs {α:Type} (m:Option α) (P:α->Prop):Prop:=∃ r,m=some r/\P r
section
variable {α β ι R:Type}
theorem Hs.pure {a:α} {P:α->Prop} (h:P a):Hs (some a) P:=⟨a,rfl,h⟩
theorem Hs.bind {m:Option α} {f:α->Option β} {P:α->Prop} {Q:β->Prop} (h:Hs m P) (hf:∀ r,P r->Hs (f r) Q):Hs (m.bind f) Q:=by
 obtain⟨r,rfl,hr⟩:=h;exact hf r hr
theorem Hs.mono {m:Option α} {P Q:α->Prop} (h:Hs m P) (hf:∀ r,P r->Q r):Hs m Q:=by
 obtain⟨r,h1,hr⟩:=h;exact⟨r,h1,hf r hr⟩
theorem Hs.chk {p:Prop} [Decidable p] {m:Option α} {P:α->Prop} (hp:p) (h:Hs m P):Hs (chk p m) P:=by
 rw[PK hp];exact h
theorem Hs.cond {b:Bool} {x y:Option α} {P:α->Prop} (h1:b=true->Hs x P) (h2:b=false->Hs y P):Hs (bif b then x else y) P:=by
 cases b
 ·exact h2 rfl
 ·exact h1 rfl
theorem Hs.dec {p:Prop} [Decidable p] {x y:Option α} {P:α->Prop} (h1:p->Hs x P) (h2:¬ p->Hs y P):Hs (bif decide p then x else y) P :=
 Hs.cond (λh=>h1 (of_decide_eq_true h)) (λh=>h2 (of_decide_eq_false h))
theorem Hs.beq {a b:Int} {x y:Option α} {P:α->Prop} (h1:a=b->Hs x P) (h2:a≠b->Hs y P):Hs (bif a==b then x else y) P :=
 Hs.cond (λh=>h1 (by simpa using h)) (λh=>h2 (by simpa using h))
theorem Hs.bne {a b:Int} {x y:Option α} {P:α->Prop} (h1:a≠b->Hs x P) (h2:a=b->Hs y P):Hs (bif a != b then x else y) P :=
 Hs.cond (λh=>h1 (by simpa using h)) (λh=>h2 (by simpa using h))
theorem Hs.cnt {s:ι} {P:ι⊕R->Prop} (h:P (.inl s)):Hs (Go.Dw.cnt s) P:=⟨_,rfl,h⟩
theorem Hs.lft {m:Option R} {P:ι⊕R->Prop} (h:Hs m λr=>P (.inr r)):Hs (Go.Dw.lft m) P:=by
 obtain⟨r,rfl,h⟩:=h;exact⟨_,rfl,h⟩
def Rnd (I:ι->Prop) (μ:ι->Nat) (s:ι) (Q:R->Prop):ι⊕R->Prop
 | .inl s'=>I s'/\μ s'<μ s
 | .inr r=>Q r
theorem Hs.loop {body:ι->Option (ι⊕R)} {s:ι} {Q:R->Prop} (I:ι->Prop) (μ:ι->Nat) (h0:I s) (hb:∀ s,I s->Hs (body s) (Rnd I μ s Q)):Hs (Pe body s) Q:=by
 refine AdN I Q μ h0 λs hs=>?_
 obtain⟨z,hz,hq⟩:=hb s hs;cases z with
 | inl s'=>exact .inl ⟨s',hz,hq⟩
 | inr r=>exact .inr ⟨r,hz,hq⟩
theorem Hs.get {l:List α} {P:α->Prop} (h0:0<=i) (h1:i<l.length) (h:∀ x,l[i.toNat]? =some x->P x):Hs (l[i.toNat]?) P:=by
 have:l[i.toNat]? =some (l[i.toNat]'(by omega)):=aAA _
 exact⟨_,this,h _ this⟩
theorem Hs.ix {l:List α} {P:α->Prop} (h0:0<=i) (h1:i<l.length) (h:∀ x,l[i.toNat]? =some x->P x):Hs (ixO l i) P:=by
 rw[QB _ h0];exact Hs.get h0 h1 h
end
theorem Apr (n:Int):0<=IntKind.u64.wrap n/\IntKind.u64.wrap n<18446744073709551616:=by
 simp[IntKind.wrap,IntKind.signed,IntKind.bits];omega
end Go.Dw
namespace Go.Proofs.YtilmapojncgflaaGreatDoor
open Go Go.Dw Go.Proofs
variable {s ps to used:List Int} {m:List (List Bool)} {l g:List (List Int)} {i k:Nat} {v u:Int} {x:OX} {sl:List Pa} {f:Lo} {r:Pj} {mv:OX->Int->Bool} {Q:Nat->Int->Prop} {I:List Pa×Int->Prop} {μ:List Pa×Int->Nat} {s0:List Pa×Int}
theorem AtK (n:Int):Hs (TP n) λ_=>True:=by
 unfold TP;exact .cond (λ_=>.pure trivial) λ_=>.cond (λ_=>.pure trivial) λ_=>.cond (λ_=>.pure trivial) λ_=>.cond (λ_=>.pure trivial) λ_=>.pure trivial
theorem YL (n:Int):UL n=some (decide (0<=n/\n<=2147483647)):=by
 unfold UL
 by_cases h:n>=0
 ·rw[decide_eq_true h,cond_true]
  by_cases h1:n<=2147483647
  ·simp[h1];omega
  ·simp[h1]
 ·rw[decide_eq_false h,cond_false];have:¬ (0<=n/\n<=2147483647):=by omega
  simp[this]
theorem Asm (n:Int):Hs (Rh n) λb=>b=true->1<=n/\n<=16777216:=by
 unfold Rh;refine Hs.loop (λk=>1<=k/\k<=33554432) (λk=>33554433-k.toNat) ⟨by omega,by omega⟩ ?_
 rintro k ⟨h0,h1⟩;unfold Sj;refine .dec (λh=>.beq (λe=>.lft (.pure λ_=>⟨by omega,by omega⟩)) λ_=>?_) λh=>.lft (.pure λh=>(by cases h))
 rw[wrap64 (by omega) (by omega)]
 exact .cnt ⟨⟨by omega,by omega⟩,by simp only;omega⟩
attribute [local simp] PK aAH
theorem AlQ (n:Int):VX n=some (decide (0<=n/\n<512)):=by
 grind [VX]
theorem AiV {n:Int} (h:0<=n/\n<512):VX n=some true:=by grind [AlQ]
theorem ApY {n:Int} (h:¬ (0<=n/\n<512)):VX n=some false:=by grind [AlQ]
theorem XV (s:List Int) (n:Int) (hs:s.length<=9223372036854775807):VV s n=some (decide (n∈s)):=by
 refine QT s (λ(_:Unit) i=>i) (λ_ _=>True) (λ_ l=>some (decide (n∈l))) (λ_ _=>⟨_,by simp[Acr],rfl⟩) (λ_ i x r _ hd hi hx=>?_) () trivial
 have w:=OZ (show i<9223372036854775807 by omega)
 by_cases h:x=n
 ·simp_all[Acr]
 ·refine .inl ⟨(),trivial,?_,?_⟩
  ·simp_all[Acr]
  grind
def Wo (n:Int):List Int->List Int
 | []=>[n]
 | x::r=>if x<n then x::Wo n r else if x=n then x::r else n::x::r
theorem Akf (n:Int):∀ s,(Wo n s).length<=s.length+1
 | []=>by simp[Wo]
 | x::r=>by
  have:=Akf n r
  grind [Wo]
def Uz (n:Int) (s:List Int):List Int:=if 0<=n/\n<512 then Wo n s else s
theorem add_eq (s:List Int) (n:Int) (hs:s.length<=1000000):VU s n=some (Uz n s):=by
 unfold VU Uz;rw[AlQ];simp only[aA];have key:∀ d:Bool,Pe (λs_1:List Int×Bool×Int=>Sa s n s_1.1 s_1.2.1 s_1.2.2) ([],d,0)=some (if d then s else Wo n s):=by
  intro d;have:=QT (body:=λs_1:List Int×Bool×Int=>Sa s n s_1.1 s_1.2.1 s_1.2.2) s (λ(p:List Int×Bool) i=>(p.1,p.2,i)) (λp i=>p.1.length<=i+(if p.2 then 1 else 0)) (λp l=>some (p.1++(if p.2 then l else Wo n l)))
   (λp hp=>by
    obtain⟨out,done⟩:=p;cases done<;>simp only[if_true,aAk,if_false]at hp
    ·exact⟨out++[n],by simp[Sa,show out.length<=16777215 by omega],by simp[Wo]⟩
    simp_all[Sa])
   (λp i x r hp hd hi hx=>by
    obtain⟨out,done⟩:=p;have w:=OZ (show i<9223372036854775807 by omega)
    obtain⟨_,rfl⟩:=aAC.1 hx;left;cases done<;>simp only[if_true,aAk,if_false]at hp
    ·by_cases h1:n<=s[i]
     ·by_cases h2:n<s[i]
      ·refine⟨(out++[n]++[s[i]],true),by simp;omega,?_,?_⟩
       ·simp[Sa,Uc,Tj,hi,h1,h2,w,show out.length<=16777215 by omega,show out.length<=16777214 by omega]
       grind [Wo]
      ·refine⟨(out++[s[i]],true),by simp;omega,?_,?_⟩
       ·simp[Sa,Uc,Tj,hi,h1,h2,w,show out.length<=16777215 by omega]
       grind [Wo]
     ·refine⟨(out++[s[i]],false),by simp;omega,?_,?_⟩
      ·simp[Sa,Uc,Tj,hi,h1,w,show out.length<=16777215 by omega]
      grind [Wo]
    ·refine⟨(out++[s[i]],true),by simp;omega,?_,?_⟩
     ·simp[Sa,Uc,Tj,hi,w,show out.length<=16777215 by omega]
     ·simp)
   ([],d) (by simp)
  simp_all
 grind
def SX:Option Int->List Int->Bool
 | _,[]=>true
 | p,x::r=>decide (0<=x/\x<512)&&(match p with|none=>true|some y=>decide (y<x))&&SX (some x) r
theorem Afl (s:List Int) (hs:s.length<=9223372036854775807):AgE s=some (SX none s):=by
 refine QT s (λ(_:Option Int) i=>i) (λp i=>match i with|0=>p=none|k+1=>s[k]? =p/\p≠none) (λp l=>some (SX p l)) (λ_ _=>⟨true,by simp[UQ],by simp[SX]⟩) (λp i x r hp hd hi hx=>?_) none rfl
 obtain⟨_,rfl⟩:=aAC.1 hx
 by_cases hg:0<=s[i]/\s[i]<512
 ·cases i with
  | zero =>
   subst hp;exact .inl ⟨some s[0],⟨hx,by simp⟩,by simp[UQ,hi,AiV hg],by grind [SX]⟩
  | succ k =>
   obtain⟨hp,hpn⟩:=hp;have hk:k<s.length:=by omega
   rw[aAA hk]at hp;subst hp;have w:IntKind.i64.wrap ((k:Int)+1+1)=(k:Int)+1+1:=wrap64 (by omega) (by omega)
   have wp:IntKind.i64.wrap (k:Int)=k:=wrap64 (by omega) (by omega)
   have e0:(k:Int)+1-1=k:=by omega
   by_cases hlt:s[k]<s[k+1]
   ·exact .inl ⟨some s[k+1],⟨hx,by simp⟩,by simp[UQ,hi,AiV hg,w,wp,e0,hk,show ¬ s[k+1]<=s[k]by omega,show(0:Int)<k+1 by omega,show(k:Int)+1<s.length by omega],by grind [SX]⟩
   ·exact .inr ⟨false,by simp[UQ,hi,AiV hg,w,wp,e0,hk,show s[k+1]<=s[k]by omega,show(0:Int)<k+1 by omega,show(k:Int)+1<s.length by omega],by grind [SX]⟩
 ·exact .inr ⟨false,by simp_all[UQ,ApY],by grind [SX]⟩
def PQ (s:List Int):Prop:=s.Pairwise (· <·)/\∀ x∈s,0<=x/\x<512
theorem Ano:∀ (p:Option Int) (s:List Int),SX p s=true↔PQ s/\∀ y,p=some y->∀ x∈s,y<x
 | p,[]=>by simp[SX,PQ]
 | p,x::r=>by
  simp only[SX,Bool.and_eq_true,Ano (some x) r,decide_eq_true_eq,PQ,aAW,aAK,forall_eq_or_imp,Option.some.injEq]
  grind
theorem Abq (s:List Int):SX none s=true↔PQ s:=by
 grind [Ano]
theorem PQ.length_le (h:PQ s):s.length<=512:=by
 have:∀ (s:List Int) (a:Int),s.Pairwise (· <·)->(∀ x∈s,a<=x/\x<512)->a<=512->(s.length:Int)<=512-a:=by
  intro s
  induction s with
  | nil=>simp_all
  | cons x r ih =>
   intro a hp hb ha;rw[aAW]at hp;have hx:=hb x (by simp)
   have:=ih (x+1) hp.2 (λy hy=>⟨by grind,(hb y (by simp[hy])).2⟩) (by omega)
   grind
 have:=this s 0 h.1 h.2 (by omega)
 omega
theorem Ado (n m:Int):∀ s,m∈Wo n s↔m=n\/m∈s
 | []=>by simp[Wo]
 | x::r=>by
  simp only[Wo];split
  ·simp only[aAK,Ado n m r]
   grind
  grind
theorem PQ.Wo {n:Int} (h:PQ s) (hn:0<=n/\n<512):PQ (Proofs.YtilmapojncgflaaGreatDoor.Wo n s):=by
 refine⟨?_,λx hx=>?_⟩
 ·replace h:=h.1;clear hn
  induction s<;>grind [Proofs.YtilmapojncgflaaGreatDoor.Wo,aAW,Ado]
 ·rw[Ado]at hx;rcases hx with rfl|hx
  ·exact hn
  ·exact h.2 x hx
theorem PQ.nil:PQ []:=⟨List.Pairwise.nil,λx hx=>by cases hx⟩
theorem Arp (s:List Pa):Hs (Tc s) λe=>e=0->s.length<=512:=by
 unfold Tc;refine .dec (λ_=>.pure λh=>by simp at h) λh=>?_
 have hl:s.length<=512:=by omega
 refine(Hs.loop (Q:=λ_=>True) (λi=>∃ k:Nat,i=(k:Int)/\k<=s.length) (λi=>s.length-i.toNat) ⟨0,rfl,aAD _⟩ ?_).mono λ_ _ _=>hl
 rintro _ ⟨k,rfl,hk⟩;unfold Adr;refine .dec (λhlt=>?_) λ_=>.lft (.pure trivial)
 refine(Hs.ix (P:=λ_=>True) (by omega) hlt λ_ _=>trivial).bind λx _=>(AtK _).bind λb _=>.cond (λ_=>.lft (.pure trivial)) λ_=>?_
 refine(Hs.ix (P:=λ_=>True) (by omega) hlt λ_ _=>trivial).bind λy _=>(Asm _).bind λb _=>.cond (λ_=>.lft (.pure trivial)) λ_=>?_
 rw[OZ (by omega)]
 exact .cnt ⟨⟨k+1,rfl,by omega⟩,by simp only;omega⟩
theorem Aqu (a b:Pa):Hs (Acx a b) λ_=>True:=by
 exact .cond (λ_=>.pure trivial) λ_=>.cond (λ_=>.pure trivial) λ_=>.pure trivial
theorem Agm (n:Int):Re n=some (decide (0<=n/\n<512)):=by
 unfold Re
 by_cases h:0<=n<;>simp[h]
theorem AgL {n:Int} (h:0<=n/\n<512):Re n=some true:=by rw[Agm,decide_eq_true h]
theorem AoC {n:Int} (h:¬ (0<=n/\n<512)):Re n=some false:=by rw[Agm,decide_eq_false h]
theorem Abr (s:List Int) (hs:s.length<=9223372036854775807):WJ s=some (SX none s):=by
 unfold WJ;refine QT s (λ(_:Option Int) i=>i) (λp i=>match i with|0=>p=none|k+1=>s[k]? =p/\p≠none) (λp l=>some (SX p l)) (λ_ _=>⟨true,by simp[Ss],by simp[SX]⟩) (λp i x r hp hd hi hx=>?_) none rfl
 have w:=OZ (show i<9223372036854775807 by omega)
 obtain⟨_,rfl⟩:=aAC.1 hx
 by_cases hg:0<=s[i]/\s[i]<512
 ·cases i with
  | zero =>
   simp only at hp;subst hp;exact .inl ⟨some s[0],⟨hx,by simp⟩,by simp[Ss,hi,AgL hg],by simp[SX,hg]⟩
  | succ k =>
   obtain⟨hp,hpn⟩:=hp;have hk:k<s.length:=by omega
   rw[aAA hk]at hp;subst hp;have w:IntKind.i64.wrap ((k:Int)+1+1)=(k:Int)+1+1:=wrap64 (by omega) (by omega)
   have wp:IntKind.i64.wrap (k:Int)=k:=wrap64 (by omega) (by omega)
   have e0:(k:Int)+1-1=k:=by omega
   by_cases hlt:s[k]<s[k+1]
   ·exact .inl ⟨some s[k+1],⟨hx,by simp⟩,by simp[Ss,hi,AgL hg,w,wp,e0,hk,show ¬ s[k+1]<=s[k]by omega,show(0:Int)<k+1 by omega,show(k:Int)+1<s.length by omega],by simp[SX,hg,hlt]⟩
   ·exact .inr ⟨false,by simp[Ss,hi,AgL hg,w,wp,e0,hk,show s[k+1]<=s[k]by omega,show(0:Int)<k+1 by omega,show(k:Int)+1<s.length by omega],by simp[SX,hlt]⟩
 ·exact .inr ⟨false,by simp[Ss,hi,AoC hg],by simp[SX,hg]⟩
theorem AtJ (a b:List Int) (h:a.length<=9223372036854775807):AhV a b=some (decide (a=b)):=by
 unfold AhV
 by_cases hl:a.length=b.length
 ·have:=QT (body:=λi:Int=>XY a b i) a (λ(_:List Int) i=>i) (λacc i=>b.drop i=acc) (λacc l=>some (decide (l=acc)))
   (λacc hacc=>⟨true,by simp[XY],by rw[hl]at hacc;simp at hacc;simp[<- hacc]⟩) (λacc i x r hacc hd hi hx=>by
    have w:=OZ (show i<9223372036854775807 by omega)
    obtain⟨_,rfl⟩:=aAC.1 hx;have hib:i<b.length:=by omega
    have hdb:=aAX hib
    by_cases e:a[i]=b[i]
    ·exact .inl ⟨b.drop (i+1),rfl,by simp[XY,hi,hib,e,w],by rw[<- hacc,hdb];simp only[List.cons.injEq,e,true_and]⟩
    ·exact .inr ⟨false,by simp[XY,hi,hib,e],by rw[<- hacc,hdb];simp only[List.cons.injEq,e,false_and,decide_false]⟩)
   b (by simp)
  simpa[hl]using this
 ·have:¬ a=b:=λe=>hl (by rw[e])
  simp[this,show ¬ (a.length:Int)=b.length by omega]
theorem Aqn (a b:List (List Int)) (h:a.length<=9223372036854775807) (hr:∀ s∈a,s.length<=9223372036854775807):Aev a b=some (decide (a=b)):=by
 unfold Aev
 by_cases hl:a.length=b.length
 ·have:=QT (body:=λi:Int=>Vg a b i) a (λ(_:List (List Int)) i=>i) (λacc i=>b.drop i=acc) (λacc l=>some (decide (l=acc)))
   (λacc hacc=>⟨true,by simp[Vg],by rw[hl]at hacc;simp at hacc;simp[<- hacc]⟩) (λacc i x r hacc hd hi hx=>by
    have w:=OZ (show i<9223372036854775807 by omega)
    obtain⟨_,rfl⟩:=aAC.1 hx;have hib:i<b.length:=by omega
    have hdb:=aAX hib;have hs:=AtJ a[i] b[i] (hr _ (aAF _))
    by_cases e:a[i]=b[i]
    ·refine .inl ⟨b.drop (i+1),rfl,?_,by rw[<- hacc,hdb];simp only[List.cons.injEq,e,true_and]⟩
     rw[decide_eq_true e]at hs;simp[Vg,hi,hib,hs,w]
    ·refine .inr ⟨false,?_,by rw[<- hacc,hdb];simp only[List.cons.injEq,e,false_and,decide_false]⟩
     rw[decide_eq_false e]at hs
     simp[Vg,hi,hib,hs])
   b (by simp)
  simpa[hl]using this
 ·have:¬ a=b:=λe=>hl (by rw[e])
  simp[this,show ¬ (a.length:Int)=b.length by omega]
theorem Ari (s:List Int) (n:Int) (hs:s.length<=16777215):AfC s n=some (s.filter (· != n)):=by
 unfold AfC;have:=QT (body:=λp:List Int×Int=>VW s n p.1 p.2) s (λ(out:List Int) i=>(out,i)) (λout i=>out.length<=i) (λout l=>some (out++l.filter (· != n)))
  (λout _=>⟨out,by simp[VW],by simp⟩) (λout i x r ho hd hi hx=>by
   have w:=OZ (show i<9223372036854775807 by omega)
   obtain⟨_,rfl⟩:=aAC.1 hx;left
   by_cases h:s[i]=n
   ·exact⟨out,by omega,by simp[VW,hi,h,w],by simp[h]⟩
   ·exact⟨out++[s[i]],by simp;omega,by simp[VW,hi,h,w,show out.length<=16777215 by omega],by simp[h]⟩)
  [] (by simp)
 simpa using this
def Rb (a b:List Int):List Int:=b.foldl (λo x=>Uz x o) a
theorem AoD (n:Int) (s:List Int):(Uz n s).length<=s.length+1:=by
 unfold Uz;split
 ·exact Akf n s
 ·omega
theorem union_eq (a b:List Int) (h:a.length+b.length<=1000000):TQ a b=some (Rb a b):=by
 unfold TQ Rb;rw[PK (by simp;omega)]
 have:=QT (body:=λp:List Int×Int=>UR b p.1 p.2) b (λ(out:List Int) i=>(out,i)) (λout i=>out.length<=a.length+i) (λout l=>some (l.foldl (λo x=>Uz x o) out))
  (λout _=>⟨out,by simp[UR],by simp⟩) (λout i x r ho hd hi hx=>by
   have w:=OZ (show i<9223372036854775807 by omega)
   obtain⟨_,rfl⟩:=aAC.1 hx;have hl:=AoD b[i] out;left
   exact⟨Uz b[i] out,by omega,by simp[UR,hi,add_eq out b[i] (by omega),w],by simp⟩)
  a (by simp)
 simpa using this
theorem AlK:∀ {a b:List Int},a.Pairwise (· <·)->b.Pairwise (· <·)->(∀ v∈a,v∈b)->a.Sublist b
 | [],_,_,_,_=>List.nil_sublist _
 | x::a,[],_,_,h=>by have:=h x (aAM ..);cases this
 | x::a,y::b,ha,hb,h=>by
  rw[aAW]at ha hb
  by_cases e:x=y
  ·subst e;refine(AlK ha.2 hb.2 λv hv=>?_).cons_cons x
   rcases aAK.1 (h v (aAI _ hv))with h1|h1
   ·have:=ha.1 v hv;omega
   ·exact h1
  ·have hx:x∈b:=by
    rcases aAK.1 (h x (aAM ..))with h1|h1
    ·exact(e h1).elim
    ·exact h1
   have hyx:=hb.1 x hx;refine(AlK (aAW.2 ha) hb.2 λv hv=>?_).cons y
   rcases aAK.1 (h v hv)with h1|h1
   ·subst h1;rcases aAK.1 hv with h2|h2
    ·omega
    ·have:=ha.1 v h2;omega
   ·exact h1
theorem PQ.sub {a b:List Int} (ha:PQ a) (hb:PQ b) (h:∀ v∈a,v∈b):a.Sublist b:=AlK ha.1 hb.1 h
theorem PQ.ext {a b:List Int} (ha:PQ a) (hb:PQ b) (h:∀ v,v∈a↔v∈b):a=b :=
 (ha.sub hb λv hv=>(h v).1 hv).eq_of_length_le (hb.sub ha λv hv=>(h v).2 hv).length_le
theorem PQ.filter {a:List Int} (ha:PQ a) (p:Int->Bool):PQ (a.filter p) :=
 ⟨ha.1.sublist List.filter_sublist,λx hx=>ha.2 x ((aAb.1 hx).1)⟩
theorem PE.Ank {n m:Int} (h:PQ s/\∀ x∈s,x<n) (hm:0<=m/\m<n) (hn:n<=512):PQ (Uz m s)/\(∀ x∈Uz m s,x<n)/\∀ v,v∈Uz m s↔v=m\/v∈s:=by
 unfold Uz;rw[if_pos (by omega)]
 refine⟨h.1.Wo (by omega),λx hx=>?_,λv=>Ado _ _ _⟩
 rw[Ado]at hx;rcases hx with rfl|hx
 ·exact hm.2
 ·exact h.2 x hx
theorem UK {n:Int} (hn:n<=512):∀ {b a:List Int},(PQ a/\∀ x∈a,x<n)->(∀ x∈b,0<=x/\x<n)->(PQ (Rb a b)/\∀ x∈Rb a b,x<n)/\∀ v,v∈Rb a b↔v∈a\/v∈b
 | [],a,ha,_=>⟨ha,λv=>by simp[Rb]⟩
 | x::b,a,ha,hb=>by
  obtain⟨h1,h2,h3⟩:=PE.Ank ha (hb x (aAM ..)) hn;obtain⟨h4,h5⟩:=UK hn ⟨h1,h2⟩ λy hy=>hb y (aAI _ hy)
  refine⟨h4,λv=>?_⟩
  show v∈Rb (Uz x a) b↔_;rw[h5,h3,aAK];constructor
  ·rintro((h|h)|h)
   ·exact .inr (.inl h)
   ·exact .inl h
   ·exact .inr (.inr h)
  ·rintro(h|h|h)
   ·exact .inl (.inr h)
   ·exact .inl (.inl h)
   ·exact .inr h
def TC (l:List Int) (p:Int->Prop):Prop:=PQ l/\∀ v,v∈l↔(0<=v/\v<512)/\p v
theorem TC.eq {l m:List Int} {p q:Int->Prop} (h:TC l p) (k:TC m q) (e:∀ v,0<=v->v<512->(p v↔q v)):l=m :=
 h.1.ext k.1 λv=>by
  rw[h.2,k.2];simp_all
theorem TC.Alx {l:List Int} (h:PQ l):TC l (· ∈l):=⟨h,λv=>⟨λk=>⟨h.2 v k,k⟩,λk=>k.2⟩⟩
theorem TC.mono {l:List Int} {p q:Int->Prop} (h:TC l p) (e:∀ v,0<=v->v<512->(p v↔q v)):TC l q :=
 ⟨h.1,λv=>by rw[h.2];simp_all⟩
abbrev BS:=OW
def Sr (t:BS):Prop:=∀ w∈t.toList,WW w
theorem BS.len (t:BS):t.toList.length=8:=rfl
variable {t:BS}
def TU (t:BS) (i:Nat):Int:=(t.toList[i]?).getD 0
def hasB (t:BS) (v:Int):Bool:=AcZ (TU t (v.toNat / 64)) (v.toNat % 64)
theorem Zo (h:i<8):t.toList[i]? =some (TU t i):=by
 have:t.toList[i]? =some (t.toList[i]'(show i<8 from h)):=aAA _
 grind [TU]
theorem Sr.word (h:Sr t) (hi:i<8):WW (TU t i):=h _ (aAE (Zo hi))
theorem AmG {j:Nat} {w:Int} (hi:i<8):TU (t.set i w) j=if i=j then w else TU t j:=by
 unfold TU;rw[Sh,List.getElem?_set]
 by_cases h:i=j
 all_goals simp_all[OW.toList]
theorem Sr.set (h:Sr t) {w:Int} (hw:WW w):Sr (t.set i w):=by
 intro x hx;rw[Sh]at hx;rcases aAS hx with h1|rfl
 ·exact h x h1
 ·exact hw
theorem Sr.zero:Sr ⟨0,0,0,0,0,0,0,0⟩:=by
 intro w hw;simp[OW.toList]at hw;exact⟨by omega,by omega⟩
theorem AqL (v:Int):hasB ⟨0,0,0,0,0,0,0,0⟩ v=false:=by
 have:TU ⟨0,0,0,0,0,0,0,0⟩ (v.toNat / 64)=0:=by
  have hl:∀ i:Nat,(([0,0,0,0,0,0,0,0]:List Int)[i]?).getD 0=0:=by
   grind
  exact hl _
 simp_all[hasB,AcZ]
theorem Anc (n:Int):0<=(IntKind.u64.wrap n).tmod 64/\(0<=n->n<512->((IntKind.u64.wrap n).tmod 64).toNat=n.toNat % 64):=by
 obtain⟨h0,h1⟩:=Apr n;rw[Int.tmod_eq_emod_of_nonneg h0];refine⟨by omega,λha hb=>?_⟩
 rw[ArA ⟨ha,by omega⟩]
 omega
theorem Aqk {n:Int} (h0:0<=n) (h1:n<512):IntKind.i64.wrap (n.tdiv 64)=((n.toNat / 64:Nat):Int):=by
 grind [wrap64]
theorem AtT {n:Int} (h0:0<=n) (h1:n<512):IntKind.u64.wrap (1*2 ^ (Nat.min ((IntKind.u64.wrap n).tmod 64).toNat IntKind.u64.bits))=((2 ^ (n.toNat % 64):Nat):Int):=by
 rw[(Anc n).2 h0 h1];have e:Nat.min (n.toNat % 64) IntKind.u64.bits=n.toNat % 64:=aAg (by show n.toNat % 64<=64;omega)
 rw[e,Int.one_mul];have hp:2 ^ (n.toNat % 64)<18446744073709551616:=by
  have:=Nat.pow_lt_pow_right (a:=2) (by decide) (show n.toNat % 64<64 by omega)
  omega
 grind [AeT]
theorem Aog (j:Nat) (h:j<64):2 ^ j<18446744073709551616:=by
 have:=Nat.pow_lt_pow_right (a:=2) (by decide) h
 omega
theorem AtY {n:Int} (h0:0<=n) (h0':0<=v) (hne:v≠n) (h:n.toNat / 64=v.toNat / 64):v.toNat % 64≠n.toNat % 64:=by omega
theorem Arb (ht:Sr t) (n:Int) (b:Bool):Hs (TX t n b) λr=>Sr r/\∀ v,0<=v->v<512->hasB r v=if v=n then b else hasB t v:=by
 refine .chk (Anc n).1 ?_;rw[Agm,aA]
 by_cases h:0<=n/\n<512
 ·rw[decide_eq_true h];obtain⟨h0,h1⟩:=h;have hi:n.toNat / 64<8:=by omega
  have hb:=AtT h0 h1;have hw:=ht.word hi;have hp:WW ((2 ^ (n.toNat % 64):Nat):Int):=WW.nat (Aog _ (by omega))
  have fin:∀ (x:Nat),x<18446744073709551616->(∀ j,j<64->x.testBit j=if j=n.toNat % 64 then b else(TU t (n.toNat / 64)).toNat.testBit j) ->
    Sr (t.set (n.toNat / 64) (x:Int))/\∀ v,0<=v->v<512->hasB (t.set (n.toNat / 64) (x:Int)) v=if v=n then b else hasB t v:=by
   intro x hx hbit;refine⟨ht.set (WW.nat hx),λv hv0 hv1=>?_⟩
   unfold hasB;rw[AmG hi]
   by_cases he:v=n
   ·subst he;rw[if_pos rfl,if_pos rfl];show(x:Int).toNat.testBit _=b;rw[aAB,hbit _ (by omega),if_pos rfl]
   ·rw[if_neg he]
    by_cases hq:n.toNat / 64=v.toNat / 64
    ·rw[if_pos hq];show(x:Int).toNat.testBit _=_;rw[aAB,hbit _ (by omega),if_neg (AtY h0 hv0 he hq),hq]
     rfl
    simp_all
  cases b with
  | true =>
   simp only[aAn,cond_false,cond_true];rw[Aqk h0 h1];refine .chk (by omega) ?_
   rw[aAB,Zo hi,aA];refine .chk (by omega) ?_
   rw[aA];refine .pure ?_;rw[hb,Auc hw hp,aAB];refine fin _ (AqV hw.toNat_lt (Aog _ (by omega))) λj hj=>?_
   rw[Nat.testBit_or,Nat.testBit_two_pow]
   grind
  | false =>
   simp only[aAn,cond_false];rw[Aqk h0 h1];refine .chk (by omega) ?_
   rw[aAB,Zo hi,aA];refine .chk (by omega) ?_
   rw[aA];refine .pure ?_;rw[hb,Anl hw hp,aAB];refine fin _ (AlJ hw.toNat_lt) λj hj=>?_
   rw[AnF hw.toNat_lt (Aog _ (by omega)),Nat.testBit_two_pow]
   grind
 ·rw[decide_eq_false h];exact .pure ⟨ht,λv h0 h1=>by grind⟩
theorem AhQ (l:List Int) (hl:l.length<=9000000000000000000):Hs (Se l) λr=>Sr r/\∀ v,0<=v->v<512->hasB r v=decide (v∈l):=by
 refine Hs.loop (λs=>Sr s.1/\∃ k:Nat,s.2=(k:Int)/\k<=l.length/\∀ v,0<=v->v<512->hasB s.1 v=decide (v∈l.take k)) (λs=>l.length-s.2.toNat) ⟨Sr.zero,0,rfl,aAD _,λv _ _=>by simp[AqL]⟩ ?_
 rintro⟨t,k'⟩ ⟨ht,k,hk',hk,hall⟩;subst hk';refine .dec (λhlt=>?_) λhge=>?_
 ·have hlt:k<l.length:=by omega
  refine Hs.bind (P:=λx=>l[k]? =some x) ⟨l[k],by simp[hlt],by simp[hlt]⟩ λx hx=>(Arb ht x true).bind λr hr=>.cnt ?_
  rw[OZ (by omega)]
  refine⟨⟨hr.1,k+1,rfl,hlt,λv h0 h1=>?_⟩,by grind⟩
  grind [aAO]
 ·have:k=l.length:=by omega
  subst this;exact .lft (.pure ⟨ht,λv h0 h1=>by simp_all⟩)
theorem PQ.snoc {l:List Int} (h:PQ l) {z:Int} (h0:0<=z/\z<512) (hz:∀ x∈l,x<z):PQ (l++[z]):=by
 refine⟨List.pairwise_append.2 ⟨h.1,List.pairwise_singleton _ _,λa ha b hb=>?_⟩,λx hx=>?_⟩
 ·simp_all
 ·simp only[aAU,aAP]at hx;rcases hx with h1|rfl
  ·exact h.2 x h1
  ·exact h0
theorem AeK (ht:Sr t):Hs (RI t) λr=>r.2=t/\TC r.1 (λv=>hasB t v=true):=by
 refine Hs.loop (λs=>∃ i:Nat,s.2=(i:Int)/\i<=8/\TC s.1 (λv=>v<64*i/\hasB t v=true)) (λs=>8-s.2.toNat) ⟨0,rfl,by omega,⟨PQ.nil,λv=>by simp;omega⟩⟩ ?_
 rintro⟨l,i'⟩ ⟨i,hi',hi,hs⟩;subst hi';refine .dec (λhlt=>?_) λhge=>?_
 ·have hlt:i<8:=by omega
  refine .chk (by omega) ?_
  rw[aAB,Zo hlt,aA];have hw:=ht.word hlt;refine Hs.loop (λs=>WW s.2/\∃ c:Nat,c<=64/\TC s.1 (λv=>v<64*i+c/\hasB t v=true)/\∀ j,j<64->AcZ s.2 j=(decide (c<=j)&&AcZ (TU t i) j)) (λs=>s.2.toNat) ⟨hw,0,by omega,by simp_all,λj _=>by simp⟩ ?_
  rintro⟨m,x⟩ ⟨hx,c,hc,hm,hb⟩;simp only at hx hm hb;refine .bne (λhne=>?_) λhe=>?_
  ·have hx0:0<x.toNat:=by have:=hx.1;omega
   obtain⟨k1,k2,k3,k4⟩:=Asc hx0 hx.toNat_lt;generalize hk:Lib.ctz 64 x.toNat=k at k1 k2 k3 k4;have ek:Aih x=some (k:Int):=by
    unfold Aih;rw[PK (show 0<=x/\x<18446744073709551616 from hx),hk]
   rw[ek,aA];have hck:c<=k:=by
    grind [AcZ]
   have hwk:AcZ (TU t i) k=true:=by
    grind [AcZ]
   have e1:IntKind.i64.wrap (IntKind.i64.wrap (64*(i:Int))+(k:Int))=((64*i+k:Nat):Int):=by
    grind [wrap64]
   have e2:IntKind.u64.wrap (x-1)=x-1:=ArA ⟨by omega,by have:=hx.2;omega⟩
   have e3:(x-1).toNat=x.toNat-1:=by omega
   have hz:∀ v∈m,v<((64*i+k:Nat):Int):=λv hv=>by
    have:=((hm.2 v).1 hv).2.1;omega
   have hlen:=hm.1.length_le;refine .chk (by simp;omega) (.cnt ?_)
   rw[e1,e2,AsD hx ⟨by omega,by have:=hx.2;omega⟩,e3]
   refine⟨⟨WW.nat (AlJ hx.toNat_lt),k+1,by omega,⟨hm.1.snoc (by omega) hz,λv=>?_⟩,λj hj=>?_⟩,?_⟩
   ·simp only[aAU,aAP,hm.2];constructor
    ·grind [hasB]
    ·rintro⟨a,b,d⟩
     by_cases e:v=((64*i+k:Nat):Int)
     ·exact .inr e
     ·refine .inl ⟨a,?_,d⟩
      grind [AcZ,hasB]
   ·simp only;unfold AcZ;rw[aAB,k4]
    grind [AcZ]
   grind [Nat.and_le_right]
  ·have he:x=0:=he;subst he;refine .lft (.cnt ?_);rw[OZ (by omega)]
   refine⟨⟨i+1,rfl,hlt,hm.mono λv h0 h1=>⟨λ⟨a,b⟩=>⟨by omega,b⟩,λ⟨a,b⟩=>⟨?_,b⟩⟩⟩,by grind⟩
   grind [hasB,AcZ]
 ·have:i=8:=by omega
  exact .lft (.pure ⟨rfl,hs.mono λv h0 h1=>⟨λh=>h.2,λh=>⟨by omega,h⟩⟩⟩)
theorem ArD {x y:Int} (hx:WW x) (hy:WW y):WN x y=some ((x.toNat ||| y.toNat:Nat):Int):=by
 grind [WN,Auc]
theorem AqT {x y:Int} (hx:WW x) (hy:WW y):WM x y=some ((AnE x.toNat y.toNat:Nat):Int):=by
 grind [WM,Anl]
theorem Apt {s:BS} (hs:Sr s) (ht:Sr t) (g:Nat->Nat->Nat) (hg:∀ x y,x<18446744073709551616->y<18446744073709551616->g x y<18446744073709551616) (p:Bool->Bool->Bool) (hp:∀ x y j,x<18446744073709551616->y<18446744073709551616->j<64->(g x y).testBit j=p (x.testBit j) (y.testBit j)) {body:BS×Int->Option ((BS×Int)⊕(BS×BS×BS))} (hend:∀ x,body (x,8)=some (.inr (x,s,t))) (hstep:∀ x (i:Nat),i<8->body (x,(i:Int))=some (.inl (x.set i ((g (TU s i).toNat (TU t i).toNat:Nat):Int),((i+1:Nat):Int)))) :
  Hs (Pe body (⟨0,0,0,0,0,0,0,0⟩,0)) λr=>Sr r.1/\∀ v,0<=v->v<512->hasB r.1 v=p (hasB s v) (hasB t v):=by
 refine Hs.loop (λq=>Sr q.1/\∃ i:Nat,q.2=(i:Int)/\i<=8/\∀ j,j<i->TU q.1 j=((g (TU s j).toNat (TU t j).toNat:Nat):Int)) (λq=>8-q.2.toNat) ⟨Sr.zero,0,rfl,by omega,λj hj=>by omega⟩ ?_
 rintro⟨x,i'⟩ ⟨hx,i,hi',hi,hall⟩;subst hi'
 by_cases hlt:i<8
 ·refine⟨_,hstep x i hlt,⟨hx.set (WW.nat (hg _ _ (hs.word hlt).toNat_lt (ht.word hlt).toNat_lt)),i+1,rfl,hlt,λj hj=>?_⟩,by grind⟩
  simp only;rw[AmG hlt]
  grind
 ·obtain rfl:i=8:=by omega
  refine⟨_,hend x,hx,λv h0 h1=>?_⟩
  have hv:v.toNat / 64<8:=by omega
  unfold hasB;rw[hall _ hv];unfold AcZ;rw[aAB,hp _ _ _ (hs.word hv).toNat_lt (ht.word hv).toNat_lt (by omega)]
theorem AmV {s:BS} (hs:Sr s) (ht:Sr t):Hs (Sv s t) λr=>Sr r.1/\∀ v,0<=v->v<512->hasB r.1 v=(hasB s v||hasB t v):=by
 refine Apt hs ht (· ||| ·) (λx y=>AqV) (· ||·) (λx y j _ _ _=>Nat.testBit_or ..) (λx=>by simp[QM]) λx i hi=>?_
 have w:=OZ (show i<9223372036854775807 by omega)
 simp[QM,Zo hi,ArD (hs.word hi) (ht.word hi),w,show(i:Int)<8 by omega]
theorem AmU {s:BS} (hs:Sr s) (ht:Sr t):Hs (Su s t) λr=>Sr r.1/\∀ v,0<=v->v<512->hasB r.1 v=(hasB s v&& !hasB t v):=by
 refine Apt hs ht AnE (λx y hx _=>AlJ hx) (λa b=>a&& !b) (λx y j hx hy _=>AnF hx hy) (λx=>by simp[QL]) λx i hi=>?_
 have w:=OZ (show i<9223372036854775807 by omega)
 simp[QL,Zo hi,AqT (hs.word hi) (ht.word hi),w,show(i:Int)<8 by omega]
theorem Ant (l:List Int) (hl:l.length<=9000000000000000000):Hs (YK l) λr=>TC r (· ∈l):=by
 exact(AhQ l hl).bind λr hr=>(AeK hr.1).bind λq hq=>.pure (hq.2.mono λv h0 h1=>by simp_all)
theorem Anv (l:List Int) (n:Int) (hl:l.length<=9000000000000000000):Hs (Vz l n) λr=>TC r (λv=>v∈l/\v≠n):=by
 unfold Vz;refine(AhQ l hl).bind λr hr=>(Arb hr.1 n false).bind λu hu=>(AeK hu.1).bind λq hq=>.pure (hq.2.mono λv h0 h1=>?_)
 grind
theorem AoK (a b:List Int) (ha:a.length<=9000000000000000000) (hb:b.length<=9000000000000000000):Hs (Tf a b) λr=>TC r (λv=>v∈a\/v∈b):=by
 unfold Tf;refine(AhQ a ha).bind λr hr=>(AhQ b hb).bind λu hu=>(AmV hr.1 hu.1).bind λx hx=>(AeK hx.1).bind λq hq=>.pure (hq.2.mono λv h0 h1=>?_)
 simp_all
theorem AoJ (a b:List Int) (ha:a.length<=9000000000000000000) (hb:b.length<=9000000000000000000):Hs (WK a b) λr=>TC r (λv=>v∈a/\v∉b):=by
 unfold WK;refine(AhQ a ha).bind λr hr=>(AhQ b hb).bind λu hu=>(AmU hr.1 hu.1).bind λx hx=>(AeK hx.1).bind λq hq=>.pure (hq.2.mono λv h0 h1=>?_)
 simp_all
theorem Anu (hs:PQ s) (n:Int):Vz s n=some (s.filter (· != n)):=by
 obtain⟨r,h1,h2⟩:=Anv s n (by have:=hs.length_le;omega)
 rw[h1,h2.eq (TC.Alx (hs.filter (· != n))) λv _ _=>by simp_all]
theorem AdE {a b:List Int} (ha:PQ a) (hb:∀ x∈b,0<=x/\x<512) (hl:b.length<=1000):Tf a b=some (Rb a b):=by
 obtain⟨r,h1,h2⟩:=AoK a b (by have:=ha.length_le;omega) (by omega)
 obtain⟨h3,h4⟩:=UK (n:=512) (by omega) (b:=b) ⟨ha,λx hx=>(ha.2 x hx).2⟩ hb
 rw[h1,h2.eq (TC.Alx h3.1) λv _ _=>by rw[h4]]
theorem ArL {b:List Int} (hb:∀ x∈b,0<=x/\x<512) (hl:b.length<=1000):YK b=some (Rb [] b):=by
 obtain⟨r,h1,h2⟩:=Ant b (by omega)
 obtain⟨h3,h4⟩:=UK (n:=512) (by omega) (b:=b) ⟨PQ.nil,λx hx=>by cases hx⟩ hb
 rw[h1,h2.eq (TC.Alx h3.1) λv _ _=>by simp_all]
def TV (s:Pa):Prop:=s.Size∈([8,4,8,1,2,16,8]:List Int)/\s.Align∈([8,4,1,8,16,2,32,64]:List Int)
def W64 (w:Int):Prop:=0<=w/\w<18446744073709551616
def Reg (a:Int):Prop:=0<=a/\a<4
def Auv (sl:List Pa) (a b:Int):Prop:=0<=a/\a<sl.length/\∃ x y,sl[a.toNat]? =some x/\sl[b.toNat]? =some y/\x.Size=y.Size
inductive Uy (sl:List Pa) (np i:Int) (ps:List Int) (T:Int->Prop):OX->Prop
 | store (a b:Int):0<=a->a<sl.length->Reg b->Uy sl np i ps T ⟨16,a,b,0,0⟩
 | load (a b:Int):Reg a->0<=b->b<sl.length->Uy sl np i ps T ⟨15,a,b,0,0⟩
 | move (a b:Int):Auv sl a b->0<=b->b<sl.length->Uy sl np i ps T ⟨17,a,b,0,0⟩
 | const (a w:Int):Reg a->W64 w->Uy sl np i ps T ⟨0,a,0,0,w⟩
 | bin (op a b c:Int):2<=op->op<12->Reg a->Reg b->0<=c->c<8->Uy sl np i ps T ⟨op,a,b,c,0⟩
 | out (a:Int):Reg a->Uy sl np i ps T ⟨14,a,0,0,0⟩
 | un (op a:Int):(op=13\/op=12\/op=1)->Reg a->Uy sl np i ps T ⟨op,a,0,0,0⟩
 | param (a b:Int):Reg a->0<=b->b<np->Uy sl np i ps T ⟨19,a,b,0,0⟩
 | arg (a b:Int):0<=a->a<4->Reg b->Uy sl np i ps T ⟨18,a,b,0,0⟩
 | call (j:Int):i<j->j<ps.length->Uy sl np i ps T ⟨22,j,0,0,0⟩
 | jump (t:Int):T t->Uy sl np i ps T ⟨20,t,0,0,0⟩
 | branch (a t:Int):Reg a->T t->Uy sl np i ps T ⟨21,a,t,0,0⟩
def AsC (ps:List Int):Prop:=(∀ v∈ps,0<=v/\v<4)/\ps.length<=1000
theorem Uy.mono {np i:Int} {T T':Int->Prop} (h:Uy sl np i ps T x) (hT:∀ t,T t->T' t):Uy sl np i ps T' x:=by
 cases h with
 | store a b h1 h2 h3=>exact .store a b h1 h2 h3
 | load a b h1 h2 h3=>exact .load a b h1 h2 h3
 | move a b h1 h2 h3=>exact .move a b h1 h2 h3
 | const a w h1 h2=>exact .const a w h1 h2
 | bin op a b c h1 h2 h3 h4 h5 h6=>exact .bin op a b c h1 h2 h3 h4 h5 h6
 | out a h1=>exact .out a h1
 | un op a h1 h2=>exact .un op a h1 h2
 | param a b h1 h2 h3=>exact .param a b h1 h2 h3
 | arg a b h1 h2 h3=>exact .arg a b h1 h2 h3
 | call j h1 h2=>exact .call j h1 h2
 | jump t h1=>exact .jump t (hT t h1)
 | branch a t h1 h2=>exact .branch a t h1 (hT t h2)
def Apu (x:OX):Prop:=x=⟨23,0,0,0,0⟩\/∃ w,W64 w/\x=⟨24,0,0,0,w⟩
def AkB (x:OX) (t:Int):OX :=
 if x.Op=20/\x.A<0 then⟨x.Op,t,x.B,x.C,x.Imm⟩else if x.Op=21/\x.B<0 then⟨x.Op,x.A,t,x.C,x.Imm⟩else x
theorem Apu.fix (h:Apu x) (t:Int):AkB x t=x:=by
 rcases h with rfl|⟨w,_,rfl⟩<;>simp[AkB]
theorem Uy.fix {np i:Int} {T:Int->Prop} (h:Uy sl np i ps (· = -1) x) {t:Int} (ht:T t):Uy sl np i ps T (AkB x t):=by
 cases h with
 | store a b h1 h2 h3=>exact .store a b h1 h2 h3
 | load a b h1 h2 h3=>exact .load a b h1 h2 h3
 | move a b h1 h2 h3=>exact .move a b h1 h2 h3
 | const a w h1 h2=>exact .const a w h1 h2
 | bin op a b c h1 h2 h3 h4 h5 h6 =>
  have:AkB ⟨op,a,b,c,0⟩ t=⟨op,a,b,c,0⟩:=by grind [AkB]
  rw[this];exact .bin op a b c h1 h2 h3 h4 h5 h6
 | out a h1=>exact .out a h1
 | un op a h1 h2 =>
  have:AkB ⟨op,a,0,0,0⟩ t=⟨op,a,0,0,0⟩:=by grind [AkB]
  rw[this];exact .un op a h1 h2
 | param a b h1 h2 h3=>exact .param a b h1 h2 h3
 | arg a b h1 h2 h3=>exact .arg a b h1 h2 h3
 | call j h1 h2=>exact .call j h1 h2
 | jump q h1=>subst h1;exact .jump t ht
 | branch a q h1 h2=>subst h2;exact .branch a t h1 ht
structure Aam (ps:List Int) (i most:Int) (f:Lo):Prop where
 par:ps[i.toNat]? =some f.Params
 slots:f.Slots.length<=6
 slot:∀ s∈f.Slots,TV s
 len:1<=f.Code.length
 len':(f.Code.length:Int)<=7+5*most
 body:∀ (k:Nat) x,f.Code[k]? =some x->k+1<f.Code.length->Uy f.Slots f.Params i ps (λt=>0<=t/\t<f.Code.length) x
 last:∀ x,f.Code[f.Code.length-1]? =some x->Apu x
def Aqo (funcs most:Int) (p:Pr):Prop :=
 ∃ ps,AsC ps/\ps[0]? =some 0/\1<=ps.length/\(ps.length:Int)<=funcs/\p.Funcs.length=ps.length/\∀ (j:Nat) f,p.Funcs[j]? =some f->Aam ps j most f
def Ut (f:Lo) (k:Nat):OX:=(f.Code[k]?).getD default
def PI (x:OX) (k:Int):List Int :=
 if x.Op=20 then[x.A]else if x.Op=23\/x.Op=24 then[]else
 if x.Op=21 then(if x.B<k+1 then[x.B,k+1]else if k+1<x.B then[k+1,x.B]else[k+1])else[k+1]
theorem Aol (h:f.Code[k]? =some x) (hk:k<9223372036854775807):AeO f (k:Int)=some (PI x k):=by
 obtain⟨hl,hx⟩:=aAC.1 h;have hnl:¬ f.Code.length<=k:=by omega
 have w:IntKind.i64.wrap ((k:Int)+1)=(k:Int)+1:=wrap64 (by omega) (by omega)
 unfold AeO Aip PI;obtain⟨op,a,b,c,i⟩:=x
 by_cases h20:op=20
 ·subst h20;simp[hx,hl,hnl,show ¬ (k:Int)<0 by omega]
 ·have e20:(op==20)=false:=by simpa using h20
  by_cases h23:op=23
  ·subst h23;simp[hx,hl,hnl,show ¬ (k:Int)<0 by omega,Tu]
  ·have e23:(op==23)=false:=by simpa using h23
   by_cases h24:op=24
   ·subst h24;simp[hx,hl,hnl,show ¬ (k:Int)<0 by omega,Tu]
   ·have e24:(op==24)=false:=by simpa using h24
    by_cases h21:op=21
    ·subst h21
     by_cases hb:b<(k:Int)+1
     ·simp[hx,hl,hnl,show ¬ (k:Int)<0 by omega,Tu,w,hb]
     ·by_cases hb':(k:Int)+1<b
      ·simp[hx,hl,hnl,show ¬ (k:Int)<0 by omega,Tu,w,hb,hb']
      ·simp[hx,hl,hnl,show ¬ (k:Int)<0 by omega,Tu,w,hb,hb']
    ·have e21:(op==21)=false:=by simpa using h21
     simp[hx,hl,hnl,show ¬ (k:Int)<0 by omega,Tu,w,h20,h23,h24,h21]
def PT (x:OX):List Int:=if x.Op=15\/x.Op=17 then[x.B]else[]
structure Ps (f:Lo):Prop where
 len:1<=f.Code.length
 len':f.Code.length<=10000
 slots:f.Slots.length<=500
 next:∀ (k:Nat) x,f.Code[k]? =some x->∀ j∈PI x k,0<=j/\j<f.Code.length
 uses:∀ x∈f.Code,∀ v∈PT x,0<=v/\v<f.Slots.length
theorem Aam.ApU {i most:Int} (h:Aam ps i most f) (hm:most<=1000):Ps f:=by
 have hl:=h.len;have hl':=h.len';have hs:=h.slots;refine⟨hl,by omega,by omega,λk x hx j hj=>?_,λx hx v hv=>?_⟩
 ·have hkl:=(aAC.1 hx).1
  by_cases hk:k+1<f.Code.length
  ·have hins:=h.body k x hx hk;cases hins with
   | jump t h1=>simp[PI]at hj;subst hj;exact h1
   | branch a t h0 h1 =>
    simp[PI]at hj;have:j=t\/j=(k:Int)+1:=by
     split at hj
     ·simpa using hj
     ·split at hj
      ·simp at hj;omega
      ·simp at hj;omega
    rcases this with rfl|rfl<;>omega
   | bin op a b c h1 h2 h3 h4 h5 h6 =>
    simp[PI,show op≠20 by omega,show op≠23 by omega,show op≠24 by omega,show op≠21 by omega]at hj
    subst hj;omega
   | un op a h1 h2 =>
    simp[PI,show op≠20 by omega,show op≠23 by omega,show op≠24 by omega,show op≠21 by omega]at hj
    subst hj;omega
   | _=>simp[PI]at hj;subst hj;omega
  ·have he:=h.last x (by rw[show f.Code.length-1=k by omega];exact hx)
   rcases he with rfl|⟨w,_,rfl⟩<;>simp[PI]at hj
 ·obtain⟨k,hk⟩:=aAR hx;have hkl:=(aAC.1 hk).1
  by_cases hk1:k+1<f.Code.length
  ·have hins:=h.body k x hk hk1;cases hins with
   | load a b h0 h1 h2=>simp[PT]at hv;subst hv;exact⟨h1,h2⟩
   | move a b h0 h1 h2=>simp[PT]at hv;subst hv;exact⟨h1,h2⟩
   | bin op a b c h1 h2 h3 h4 h5 h6=>simp[PT,show op≠15 by omega,show op≠17 by omega]at hv
   | un op a h1 h2=>simp[PT,show op≠15 by omega,show op≠17 by omega]at hv
   | _=>simp[PT]at hv
  ·have he:=h.last x (by rw[show f.Code.length-1=k by omega];exact hk)
   rcases he with rfl|⟨w,_,rfl⟩<;>simp[PT]at hv
def PE (n:Int) (s:List Int):Prop:=PQ s/\∀ x∈s,x<n
theorem PE.nil (n:Int):PE n []:=⟨PQ.nil,λx hx=>by cases hx⟩
theorem PE.add {n m:Int} (h:PE n s) (hm:0<=m/\m<n) (hn:n<=512):PE n (Uz m s)/\VU s m=some (Uz m s):=by
 have hl:=h.1.length_le;refine⟨?_,add_eq s m (by omega)⟩
 unfold Uz;rw[if_pos (by omega)]
 refine⟨h.1.Wo (by omega),λx hx=>?_⟩
 rw[Ado]at hx;rcases hx with rfl|hx
 ·exact hm.2
 ·exact h.2 x hx
def RowsIn (n:Int) (g:List (List Int)):Prop:=∀ s∈g,PE n s
theorem RowsIn.set {n:Int} (h:RowsIn n g) (hs:PE n s):RowsIn n (g.set i s):=by
 intro x hx;rcases aAS hx with h1|rfl
 ·exact h x h1
 ·exact hs
def inN (x:OX) (s:List Int):List Int:=Rb (if x.Op=16\/x.Op=17 then s.filter (· != x.A)else s) (PT x)
theorem AsE (x:OX) (s:List Int) (h:s.length<=900000):AhW x s=some (inN x s):=by
 obtain⟨op,a,b,c,i⟩:=x;have hu:UI ⟨op,a,b,c,i⟩=some (PT ⟨op,a,b,c,i⟩):=by
  grind [UI,PT]
 have hul:(PT ⟨op,a,b,c,i⟩).length<=1:=by grind [PT]
 have hfl:(s.filter (· != a)).length<=s.length:=List.length_filter_le ..;have hr:=Ari s a (by omega)
 grind [union_eq,AhW,SJ,Sy,inN]
theorem Xd (hf:Ps f) (hx:x∈f.Code) (hs:PE f.Slots.length s) :
  PE f.Slots.length (inN x s)/\∀ v,v∈inN x s↔(v∈s/\¬ ((x.Op=16\/x.Op=17)/\x.A=v))\/v∈PT x:=by
 have hsl:=hf.slots;have h0:PE f.Slots.length (if x.Op=16\/x.Op=17 then s.filter (· != x.A)else s):=by
  split
  ·exact⟨hs.1.filter _,λv hv=>hs.2 v (aAb.1 hv).1⟩
  ·exact hs
 obtain⟨h1,h2⟩:=UK (n:=f.Slots.length) (by omega) (b:=PT x) h0 (hf.uses x hx)
 refine⟨h1,λv=>?_⟩
 unfold inN
 grind
def OU (f:Lo) (j:Int):OX:=(f.Code[j.toNat]?).getD default
def Pk (l:List (List Int)) (j:Int):List Int:=(l[j.toNat]?).getD []
def Qt (f:Lo) (l:List (List Int)) (k:Int):List Int:=(PI (OU f k) k).foldl (λo j=>Rb o (inN (OU f j) (Pk l j))) []
def Sp (f:Lo) (l:List (List Int)):List (List Int):=(aAh f.Code.length).map λk=>Qt f l (k:Nat)
def QA (f:Lo) (l:List (List Int)):Prop:=l.length=f.Code.length/\∀ s∈l,PE f.Slots.length s
theorem AkD {f:Lo} (hf:Ps f) {l:List (List Int)} (hl:QA f l):∀ {js:List Int} {o:List Int},(∀ j∈js,0<=j/\j<f.Code.length)->PE f.Slots.length o ->
  PE f.Slots.length (js.foldl (λo j=>Rb o (inN (OU f j) (Pk l j))) o)/\∀ v,v∈js.foldl (λo j=>Rb o (inN (OU f j) (Pk l j))) o↔v∈o\/∃ j∈js,v∈inN (OU f j) (Pk l j)
 | [],o,_,ho=>⟨ho,λv=>by simp⟩
 | j::js,o,hj,ho=>by
  have hsl:=hf.slots;have h0:=hj j (aAM ..);have hc:OU f j∈f.Code:=by
   grind [OU]
  have ho':PE f.Slots.length (Pk l j):=by
   unfold Pk;rw[aAA (show j.toNat<l.length by have:=hl.1;omega)]
   exact hl.2 _ (aAF _)
  obtain⟨h1,h2⟩:=Xd hf hc ho';obtain⟨h3,h4⟩:=UK (n:=f.Slots.length) (by omega) (b:=inN (OU f j) (Pk l j)) ho λx hx=>⟨(h1.1.2 x hx).1,h1.2 x hx⟩
  obtain⟨h5,h6⟩:=AkD hf hl (λq hq=>hj q (aAI _ hq)) h3
  grind
theorem Td (hf:Ps f) (hl:QA f l) (hk:k<f.Code.length) :
  PE f.Slots.length (Qt f l k)/\∀ v,v∈Qt f l k↔∃ j∈PI (OU f k) k,v∈inN (OU f j) (Pk l j):=by
 have hx:f.Code[k]? =some (OU f k):=by grind [OU]
 obtain⟨h1,h2⟩:=AkD hf hl (js:=PI (OU f k) k) (hf.next k _ hx) (PE.nil _)
 grind [Qt]
theorem Aou (hf:Ps f) (hl:QA f l):QA f (Sp f l):=by
 refine⟨by simp[Sp],λs hs=>?_⟩
 obtain⟨k,hk,rfl⟩:=List.mem_map.1 hs
 grind [Td]
theorem step_eq (hf:Ps f) (hl:QA f l):AhY f ⟨l⟩=some ⟨Sp f l⟩:=by
 have hlen:=hf.len';unfold AhY;rw[PK (by omega)]
 have key:Hs (Pe (λs:List (List Int)×Int=>AaI f ⟨l⟩ s.1 s.2) (aAf (f.Code.length:Int).toNat ([]:List Int),0)) λr=>r=⟨Sp f l⟩:=by
  refine Hs.loop (λs=>s.1.length=f.Code.length/\∃ k:Nat,s.2=(k:Int)/\k<=f.Code.length/\∀ (j:Nat) r,s.1[j]? =some r->r=if j<k then Qt f l j else[]) (λs=>f.Code.length-s.2.toNat) ⟨by simp,0,rfl,aAD _,λj r hj=>?_⟩ ?_
  ·grind
  rintro⟨x,k'⟩ ⟨hxl,k,hke,hk,hall⟩;simp only at hxl hke hall;subst hke
  by_cases hlt:k<f.Code.length
  ·have w:=OZ (show k<9223372036854775807 by omega)
   have hx:f.Code[k]? =some (OU f k):=by grind [OU]
   have hxk:x[k]? =some []:=by
    grind
   have hset:x.set k []=x:=by
    grind [List.set_getElem_self]
   have inner:=QT (body:=λs:List (List Int)×Int=>AaJ (PI (OU f k) k) k f ⟨l⟩ s.1 s.2) (PI (OU f k) k) (λ(o:List Int) i=>(x.set k o,i)) (λo _=>PE f.Slots.length o)
    (λo js=>some (.inl (x.set k (js.foldl (λo j=>Rb o (inN (OU f j) (Pk l j))) o),((k+1:Nat):Int))))
    (λo _=>⟨_,by simp[AaJ,Aiq,w];rfl,by simp⟩) (λo i j r ho hd hi hj=>by
     left
     have wi:=OZ (show i<9223372036854775807 by
      grind [PI])
     have hjm:=hf.next k _ hx j (aAE hj);have hjc:f.Code[j.toNat]? =some (OU f j):=by grind [OU]
     have hjl:j.toNat<l.length:=by have:=hl.1;omega
     have hjo:l[j.toNat]? =some (Pk l j):=by grind [Pk]
     have hos:PE f.Slots.length (Pk l j):=hl.2 _ (aAE hjo);have hsl:=hf.slots;obtain⟨g1,g2⟩:=Xd hf (aAE hjc) hos;obtain⟨g3,g4⟩:=UK (n:=f.Slots.length) (by omega) (b:=inN (OU f j) (Pk l j)) ho λx hx=>⟨(g1.1.2 x hx).1,g1.2 x hx⟩
     have e1:=AsE (OU f j) (Pk l j) (by have:=hos.1.length_le;omega)
     have e2:=union_eq o (inN (OU f j) (Pk l j)) (by have:=ho.1.length_le;have:=g1.1.length_le;omega)
     obtain⟨_,hje⟩:=aAC.1 hj;refine⟨Rb o (inN (OU f j) (Pk l j)),g3,?_,by simp⟩
     simp_all[AaJ,QB]) [] (PE.nil _)
   simp only[hset]at inner;refine⟨.inl (x.set k (Qt f l k),((k+1:Nat):Int)),?_,⟨by simp_all,k+1,rfl,hlt,λj r hj=>?_⟩,by grind⟩
   ·simp only[AaI,decide_eq_true (aAV.2 hlt),cond_true,Aol hx (by omega),aA]
    exact inner
   grind
  ·refine⟨.inr ⟨x⟩,by simp[AaI,hlt],?_⟩
   congr 1;refine List.ext_getElem (by grind [Sp]) λj h1 h2=>?_
   have:=hall j _ (aAA h1);rw[this,if_pos (by omega)]
   simp[Sp]
 obtain⟨r,h1,rfl⟩:=key;exact h1
def LE (a b:List (List Int)):Prop:=∀ (k:Nat) s t,a[k]? =some s->b[k]? =some t->∀ v∈s,v∈t
theorem LE.trans {a b c:List (List Int)} (h1:LE a b) (h2:LE b c) (hl:a.length=b.length):LE a c:=by
 intro k s t hs ht v hv;have hk:=(aAC.1 hs).1;have hb:b[k]? =some (b[k]'(by omega)):=aAA _
 exact h2 k _ t hb ht v (h1 k s _ hs hb v hv)
theorem Aow:∀ {a b:List (List Int)},a.length=b.length->(∀ s∈a,PQ s)->(∀ s∈b,PQ s)->LE a b->(a.map List.length).sum<=(b.map List.length).sum/\((a.map List.length).sum=(b.map List.length).sum->a=b)
 | [],[],_,_,_,_=>⟨aAT _,λ_=>rfl⟩
 | [],y::b,h,_,_,_=>by simp at h
 | x::a,[],h,_,_,_=>by simp at h
 | x::a,y::b,h,ha,hb,hle=>by
  have hsub:=(ha x (aAM ..)).sub (hb y (aAM ..)) (hle 0 x y rfl rfl);obtain⟨h1,h2⟩:=Aow (a:=a) (b:=b) (by simp_all) (λs hs=>ha s (aAI _ hs)) (λs hs=>hb s (aAI _ hs)) λk s t hs ht=>hle (k+1) s t (by simp_all) (by simp_all)
  grind
theorem Ajx:∀ {a:List (List Int)},(∀ s∈a,PQ s)->(a.map List.length).sum<=512*a.length
 | [],_=>by simp
 | x::a,ha=>by
  have h1:=(ha x (aAM ..)).length_le;have h2:=Ajx (a:=a) λs hs=>ha s (aAI _ hs)
  grind
theorem ArV (hf:Ps f) (hx:x∈f.Code) {t:List Int} (hs:PE f.Slots.length s) (ht:PE f.Slots.length t) (h:∀ v∈s,v∈t):∀ v∈inN x s,v∈inN x t:=by
 intro v hv;rw[(Xd hf hx hs).2]at hv;rw[(Xd hf hx ht).2]
 grind
theorem Agj (hf:Ps f) {a b:List (List Int)} (ha:QA f a) (hb:QA f b) (h:LE a b):LE (Sp f a) (Sp f b):=by
 intro k s t hs ht v hv;have hk:k<f.Code.length:=by grind [Sp]
 have e1:s=Qt f a k:=by grind [Sp]
 have e2:t=Qt f b k:=by grind [Sp]
 subst e1 e2;rw[(Td hf ha hk).2]at hv;rw[(Td hf hb hk).2];obtain⟨j,hj,hv⟩:=hv;have hx:f.Code[k]? =some (OU f k):=by grind [OU]
 have hjm:=hf.next k _ hx j hj;have hjc:f.Code[j.toNat]? =some (OU f j):=by grind [OU]
 have hja:a[j.toNat]? =some (Pk a j):=by simp[Pk,show j.toNat<a.length by have:=ha.1;omega]
 have hjb:b[j.toNat]? =some (Pk b j):=by simp[Pk,show j.toNat<b.length by have:=hb.1;omega]
 exact⟨j,hj,ArV hf (aAE hjc) (ha.2 _ (aAE hja)) (hb.2 _ (aAE hjb)) (h _ _ _ hja hjb) v hv⟩
structure UN (f:Lo) (l:List (List Int)):Prop where
 ok:QA f l
 fix:Sp f l=l
 least:∀ b,QA f b->LE (Sp f b) b->LE l b
theorem Aop (hf:Ps f):Hs (AgG f) λl=>UN f l.Out:=by
 have hlen:=hf.len';refine .chk (by omega) ?_
 refine Hs.loop (λl=>QA f l/\LE l (Sp f l)/\∀ b,QA f b->LE (Sp f b) b->LE l b) (λl=>512*f.Code.length-(l.map List.length).sum) ⟨⟨by simp,λs hs=>?_⟩,λk s t hs ht v hv=>?_,λb _ _ k s t hs ht v hv=>?_⟩ ?_
 ·grind [PE.nil]
 ·grind
 ·grind
 ·rintro l ⟨hl,hle,hleast⟩;have hl':=Aou hf hl;have e1:=step_eq hf hl;have e2:AhX ⟨Sp f l⟩ ⟨l⟩=some (decide (Sp f l=l)):=by
   unfold AhX;rw[Aqn _ _ (by have:=hl'.1;grind) (λs hs=>by have:=(hl'.2 s hs).1.length_le;omega)]
   rfl
  obtain⟨s1,s2⟩:=Aow (by rw[hl.1,hl'.1]) (λs hs=>(hl.2 s hs).1) (λs hs=>(hl'.2 s hs).1) hle
  have s3:=Ajx λs hs=>(hl'.2 s hs).1
  rw[hl'.1]at s3;unfold Ahg;rw[e1,aA,e2,aA]
  by_cases he:Sp f l=l
  ·simp only[he,decide_true,cond_true];exact .lft (.pure ⟨hl,he,hleast⟩)
  ·simp only[he,decide_false,cond_false];refine .cnt ⟨⟨hl',Agj hf hl hl' hle,λb hb hb'=>(Agj hf hl hb (hleast b hb hb')).trans hb' (by rw[hl'.1,(Aou hf hb).1])⟩,?_⟩
   grind
theorem AnJ (x:OX):Wn x=some (PT x):=by
 obtain⟨op,a,b,c,i⟩:=x;unfold Wn PT
 by_cases h15:op=15
 ·simp[h15]
 ·have e15:(op==15)=false:=by simpa using h15
  by_cases h17:op=17
  ·simp[h17]
  ·have e17:(op==17)=false:=by simpa using h17
   simp[h15,e15,h17,e17]
theorem AeV (x:OX):RC x=some (if x.Op=16\/x.Op=17 then(x.A,true)else(0,false)):=by
 obtain⟨op,a,b,c,i⟩:=x;unfold RC
 by_cases h16:op=16
 ·simp[h16]
 ·have e16:(op==16)=false:=by simpa using h16
  by_cases h17:op=17
  ·simp[h17]
  ·have e17:(op==17)=false:=by simpa using h17
   simp[h16,e16,h17,e17]
theorem Aps (x:OX):(PT x).length<=1:=by unfold PT;split<;>simp
theorem ArE (x:OX) (hu:∀ v∈PT x,0<=v/\v<512):Rb [] (PT x)=PT x:=by
 unfold PT at hu ⊢;split
 ·rename_i h;rw[if_pos h]at hu;have:=hu x.B (by simp)
  simp[Rb,Uz,Wo,this]
 ·rfl
theorem AqD (hs:PQ s) (hu:∀ v∈PT x,0<=v/\v<512):AbA x s=some (inN x s):=by
 have hl:=Aps x;have h1:=ArL hu (by omega)
 rw[ArE x hu]at h1;have h2:=Anu hs x.A;have h3:=AdE (hs.filter (· != x.A)) hu (by omega)
 have h4:=AdE hs hu (by omega)
 unfold AbA inN;rw[AeV,aA,AnJ]
 by_cases h:x.Op=16\/x.Op=17
 ·simp only[h,if_true,cond_true,aA,h1,h2,h3]
 ·simp only[h,if_false,cond_false,aA,h1,h4]
theorem AoI {a b:List Int} (ha:PQ a) (hb:PQ b):WK a b=some (a.filter λv=>!decide (v∈b)):=by
 obtain⟨r,h1,h2⟩:=AoJ a b (by have:=ha.length_le;omega) (by have:=hb.length_le;omega)
 rw[h1,h2.eq (TC.Alx (ha.filter λv=>!decide (v∈b))) λv _ _=>by simp[aAb]]
theorem Ark (a b:List Int) (ha:a.length<=16777215) (hb:b.length<=9223372036854775807):AgF a b=some (a.filter λv=>!decide (v∈b)):=by
 unfold AgF;have:=QT (body:=λp:List Int×Int=>Xj a b p.1 p.2) a (λ(out:List Int) i=>(out,i)) (λout i=>out.length<=i) (λout l=>some (out++l.filter λv=>!decide (v∈b)))
  (λout _=>⟨out,by simp[Xj],by simp⟩) (λout i x r ho hd hi hx=>by
   have w:=OZ (show i<9223372036854775807 by omega)
   obtain⟨_,rfl⟩:=aAC.1 hx;left
   by_cases h:a[i]∈b
   ·exact⟨out,by omega,by simp[Xj,hi,XV b _ hb,h,w],by simp[h]⟩
   ·exact⟨out++[a[i]],by simp;omega,by simp[Xj,hi,XV b _ hb,h,w,show out.length<=16777215 by omega],by simp[h]⟩)
  [] (by simp)
 simpa using this
theorem Aka:Lib.compact ([]:List Int)=[]:=by simp[Lib.compact,Lib.compactUpTo]
theorem Akb (a:Int):Lib.compact [a]=[a]:=by simp[Lib.compact,Lib.compactUpTo,aAd,Lib.keeps]
theorem Agu (a b:Int):Lib.compact [a,b]=if a=b then[a]else[a,b]:=by
 by_cases h:a=b
 ·subst h;simp[Lib.compact,Lib.compactUpTo,aAd,Lib.keeps]
 ·have h':¬ b=a:=λe=>h e.symm
  simp[Lib.compact,Lib.compactUpTo,aAd,Lib.keeps,h,h']
theorem Aos (a:Int):YG [a]=[a]:=by simp[YG]
theorem Aor:YG []=[]:=by simp[YG]
theorem Asv (a b:Int):YG [a,b]=if a<=b then[a,b]else[b,a]:=by
 unfold YG List.mergeSort
 by_cases h:a<=b<;>simp[List.MergeSort.Internal.splitInTwo,h]
theorem AkC (h:f.Code[k]? =some x) (hk:k<9223372036854775807):YV f (k:Int)=some (PI x k):=by
 obtain⟨hl,hx⟩:=aAC.1 h;have hnl:¬ f.Code.length<=k:=by omega
 have w:IntKind.i64.wrap ((k:Int)+1)=(k:Int)+1:=wrap64 (by omega) (by omega)
 unfold YV Acf YW PI ZJ;obtain⟨op,a,b,c,i⟩:=x
 by_cases h20:op=20
 ·subst h20;simp[hx,hl,hnl,show ¬ (k:Int)<0 by omega,Aos,Akb]
 ·have e20:(op==20)=false:=by simpa using h20
  by_cases h23:op=23
  ·subst h23;simp[hx,hl,hnl,show ¬ (k:Int)<0 by omega,Aor,Aka]
  ·have e23:(op==23)=false:=by simpa using h23
   by_cases h24:op=24
   ·subst h24;simp[hx,hl,hnl,show ¬ (k:Int)<0 by omega,Aor,Aka]
   ·have e24:(op==24)=false:=by simpa using h24
    by_cases h21:op=21
    ·subst h21;simp[hx,hl,hnl,show ¬ (k:Int)<0 by omega,w,Asv]
     by_cases hb:b<(k:Int)+1
     ·simp[hb,show ¬ (k:Int)+1<=b by omega,Agu,show ¬ b=(k:Int)+1 by omega]
     ·by_cases hb':(k:Int)+1<b
      ·simp[hb,hb',show(k:Int)+1<=b by omega,Agu,show ¬ (k:Int)+1=b by omega]
      ·simp[Agu,show(k:Int)+1=b by omega]
    ·have e21:(op==21)=false:=by simpa using h21
     simp[hx,hl,hnl,show ¬ (k:Int)<0 by omega,w,e24,h20,h23,h24,h21,Aos,Akb]
attribute [local simp] PK
theorem AnY (hs:s.Pairwise (· <·)) {n:Int} {h:s.length-1<s.length} (hl:s[s.length-1]<n):∀ v∈s,v<n:=by
 grind [List.getElem_of_mem,aAq]
theorem AsB (s:List Int) (f:Lo) (hs:s.length<=maxLen):Hs (SS s f) λb=>(b=false↔PE f.Slots.length s):=by
 have hm:maxLen<=9223372036854775807:=by decide
 unfold SS;rw[Abr s (by omega),aA]
 by_cases hc:SX none s=true
 ·have hset:=(Abq s).1 hc;rw[hc];refine .dec (λhp=>?_) λhp=>?_
  ·have hi:s.length-1<s.length:=by omega
   have w:IntKind.i64.wrap ((s.length:Int)-1)=((s.length-1:Nat):Int):=by grind [wrap64]
   rw[w,Pp,aAA hi,aA];refine .pure ⟨λh=>⟨hset,AnY hset.1 (h:=hi) (by simp_all)⟩,λh=>?_⟩
   have:=h.2 _ (aAF hi);simp;omega
  ·have:s=[]:=aAa.1 (by omega)
   subst this;exact .pure ⟨λ_=>PE.nil _,λ_=>rfl⟩
 ·have hc':SX none s=false:=by simp_all
  rw[hc'];exact .pure ⟨λh=>(by cases h),λh=>(hc ((Abq s).2 h.1)).elim⟩
theorem Amp (f:Lo) (l:Ph) (hl:l.Out.length<=maxLen) (hr:∀ s∈l.Out,s.length<=maxLen):Hs (Ve f l) λb=>(b=true↔QA f l.Out):=by
 have hm:maxLen<=9223372036854775807:=by decide
 refine .beq (λhe=>?_) λhne=>.pure ⟨λh=>(by cases h),λh=>(hne (by rw[h.1])).elim⟩
 have he:l.Out.length=f.Code.length:=by omega
 have key:Hs (Rk l.Out f) λi=>(0<=i↔¬ ∀ s∈l.Out,PE f.Slots.length s):=by
  refine Hs.loop (λi=>∃ k:Nat,i=(k:Int)/\k<=l.Out.length/\∀ (j:Nat) s,j<k->l.Out[j]? =some s->PE f.Slots.length s) (λi=>l.Out.length-i.toNat) ⟨0,rfl,aAD _,λj s h=>absurd h (aAG _)⟩ ?_
  rintro _ ⟨k,rfl,hk,hall⟩;refine .dec (λhlt=>?_) λhge=>?_
  ·have hlt:k<l.Out.length:=by omega
   rw[Pp,aAA hlt,aA];refine(AsB _ f (hr _ (aAF hlt))).bind λb hb=>.cond (λh=>?_) λh=>?_
   ·refine .lft (.pure ⟨λ_ hh=>?_,λ_=>by omega⟩)
    simp_all
   ·rw[OZ (by omega)]
    refine .cnt ⟨⟨k+1,rfl,hlt,λj s hj hs=>?_⟩,by grind⟩
    grind
  ·refine .lft (.pure ⟨λh=>by omega,λh=>(h λs hs=>?_).elim⟩)
   grind [aAR]
 refine Hs.bind (P:=λb=>(b=true↔¬ ∀ s∈l.Out,PE f.Slots.length s)) (key.bind λi hi=>.pure (by simp_all)) λb hb=>.pure ?_
 constructor
 ·intro h;have hb':b=false:=by simp_all
  refine⟨he,λs hs=>?_⟩
  simp_all
 ·intro h;have:¬ b=true:=λhbt=>hb.1 hbt h.2
  simp_all
theorem Aon (f:Lo) (l:Ph) (hl:l.Out.length<=maxLen) (hr:∀ s∈l.Out,s.length<=maxLen):Hs (AgH f l) λb=>(b=true↔QA f l.Out):=by
 have hm:maxLen<=9223372036854775807:=by decide
 refine .bne (λhne=>.pure ⟨λh=>(by cases h),λh=>(hne (by rw[h.1])).elim⟩) λhe=>?_
 have he:l.Out.length=f.Code.length:=by omega
 refine Hs.loop (λi=>∃ k:Nat,i=(k:Int)/\k<=l.Out.length/\∀ (j:Nat) s,j<k->l.Out[j]? =some s->PE f.Slots.length s) (λi=>l.Out.length-i.toNat) ⟨0,rfl,aAD _,λj s h=>absurd h (aAG _)⟩ ?_
 rintro _ ⟨k,rfl,hk,hall⟩;refine .dec (λhlt=>?_) λhge=>?_
 ·have hlt:k<l.Out.length:=by omega
  have hg:l.Out[k]? =some l.Out[k]:=aAA hlt;have hlen:=hr _ (aAF hlt);rw[Pp,hg,aA,Afl _ (by omega),aA]
  have next:PE f.Slots.length l.Out[k]->Hs (cnt (R:=Bool) (IntKind.i64.wrap ((k:Int)+1))) (Rnd (λi:Int=>∃ k:Nat,i=(k:Int)/\k<=l.Out.length/\∀ (j:Nat) s,j<k->l.Out[j]? =some s->PE f.Slots.length s) (λi=>l.Out.length-i.toNat) (k:Int) λb=>(b=true↔QA f l.Out)):=by
   intro hset;rw[OZ (by omega)]
   refine .cnt ⟨⟨k+1,rfl,hlt,λj s hj hs=>?_⟩,by grind⟩
   grind
  have stop:¬ PE f.Slots.length l.Out[k]->((false:Bool)=true↔QA f l.Out):=λhn=>⟨λh=>(by cases h),λh=>(hn (h.2 _ (aAF hlt))).elim⟩
  by_cases hc:SX none l.Out[k]=true
  ·have hset:=(Abq _).1 hc;rw[hc];simp only[aAn,cond_false,aA];refine .dec (λhp=>?_) λhp=>?_
   ·have hi:l.Out[k].length-1<l.Out[k].length:=by omega
    have w:IntKind.i64.wrap ((l.Out[k].length:Int)-1)=((l.Out[k].length-1:Nat):Int):=by grind [wrap64]
    rw[w,Pp,aAA hi,aA];refine .dec (λh=>.lft (.pure (stop λhh=>?_))) λh=>next ⟨hset,AnY hset.1 (h:=hi) (by omega)⟩
    have:=hh.2 _ (aAF hi);omega
   grind [aAa,PE.nil]
  ·have hc':SX none l.Out[k]=false:=by simp_all
   rw[hc'];exact .lft (.pure (stop λh=>hc ((Abq _).2 h.1)))
 ·refine .lft (.pure ⟨λ_=>⟨he,λs hs=>?_⟩,λ_=>rfl⟩)
  grind [aAR]
def UG (f:Lo) (l:List (List Int)) (k:Int):List Int :=
 (PI (OU f k) k).foldl (λo j=>Rb o ((inN (OU f j) (Pk l j)).filter λv=>!decide (v∈Pk l k))) []
theorem QA.at (h:QA f l) {j:Int} (h0:0<=j) (h1:j<f.Code.length):l[j.toNat]? =some (Pk l j)/\PE f.Slots.length (Pk l j):=by
 have hl:j.toNat<l.length:=by have:=h.1;omega
 have:l[j.toNat]? =some (Pk l j):=by grind [Pk]
 exact⟨this,h.2 _ (aAE this)⟩
theorem Ps.at (_h:Ps f) {j:Int} (h0:0<=j) (h1:j<f.Code.length):f.Code[j.toNat]? =some (OU f j)/\OU f j∈f.Code:=by
 grind [OU]
theorem Ps.AtO (h:Ps f) (hx:x∈f.Code):∀ v∈PT x,0<=v/\v<512:=λv hv=>by have:=h.uses x hx v hv;have:=h.slots;omega
theorem Ajc (hf:Ps f) (hl:QA f l) {k j:Int} (_hk:0<=k/\k<f.Code.length) (hj:0<=j/\j<f.Code.length) {o:List Int} (ho:PE f.Slots.length o) :
  PE f.Slots.length (Rb o ((inN (OU f j) (Pk l j)).filter λv=>!decide (v∈Pk l k)))/\∀ v,v∈Rb o ((inN (OU f j) (Pk l j)).filter λv=>!decide (v∈Pk l k))↔v∈o\/(v∈inN (OU f j) (Pk l j)/\v∉Pk l k):=by
 have hsl:=hf.slots;obtain⟨g1,g2⟩:=Xd hf (hf.at hj.1 hj.2).2 (hl.at hj.1 hj.2).2;obtain⟨g3,g4⟩:=UK (n:=f.Slots.length) (by omega) (b:=(inN (OU f j) (Pk l j)).filter λv=>!decide (v∈Pk l k)) ho λx hx=>⟨(g1.1.2 x (aAb.1 hx).1).1,g1.2 x (aAb.1 hx).1⟩
 exact⟨g3,λv=>by simp_all⟩
theorem Amx {f:Lo} (hf:Ps f) {l:List (List Int)} (hl:QA f l) {k:Int} (hk:0<=k/\k<f.Code.length):∀ {js:List Int} {o:List Int},(∀ j∈js,0<=j/\j<f.Code.length)->PE f.Slots.length o ->
  PE f.Slots.length (js.foldl (λo j=>Rb o ((inN (OU f j) (Pk l j)).filter λv=>!decide (v∈Pk l k))) o)/\∀ v,v∈js.foldl (λo j=>Rb o ((inN (OU f j) (Pk l j)).filter λv=>!decide (v∈Pk l k))) o↔v∈o\/∃ j∈js,v∈inN (OU f j) (Pk l j)/\v∉Pk l k
 | [],o,_,ho=>⟨ho,λv=>by simp⟩
 | j::js,o,hj,ho=>by
  obtain⟨h1,h2⟩:=Ajc hf hl hk (hj j (aAM ..)) ho;obtain⟨h5,h6⟩:=Amx hf hl hk (λq hq=>hj q (aAI _ hq)) h1
  grind
theorem AkN (hf:Ps f) (hl:QA f l) (hk:k<f.Code.length):PE f.Slots.length (UG f l k)/\∀ v,v∈UG f l k↔∃ j∈PI (OU f k) k,v∈inN (OU f j) (Pk l j)/\v∉Pk l k:=by
 have hx:f.Code[k]? =some (OU f k):=by grind [OU]
 obtain⟨h1,h2⟩:=Amx hf hl (k:=(k:Int)) ⟨by omega,by omega⟩ (hf.next k _ hx) (PE.nil _)
 grind [UG]
theorem Apm (x:OX) (k:Int):(PI x k).length<=2:=by grind [PI]
theorem ApS (hf:Ps f) {l:Ph} (hl:QA f l.Out) (hk:k<f.Code.length):Qy f k l [] l k=some (true,UG f l.Out k):=by
 have hlen:=hf.len';have hx:f.Code[k]? =some (OU f k):=by grind [OU]
 have hn:=hf.next k _ hx;have h2:=Apm (OU f k) k;obtain⟨hk1,hk2⟩:=hl.at (j:=(k:Int)) (by omega) (by omega)
 simp only[aAB]at hk1;unfold Qy;rw[AkC hx (by omega),aA]
 have:=QT (body:=λs:List Int×Int=>PY (PI (OU f k) k) f l l k s.1 s.2) (PI (OU f k) k) (λ(o:List Int) i=>(o,i)) (λo _=>PE f.Slots.length o)
  (λo js=>some (true,js.foldl (λo j=>Rb o ((inN (OU f j) (Pk l.Out j)).filter λv=>!decide (v∈Pk l.Out k))) o))
  (λo _=>⟨_,by simp[PY];rfl,by simp⟩) (λo i j r ho hd hi hj=>by
   left;have wi:=OZ (show i<9223372036854775807 by omega)
   have hjm:=hn j (aAE hj);obtain⟨c1,c2⟩:=hf.at hjm.1 hjm.2;obtain⟨o1,o2⟩:=hl.at hjm.1 hjm.2;obtain⟨g1,g2⟩:=Ajc hf hl (k:=(k:Int)) ⟨by omega,by omega⟩ hjm ho
   obtain⟨s1,s2⟩:=Xd hf c2 o2;have hsl:=hf.slots;have e1:=AqD o2.1 (hf.AtO c2);have e2:=AoI s1.1 hk2.1;have e3:=AdE ho.1 (b:=(inN (OU f j) (Pk l.Out j)).filter λv=>!decide (v∈Pk l.Out k)) (λx hx=>by have:=s1.1.2 x (aAb.1 hx).1;exact this) (by have:=(s1.1.filter λv=>!decide (v∈Pk l.Out k)).length_le;omega)
   obtain⟨_,hje⟩:=aAC.1 hj;refine⟨_,g1,?_,rfl⟩
   simp_all[PY,Vn,SW,QB]) [] (PE.nil _)
 exact this
theorem AoV (hf:Ps f) {l:Ph} (hl:QA f l.Out) (hk:k<f.Code.length):Aew f l k=some (UG f l.Out k):=by
 have hlen:=hf.len';have hx:f.Code[k]? =some (OU f k):=by grind [OU]
 have hn:=hf.next k _ hx;have h2:=Apm (OU f k) k;obtain⟨hk1,hk2⟩:=hl.at (j:=(k:Int)) (by omega) (by omega)
 simp only[aAB]at hk1;unfold Aew;rw[Aol hx (by omega),aA]
 have:=QT (body:=λs:List Int×Int=>XM (PI (OU f k) k) f l k s.1 s.2) (PI (OU f k) k) (λ(o:List Int) i=>(o,i)) (λo _=>PE f.Slots.length o)
  (λo js=>some (js.foldl (λo j=>Rb o ((inN (OU f j) (Pk l.Out j)).filter λv=>!decide (v∈Pk l.Out k))) o))
  (λo _=>⟨_,by simp[XM];rfl,by simp⟩) (λo i j r ho hd hi hj=>by
   left;have wi:=OZ (show i<9223372036854775807 by omega)
   have hjm:=hn j (aAE hj);obtain⟨c1,c2⟩:=hf.at hjm.1 hjm.2;obtain⟨o1,o2⟩:=hl.at hjm.1 hjm.2;obtain⟨g1,g2⟩:=Ajc hf hl (k:=(k:Int)) ⟨by omega,by omega⟩ hjm ho
   obtain⟨s1,s2⟩:=Xd hf c2 o2;have hsl:=hf.slots;have e1:=AsE (OU f j) (Pk l.Out j) (by have:=o2.1.length_le;omega)
   have e2:=Ark (inN (OU f j) (Pk l.Out j)) (Pk l.Out k) (by have:=s1.1.length_le;omega) (by have:=hk2.1.length_le;omega)
   have e3:=union_eq o ((inN (OU f j) (Pk l.Out j)).filter λv=>!decide (v∈Pk l.Out k)) (by have:=(s1.1.filter λv=>!decide (v∈Pk l.Out k)).length_le;have:=ho.1.length_le;omega)
   obtain⟨_,hje⟩:=aAC.1 hj;refine⟨_,g1,?_,rfl⟩
   simp_all[XM,QB]) [] (PE.nil _)
 exact this
def Afe (f:Lo) (l:List (List Int)) (r:Int×Int×Bool):Prop :=
 (QA f l/\∃ (k:Nat) (v:Int),k<f.Code.length/\(∀ j:Nat,j<k->UG f l j=[])/\(UG f l k)[0]? =some v/\r=((k:Int),v,true)) \/
 ((QA f l->∀ j:Nat,j<f.Code.length->UG f l j=[])/\r=(0,0,false))
theorem Afe.unique {r q:Int×Int×Bool} (h:Afe f l r) (k:Afe f l q):r=q:=by
 rcases h with⟨h0,i,v,h1,h2,h3,rfl⟩|⟨h1,rfl⟩<;>rcases k with⟨k0,j,u,k1,k2,k3,rfl⟩|⟨k1,rfl⟩
 all_goals grind
def Acc (f:Lo) (l:List (List Int)):Prop:=QA f l/\∀ j:Nat,j<f.Code.length->UG f l j=[]
theorem Afe.acc {r:Int×Int×Bool} (h:Afe f l r) (hl:QA f l):r.2.2=false↔Acc f l:=by
 rcases h with⟨h0,i,v,h1,h2,h3,rfl⟩|⟨h1,rfl⟩
 ·exact⟨λh=>(by cases h),λh=>by rw[h.2 i h1]at h3;cases h3⟩
 ·exact⟨λ_=>⟨hl,h1 hl⟩,λ_=>rfl⟩
def AeI (l:List (List Int)):Prop:=l.length<=maxLen/\∀ s∈l,s.length<=maxLen
theorem ArU (hf:Ps f) {l:Ph} (hl:AeI l.Out):Hs (YD f l) (Afe f l.Out):=by
 have hlen:=hf.len';refine(Amp f l hl.1 hl.2).bind λb hb=>.cond (λh=>?_) λh=>?_
 ·have hb':¬ b=true:=by simp_all
  exact .pure (.inr ⟨λhh=>(hb' (hb.2 hh)).elim,rfl⟩)
 ·have hb':b=true:=by simp_all
  have hok:=hb.1 hb';refine Hs.loop (λi=>∃ k:Nat,i=(k:Int)/\k<=f.Code.length/\∀ j:Nat,j<k->UG f l.Out j=[]) (λi=>f.Code.length-i.toNat) ⟨0,rfl,aAD _,λj h=>absurd h (aAG _)⟩ ?_
  rintro _ ⟨k,rfl,hk,hall⟩;refine .dec (λhlt=>?_) λhge=>?_
  ·have hlt:k<f.Code.length:=by omega
   rw[show Zz l=some l from rfl,aA,ApS hf hok hlt,aA]
   refine .dec (λhp=>?_) λhp=>?_
   ·have hp:0<(UG f l.Out k).length:=by simp_all
    simp only[AkH];have hg:(UG f l.Out k)[0]? =some ((UG f l.Out k)[0]):=aAA hp;rw[hg,aA];exact .lft (.pure (.inl ⟨hok,k,_,hlt,hall,hg,rfl⟩))
   ·rw[OZ (by omega)]
    refine .cnt ⟨⟨k+1,rfl,hlt,λj hj=>?_⟩,by grind⟩
    grind [aAa]
  ·exact .lft (.pure (.inr ⟨λ_ j hj=>hall j (by omega),rfl⟩))
theorem Arj (hf:Ps f) {l:Ph} (hl:AeI l.Out):Hs (Akl f l) (Afe f l.Out):=by
 have hlen:=hf.len';refine(Aon f l hl.1 hl.2).bind λb hb=>.cond (λh=>?_) λh=>?_
 ·have hb':¬ b=true:=by simp_all
  exact .pure (.inr ⟨λhh=>(hb' (hb.2 hh)).elim,rfl⟩)
 ·have hb':b=true:=by simp_all
  have hok:=hb.1 hb';refine Hs.loop (λi=>∃ k:Nat,i=(k:Int)/\k<=f.Code.length/\∀ j:Nat,j<k->UG f l.Out j=[]) (λi=>f.Code.length-i.toNat) ⟨0,rfl,aAD _,λj h=>absurd h (aAG _)⟩ ?_
  rintro _ ⟨k,rfl,hk,hall⟩;refine .dec (λhlt=>?_) λhge=>?_
  ·have hlt:k<f.Code.length:=by omega
   rw[AoV hf hok hlt,aA];refine .dec (λhp=>?_) λhp=>?_
   ·have hp:0<(UG f l.Out k).length:=by omega
    refine .chk (by omega) ?_
    have hg:(UG f l.Out k)[0]? =some ((UG f l.Out k)[0]):=aAA hp;rw[show(0:Int).toNat=0 from rfl,hg,aA]
    exact .lft (.pure (.inl ⟨hok,k,_,hlt,hall,hg,rfl⟩))
   ·rw[OZ (by omega)]
    refine .cnt ⟨⟨k+1,rfl,hlt,λj hj=>?_⟩,by grind⟩
    grind [aAa]
  ·exact .lft (.pure (.inr ⟨λ_ j hj=>hall j (by omega),rfl⟩))
theorem Anx (hf:Ps f) {l:Ph} (hl:AeI l.Out):Hs (VR f l) λe=>(e=0\/e=11)/\(e=0↔Acc f l.Out):=by
 refine(Amp f l hl.1 hl.2).bind λb hb=>.cond (λh=>?_) λh=>?_
 ·have hb':¬ b=true:=by simp_all
  exact .pure ⟨.inr rfl,λh=>by omega,λh=>(hb' (hb.2 h.1)).elim⟩
 ·have hb':b=true:=by simp_all
  refine(ArU hf hl).bind λr hr=>.cond (λh=>.pure ⟨.inr rfl,λh=>by omega,λh'=>?_⟩) λh=>.pure ⟨.inl rfl,λ_=>(hr.acc (hb.1 hb')).1 h,λ_=>rfl⟩
  rw[(hr.acc h'.1).2 h']at h;cases h
theorem Arf (hf:Ps f) {l:Ph} (hl:AeI l.Out):Hs (Akk f l) λe=>(e=0\/e=11)/\(e=0↔Acc f l.Out):=by
 refine(Arj hf hl).bind λr hr=>.cond (λh=>.pure ⟨.inr rfl,λh=>by omega,λh'=>?_⟩) λh=>?_
 ·rw[(hr.acc h'.1).2 h']at h;cases h
 ·refine(Aon f l hl.1 hl.2).bind λb hb=>.cond (λh=>?_) λh2=>?_
  ·have hb':¬ b=true:=by simp_all
   exact .pure ⟨.inr rfl,λh=>by omega,λh=>(hb' (hb.2 h.1)).elim⟩
  ·have hb':b=true:=by simp_all
   exact .pure ⟨.inl rfl,λ_=>(hr.acc (hb.1 hb')).1 h,λ_=>rfl⟩
theorem QA.len (hf:Ps f) (h:QA f l):AeI l:=by
 have hm:(100000:Nat)<=maxLen:=by decide
 have:=hf.len';have:=h.1;exact⟨by omega,λs hs=>by have:=(h.2 s hs).1.length_le;omega⟩
theorem AsI (hf:Ps f) (hl:QA f l):Acc f l↔LE (Sp f l) l:=by
 constructor
 ·rintro⟨_,h⟩ k s t hs ht v hv;have hk:k<f.Code.length:=by have:=(aAC.1 ht).1;have:=hl.1;omega
  have e1:s=Qt f l k:=by grind [Sp]
  have e2:t=Pk l k:=by grind [Pk]
  subst e1 e2;rw[(Td hf hl hk).2]at hv;obtain⟨j,hj,hv⟩:=hv;refine aAe λhn=>?_
  have:v∈UG f l k:=((AkN hf hl hk).2 v).2 ⟨j,hj,hv,hn⟩;simp_all
 ·intro h;refine⟨hl,λk hk=>?_⟩
  refine List.eq_nil_iff_forall_not_mem.2 λv hv=>?_
  obtain⟨j,hj,h1,h2⟩:=((AkN hf hl hk).2 v).1 hv;refine h2 (h k (Qt f l k) (Pk l k) (by grind [Sp]) ?_ v (((Td hf hl hk).2 v).2 ⟨j,hj,h1⟩))
  have:=(hl.at (j:=(k:Int)) (by omega) (by omega)).1
  simp_all
theorem Acc.mem (hf:Ps f) (h:Acc f l) (hk:k<f.Code.length) {j:Int} (hj:j∈PI (OU f k) k) (hv:v∈inN (OU f j) (Pk l j)):v∈Pk l k:=by
 refine aAe λhn=>?_
 have:v∈UG f l k:=((AkN hf h.1 hk).2 v).2 ⟨j,hj,hv,hn⟩;rw[h.2 k hk]at this;cases this
theorem UN.acc (hf:Ps f) (h:UN f l):Acc f l:=by
 rw[AsI hf h.ok,h.fix];intro k s t hs ht v hv;simp_all
def I64 (v:Int):Prop:=-9223372036854775808<=v/\v<=9223372036854775807
def Aqp (l:List (List Int)):Prop:=∀ s∈l,s.length<=512/\∀ v∈s,I64 v
def Ani (l:List (List Int)):Prop:=∀ s∈l,PQ s
theorem Ani.set (h:Ani l) (hs:PQ s):Ani (l.set k s):=by
 intro t ht;rcases aAS ht with h1|rfl
 ·exact h t h1
 ·exact hs
theorem PQ.add (h:PQ s) (n:Int):PQ (Uz n s):=by
 unfold Uz;split
 ·exact h.Wo (by assumption)
 ·exact h
theorem Aqp.len (hf:Ps f) (h1:l.length<=f.Code.length) (h2:Aqp l):AeI l:=by
 have hm:(100000:Nat)<=maxLen:=by decide
 have:=hf.len';exact⟨by omega,λs hs=>by have:=(h2 s hs).1;omega⟩
def Agv (x:OX):Int×Bool:=if x.Op=16\/x.Op=17 then(x.A,true)else(0,false)
theorem AjF (x:OX):SJ x=some (Agv x):=by
 grind [SJ,Sy,Agv]
def RU (f:Lo):Prop:=∀ x∈f.Code,(x.Op=16\/x.Op=17)->0<=x.A/\x.A<f.Slots.length
theorem Aam.defs {i most:Int} (h:Aam ps i most f):RU f:=by
 intro x hx hop;obtain⟨k,hk⟩:=aAR hx;have hkl:=(aAC.1 hk).1
 by_cases hk1:k+1<f.Code.length
 ·have hins:=h.body k x hk hk1;cases hins with
  | store a b h0 h1 h2=>simp_all
  | move a b h0 h1 h2=>exact⟨h0.1,h0.2.1⟩
  | bin op a b c h1 h2 h3 h4 h5 h6=>grind
  | un op a h1 h2=>grind
  | _=>simp at hop
 ·have he:=h.last x (by grind)
  rcases he with rfl|⟨w,_,rfl⟩<;>simp at hop
def QZ (x:OX) (v:Int):Bool:=x.Op==17&&x.B==v
def QV (_:OX) (_:Int):Bool:=false
def Anf (mv:OX->Int->Bool) (f:Lo) (l:List (List Int)) (k:Nat) (a v:Int):Prop :=
 a=(OU f k).A/\((OU f k).Op=16\/(OU f k).Op=17)/\¬ ((OU f k).Op=17/\(OU f k).A=(OU f k).B)/\v∈Pk l k/\v≠a/\mv (OU f k) v=false
def Vq (mv:OX->Int->Bool) (f:Lo) (l:List (List Int)) (k:Nat) (a v:Int):Prop:=∃ j<k,Anf mv f l j a v
def Ed (mv:OX->Int->Bool) (f:Lo) (l:List (List Int)) (a v:Int):Prop:=Vq mv f l f.Code.length a v
def ZN (mv:OX->Int->Bool) (f:Lo) (l:List (List Int)) (k i:Nat) (a v:Int):Prop :=
 Vq mv f l k a v\/(a=(OU f k).A/\v∈(Pk l k).take i/\v≠a/\mv (OU f k) v=false)
theorem Amn {a:Int}:Vq mv f l (k+1) a v↔Vq mv f l k a v\/Anf mv f l k a v:=by
 constructor
 ·rintro⟨j,hj,h⟩
  by_cases e:j=k
  ·simp_all
  ·exact .inl ⟨j,by omega,h⟩
 ·rintro(⟨j,hj,h⟩|h)
  ·exact⟨j,by omega,h⟩
  ·exact⟨k,by omega,h⟩
theorem AiP {a:Int}:ZN mv f l k 0 a v↔Vq mv f l k a v:=by simp[ZN]
theorem Akv {a:Int} (h1:(OU f k).Op=16\/(OU f k).Op=17) (h2:¬ ((OU f k).Op=17/\(OU f k).A=(OU f k).B)) :
  ZN mv f l k (Pk l k).length a v↔Vq mv f l (k+1) a v:=by
 grind [Amn,ZN,Anf]
theorem AfQ {x a:Int} (hx:(Pk l k)[i]? =some x) :
  ZN mv f l k (i+1) a v↔ZN mv f l k i a v\/(a=(OU f k).A/\v=x/\x≠a/\mv (OU f k) x=false):=by
 grind [aAO,ZN]
theorem Abz {a:Int} (h:((OU f k).Op≠16/\(OU f k).Op≠17)\/((OU f k).Op=17/\(OU f k).A=(OU f k).B)) :
  Vq mv f l (k+1) a v↔Vq mv f l k a v:=by
 rw[Amn];constructor
 ·rintro(h1|⟨_,h2,h3,_⟩)
  all_goals omega
 simp_all
theorem AiO {x a:Int} (hx:(Pk l k)[i]? =some x) (h:x=(OU f k).A\/mv (OU f k) x=true) :
  ZN mv f l k (i+1) a v↔ZN mv f l k i a v:=by
 grind [AfQ]
def Zq (m:List (List Bool)) (a v:Nat):Bool:=(((m[a]?).getD [])[v]?).getD false
def SF (n:Nat) (m:List (List Bool)) (P:Int->Int->Prop):Prop :=
 m.length=n/\(∀ row∈m,row.length=n)/\∀ a v:Nat,a<n->v<n->(Zq m a v=true↔P a v\/P v a)
theorem SF.congr {n:Nat} {P Q:Int->Int->Prop} (h:SF n m P) (hq:∀ a v,Q a v↔P a v):SF n m Q :=
 ⟨h.1,h.2.1,λa v ha hv=>by rw[h.2.2 a v ha hv,hq,hq]⟩
theorem Aml {n:Nat} (hl:m.length=n) {d:Nat} (hd:d<n) (r:List Bool) (a v:Nat):Zq (m.set d r) a v=if a=d then(r[v]?).getD false else Zq m a v:=by
 unfold Zq
 grind
theorem AnS {n:Nat} {r:List Bool} (hl:r.length=n) {v:Nat} (hv:v<n) (b:Nat):((r.set v true)[b]?).getD false=if b=v then true else(r[b]?).getD false:=by
 grind
theorem SF.set {n:Nat} {P:Int->Int->Prop} (h:SF n m P) {d v:Nat} {r1 r2:List Bool} (hd:d<n) (hv:v<n) (hne:d≠v) (h1:m[d]? =some r1) (h2:m[v]? =some r2) :
  SF n ((m.set d (r1.set v true)).set v (r2.set d true)) (λa b=>P a b\/(a=d/\b=v)):=by
 obtain⟨hl,hr,hc⟩:=h;have l1:=hr _ (aAE h1);have l2:=hr _ (aAE h2);refine⟨by simp[hl],λrow hrow=>?_,λa b ha hb=>?_⟩
 ·grind
 ·rw[Aml (n:=n) (by simp[hl]) hv,Aml hl hd,AnS l2 hd,AnS l1 hv]
  have e1:(r1[b]?).getD false=Zq m d b:=by grind [Zq]
  have e2:(r2[b]?).getD false=Zq m v b:=by grind [Zq]
  grind
def PR (n:Nat) (out:List (List Int)) (Q:Nat->Int->Prop):Prop:=out.length=n/\∀ (a:Nat) s,out[a]? =some s->PE n s/\∀ v,v∈s↔Q a v
theorem PR.congr {n:Nat} {out:List (List Int)} {P:Nat->Int->Prop} (h:PR n out P) (hq:∀ a v,a<n->(Q a v↔P a v)):PR n out Q :=
 ⟨h.1,λa s hs=>⟨(h.2 a s hs).1,λv=>by rw[(h.2 a s hs).2 v,hq a v (by have:=(aAC.1 hs).1;have:=h.1;omega)]⟩⟩
theorem PR.ext {n:Nat} {o1 o2:List (List Int)} (h1:PR n o1 Q) (h2:PR n o2 Q):o1=o2:=by
 apply aAc;intro a
 by_cases ha:a<n
 ·have e1:o1[a]? =some (o1[a]'(by have:=h1.1;omega)):=aAA _
  have e2:o2[a]? =some (o2[a]'(by have:=h2.1;omega)):=aAA _
  rw[e1,e2,(h1.2 a _ e1).1.1.ext (h2.2 a _ e2).1.1 λv=>by rw[(h1.2 a _ e1).2 v,(h2.2 a _ e2).2 v]]
 ·rw[aAL (by have:=h1.1;omega),aAL (by have:=h2.1;omega)]
theorem PR.nil (n:Nat) (hq:∀ a v,¬ Q a v):PR n (aAf n []) Q :=
 ⟨by simp,λa s hs=>by
  grind [PE.nil]⟩
theorem PR.set {n:Nat} {out:List (List Int)} {P:Nat->Int->Prop} (h:PR n out P) {d:Nat} (hd:d<n) (hs:PE n s) (h1:∀ v,v∈s↔Q d v) (h2:∀ a v,a≠d->(Q a v↔P a v)):PR n (out.set d s) Q:=by
 refine⟨by simp[h.1],λa t ht=>?_⟩
 by_cases e:a=d
 ·grind
 ·rw[aAJ (λh=>e h.symm)]at ht
  exact⟨(h.2 a t ht).1,λv=>by rw[(h.2 a t ht).2 v,h2 a v e]⟩
def SB (mv:OX->Int->Bool) (f:Lo) (l:List (List Int)) (r:List (List Int)×Int):Prop :=
 (r.2=0/\Acc f l/\PR f.Slots.length r.1 λa v=>Ed mv f l a v\/Ed mv f l v a)\/(r.2=11/\¬ Acc f l/\r.1=[])
theorem SB.unique {r q:List (List Int)×Int} (h:SB mv f l r) (k:SB mv f l q):r=q:=by
 obtain⟨r1,r2⟩:=r;obtain⟨q1,q2⟩:=q;rcases h with⟨h1,h2,h3⟩|⟨h1,h2,h3⟩<;>rcases k with⟨k1,k2,k3⟩|⟨k1,k2,k3⟩
 ·simp only at h1 k1 h3 k3;rw[h1,k1,h3.ext k3]
 all_goals simp_all
def Pc (to:List Int) (s:Int):Int:=(to[s.toNat]?).getD 0
def RO (f:Lo) (s:Int):Int:=((f.Slots[s.toNat]?).map Pa.Size).getD 0
def Afg (f:Lo) (to:List Int):Prop :=
 to.length=f.Slots.length/\∀ s:Nat,s<to.length->0<=Pc to s/\Pc to s<to.length/\RO f (Pc to s)=RO f s/\Pc to (Pc to s)=Pc to s
theorem Qn {s:Int} (h0:0<=s) (h:s<to.length):to[s.toNat]? =some (Pc to s):=by
 have:s.toNat<to.length:=by omega
 simp[Pc,this]
theorem AeR {s:Int} {x:Pa} (h:f.Slots[s.toNat]? =some x):x.Size=RO f s:=by
 simp[RO,h]
def Po (keep:List Bool) (k:Nat):Bool:=(keep[k]?).getD true
def We (f:Lo) (r:Pj):Prop :=
 Afg f r.To/\r.Keep.length=f.Code.length/\∀ k:Nat,k<f.Code.length->Po r.Keep k=false->(OU f k).Op=16\/(OU f k).Op=17
theorem Aue {n:Nat} {out:List (List Int)} {P:Int->Int->Prop} (hs:PR n out λa v=>P a v\/P v a) (hn:n<=500) {d y:Nat} (hd:d<n) (hy:y<n) (hne:d≠y) (t:Bool) (hi:i<1000000) (p q r s:Bool) :
  ∃ out',UT ((d:Int),t) out (y:Int) (i:Int) p q r s=some (.inl (out',((i+1:Nat):Int)))/\PR n out' λa v=>(P a v\/((a:Int)=d/\v=y))\/(P v a\/(v=d/\(a:Int)=y)):=by
 have e1:out[d]? =some (out[d]'(by have:=hs.1;omega)):=aAA _
 have e2:out[y]? =some (out[y]'(by have:=hs.1;omega)):=aAA _
 generalize out[d]'(by grind)=sd at e1
 generalize out[y]'(by grind)=sy at e2
 have q1:=hs.2 d _ e1;have q2:=hs.2 y _ e2;have a1:=q1.1.add (m:=(y:Int)) (by omega) (by omega)
 have a2:=q2.1.add (m:=(d:Int)) (by omega) (by omega)
 have m1:=(PE.Ank (m:=(y:Int)) q1.1 (by omega) (by omega)).2.2
 have m2:=(PE.Ank (m:=(d:Int)) q2.1 (by omega) (by omega)).2.2
 have e3:(out.set d (Uz y sd))[y]? =some sy:=by simp_all
 have hl:=hs.1;have h1:0<=(d:Int)/\(d:Int)<out.length:=by omega
 have h2:0<=(y:Int)/\(y:Int)<out.length:=by omega
 have h3:0<=(y:Int)/\(y:Int)<(out.set d (Uz y sd)).length:=by simp_all
 have w:=OZ (show i<9223372036854775807 by omega)
 refine⟨(out.set d (Uz y sd)).set y (Uz d sy),by grind [UT,aAB,PK,Apa],by simp[hl],λa s hs'=>?_⟩
 by_cases ea:a=y
 ·grind
 ·rw[aAJ (λh=>ea h.symm)]at hs'
  by_cases ed:a=d
  ·grind
  ·rw[aAJ (λh=>ed h.symm)]at hs'
   refine⟨(hs.2 a s hs').1,λv=>?_⟩
   rw[(hs.2 a s hs').2 v]
   grind
def Ang (mv:OX->Int->Bool) (f:Lo) (l:List (List Int)) (s:List (List Int)×Int):Prop :=
 ∃ k:Nat,s.2=(k:Int)/\k<=f.Code.length/\PR f.Slots.length s.1 λa v=>Vq mv f l k a v\/Vq mv f l k v a
def Apv (mv:OX->Int->Bool) (f:Lo) (l:List (List Int)) (k:Nat) (s:List (List Int)×Int):Prop :=
 ∃ i:Nat,s.2=(i:Int)/\i<=(Pk l k).length/\PR f.Slots.length s.1 λa v=>ZN mv f l k i a v\/ZN mv f l k i v a
theorem Ajs (hf:Ps f) (hd:RU f) {l:Ph} (hl:AeI l.Out) (b:Bool):Hs (AgJ f l b) (SB (bif b then QV else QZ) f l.Out):=by
 have hlen:=hf.len';have hsl:=hf.slots;refine(Arf hf hl).bind λe he=>.bne (λh=>.pure (.inr ⟨he.1.resolve_left h,λha=>h (he.2.2 ha),rfl⟩)) λh=>?_
 have hacc:Acc f l.Out:=he.2.1 h;refine .chk (by omega) ?_
 generalize hmv:(bif b then QV else QZ)=mv
 refine Hs.loop (Ang mv f l.Out) (λs=>f.Code.length-s.2.toNat) ⟨0,rfl,aAD _,?_⟩ ?_
 ·exact PR.nil _ λa v h=>by rcases h with⟨j,hj,_⟩|⟨j,hj,_⟩<;>omega
 rintro⟨out,_⟩ ⟨k,rfl,hk,hs⟩;refine .dec (λhlt=>?_) λhge=>.lft (.pure (.inl ⟨rfl,hacc,?_⟩))
 ·have hlt:k<f.Code.length:=by omega
  have hx:=hf.at (j:=(k:Int)) (by omega) (by omega)
  rw[aAB]at hx;have hrow:=hacc.1.at (j:=(k:Int)) (by omega) (by omega)
  rw[aAB]at hrow;simp only[Pp,hx.1,aA,AjF];have next:∀ out',(PR f.Slots.length out' λa v=>Vq mv f l.Out (k+1) a v\/Vq mv f l.Out (k+1) v a)->∀ a b c d e,Hs (Xm (k:Int) a b c d e out') (Rnd (Ang mv f l.Out) (λs=>f.Code.length-s.2.toNat) (out,(k:Int)) (SB mv f l.Out)):=by
   intro out' h' a b c d e;unfold Xm;rw[OZ (by omega)]
   exact .cnt ⟨⟨k+1,rfl,hlt,h'⟩,by grind⟩
  have inner:¬ ((OU f k).Op=17/\(OU f k).A=(OU f k).B)->Hs (Adu l (k:Int) (Agv (OU f k)) b (OU f k) out) (Rnd (Ang mv f l.Out) (λs=>f.Code.length-s.2.toNat) (out,(k:Int)) (SB mv f l.Out)):=by
   intro hnm
   by_cases hdef:(OU f k).Op=16\/(OU f k).Op=17
   ·have hdn:Agv (OU f k)=((OU f k).A,true):=if_pos hdef;have hA:=hd _ hx.2 hdef;rw[hdn];have hlo:=hrow.2.1.length_le;refine Hs.loop (Apv mv f l.Out k) (λs=>(Pk l.Out k).length-s.2.toNat) ⟨0,rfl,aAD _,hs.congr λa v _=>by grind [AiP]⟩ ?_
    rintro⟨out2,_⟩ ⟨i,rfl,hi,hs2⟩;unfold Adt;simp only[Pp,hrow.1,aA];refine .dec (λhlt2=>?_) λhge2=>.lft (next _ (hs2.congr λa v _=>?_) _ _ _ _ _)
    ·have hlt2:i<(Pk l.Out k).length:=by omega
     have hgx:(Pk l.Out k)[i]? =some (Pk l.Out k)[i]:=aAA _;have hxm:=aAF hlt2;generalize(Pk l.Out k)[i]=x at hgx hxm;have hx0:=hrow.2.1.2 x hxm;have hxn:=hrow.2.2 x hxm;unfold Ahi;simp only[Pp,hrow.1,hgx,aA];have skip:x=(OU f k).A\/mv (OU f k) x=true->Hs (cnt (out2,IntKind.i64.wrap ((i:Int)+1))) (Rnd (Apv mv f l.Out k) (λs=>(Pk l.Out k).length-s.2.toNat) (out2,(i:Int)) (Rnd (Ang mv f l.Out) (λs=>f.Code.length-s.2.toNat) (out,(k:Int)) (SB mv f l.Out))):=by
      intro hh;rw[OZ (by omega)]
      exact .cnt ⟨⟨i+1,rfl,hlt2,hs2.congr λa v _=>by grind [AiO]⟩,by grind⟩
     have add:x≠(OU f k).A->mv (OU f k) x=false->∀ p q r s,Hs (UT ((OU f k).A,true) out2 x (i:Int) p q r s) (Rnd (Apv mv f l.Out k) (λs=>(Pk l.Out k).length-s.2.toNat) (out2,(i:Int)) (Rnd (Ang mv f l.Out) (λs=>f.Code.length-s.2.toNat) (out,(k:Int)) (SB mv f l.Out))):=by
      intro hne hmf p q r s;obtain⟨d,hde⟩:∃ d:Nat,(OU f k).A=(d:Int):=⟨_,(aAZ hA.1).symm⟩;obtain⟨y,rfl⟩:∃ y:Nat,x=(y:Int):=⟨_,(aAZ hx0.1).symm⟩;obtain⟨out',h1,h2⟩:=Aue (P:=ZN mv f l.Out k i) hs2 (by omega) (d:=d) (y:=y) (by omega) (by omega) (by omega) true (i:=i) (by omega) p q r s
      rw[hde,h1];refine .pure ⟨⟨i+1,rfl,hlt2,h2.congr λa v _=>?_⟩,by grind⟩
      grind [AfQ]
     refine .beq (λh=>skip (.inl h)) λhne=>?_
     subst hmv;cases b
     ·simp only[aAv,cond_true,cond_false] 
      grind [QZ]
     ·simp only[aAn,cond_true,cond_false] ;exact add hne rfl _ _ _ _
    grind [Akv]
   ·have hdn:Agv (OU f k)=(0,false):=if_neg hdef;rw[hdn];have hs':=hs.congr (Q:=λa v=>Vq mv f l.Out (k+1) a v\/Vq mv f l.Out (k+1) v a) λa v _=>by grind [Abz]
    refine Hs.loop (λs=>s=(out,0)) (λ_=>0) rfl ?_
    rintro _ rfl;unfold Adt;simp only[Pp,hrow.1,aA,cond_false];exact .dec (λ_=>.lft (next _ hs' _ _ _ _ _)) λ_=>.lft (next _ hs' _ _ _ _ _)
  refine .beq (λh17=>.beq (λhab=>next _ ?_ _ _ _ _ _) λhab=>inner λhh=>hab hh.2) λh17=>inner λhh=>h17 hh.1
  simp_all[Abz]
 ·have hk:k=f.Code.length:=by omega
  subst hk;exact hs
def AbK (f:Lo):Prop:=∀ x∈f.Code,x.Op=17->0<=x.A/\x.A<f.Slots.length/\0<=x.B/\x.B<f.Slots.length/\RO f x.A=RO f x.B
def AkZ (f:Lo) (out:List Pn):Prop:=∀ p∈out,∃ x∈f.Code,x.Op=17/\p=⟨x.A,x.B⟩
theorem Ami (hlen:f.Code.length<=10000):Hs (Aar f) λout=>out.length<=10000/\AkZ f out:=by
 unfold Aar;refine Hs.loop (λs=>∃ k:Nat,s.2=(k:Int)/\k<=f.Code.length/\s.1.length<=k/\AkZ f s.1) (λs=>f.Code.length-s.2.toNat) ⟨0,rfl,aAD _,aAT _,λp hp=>by cases hp⟩ ?_
 rintro⟨out,_⟩ ⟨k,rfl,hk,hol,hmv⟩;replace hol:out.length<=k:=hol;replace hmv:AkZ f out:=hmv;unfold SU;refine .dec (λhlt=>?_) λhge=>.lft (.pure ⟨show out.length<=10000 by omega,hmv⟩)
 have hlt:k<f.Code.length:=by omega
 have hx:f.Code[k]? =some f.Code[k]:=aAA _;have hxm:=aAF hlt;generalize f.Code[k]=x at hx hxm;simp only[Pp,hx,aA];have j3:∀ old:Bool,(old=false->x.Op=17)->Hs (Xl out x (k:Int) old) (Rnd (λs:List Pn×Int=>∃ k:Nat,s.2=(k:Int)/\k<=f.Code.length/\s.1.length<=k/\AkZ f s.1) (λs=>f.Code.length-s.2.toNat) (out,(k:Int)) λout=>out.length<=10000/\AkZ f out):=by
  intro old hold;refine Hs.loop (λs=>∃ i:Nat,s.2=(i:Int)/\i<=out.length/\(s.1=false->x.Op=17)) (λs=>out.length-s.2.toNat) ⟨0,rfl,aAD _,hold⟩ ?_
  rintro⟨old,_⟩ ⟨i,rfl,hi,hold⟩;refine .dec (λhlt2=>?_) λ_=>.lft ?_
  ·have hlt2:i<out.length:=by omega
   have hg:out[i]? =some out[i]:=aAA _;simp only[aAB];rw[OZ (by omega)]
   refine .cond (λh=>.cnt ⟨⟨i+1,rfl,hlt2,λh'=>(by cases h')⟩,by grind⟩) λh=>.chk (by omega) ?_
   rw[hg,aA];exact .cnt ⟨⟨i+1,rfl,hlt2,λ_=>hold h⟩,by grind⟩
  ·unfold Xk;rw[OZ (by omega)]
   refine .cond (λh=>.chk (by simp;omega) (.cnt ⟨⟨k+1,rfl,hlt,by simp;omega,λp hp=>?_⟩,by grind⟩)) λ_=>.cnt ⟨⟨k+1,rfl,hlt,by grind,hmv⟩,by grind⟩
   rcases aAU.1 hp with hp|hp
   ·exact hmv p hp
   grind
 grind
theorem AeX (hl:to.length<=500) (s:Int):Hs (VE to s) λl=>l.length<=to.length/\∀ t,t∈l↔∃ j:Nat,j<to.length/\t=(j:Int)/\Pc to j=s:=by
 refine Hs.loop (λz=>∃ k:Nat,z.2=(k:Int)/\k<=to.length/\z.1.length<=k/\∀ t,t∈z.1↔∃ j:Nat,j<k/\t=(j:Int)/\Pc to j=s) (λz=>to.length-z.2.toNat) ⟨0,rfl,aAD _,aAT _,λt=>⟨λh=>(by cases h),λ⟨j,h,_⟩=>absurd h (aAG _)⟩⟩ ?_
 rintro⟨l,_⟩ ⟨k,rfl,hk,hll,hm⟩;replace hll:l.length<=k:=hll;refine .dec (λhlt=>?_) λhge=>.lft (.pure ?_)
 ·have hlt:k<to.length:=by omega
  have hg:=Qn (to:=to) (s:=(k:Int)) (by omega) (by omega)
  rw[aAB]at hg;simp only[Pp,hg,aA];rw[OZ (by omega)]
  refine .beq (λh=>.chk (by simp;omega) (.cnt ⟨⟨k+1,rfl,hlt,by simp;omega,λt=>?_⟩,by grind⟩)) λh=>.cnt ⟨⟨k+1,rfl,hlt,by grind,λt=>?_⟩,by grind⟩
  all_goals grind
 ·have hk:k=to.length:=by omega
  subst hk;exact⟨hll,hm⟩
def Sf (g:List (List Int)) (to:List Int) (a b:Int):Prop:=∀ (x y:Nat) row,x<to.length->y<to.length->Pc to x=a->Pc to y=b->g[x]? =some row->(y:Int)∉row
theorem ArH {n:Nat} (hg:PR n g Q) (htn:to.length=n) (hl:n<=500) (a b:Int):Hs (AdH g to a b) λr=>r=true->Sf g to a b:=by
 refine(AeX (by omega) a).bind λxs hx=>(AeX (by omega) b).bind λys hy=>?_
 have fin:(∀ x∈xs,∀ y∈ys,∀ row,g[x.toNat]? =some row->y∉row)->Sf g to a b:=by
  intro h x y row h1 h2 h3 h4 h5;exact h x ((hx.2 x).2 ⟨x,h1,rfl,h3⟩) y ((hy.2 y).2 ⟨y,h2,rfl,h4⟩) row (by simp_all)
 refine Hs.loop (λi=>∃ k:Nat,i=(k:Int)/\k<=xs.length/\∀ x∈xs.take k,∀ y∈ys,∀ row,g[x.toNat]? =some row->y∉row) (λi=>xs.length-i.toNat) ⟨0,rfl,aAD _,λx h=>by simp at h⟩ ?_
 rintro _ ⟨k,rfl,hk,hall⟩;refine .dec (λhlt=>?_) λhge=>.lft (.pure λ_=>fin λx hx=>hall x (by grind))
 have hlt:k<xs.length:=by omega
 have hgx:xs[k]? =some xs[k]:=aAA _;have hxm:=aAF hlt;have htk:xs.take (k+1)=xs.take k++[xs[k]]:=by simp_all
 generalize xs[k]=x at hgx hxm htk;obtain⟨jx,hjx,rfl,_⟩:=(hx.2 x).1 hxm;have hgl:=hg.1;have hrow:g[jx]? =some (g[jx]'(by omega)):=aAA _
 generalize g[jx]'(by omega)=row at hrow
 have hset:=(hg.2 jx row hrow).1;have hrl:=hset.1.length_le;refine Hs.loop (λi=>∃ m:Nat,i=(m:Int)/\m<=ys.length/\∀ y∈ys.take m,y∉row) (λi=>ys.length-i.toNat) ⟨0,rfl,aAD _,λx h=>by simp at h⟩ ?_
 rintro _ ⟨m,rfl,hm,hno⟩;refine .dec (λhlt2=>?_) λhge2=>.lft ?_
 ·have hlt2:m<ys.length:=by omega
  have hgy:ys[m]? =some ys[m]:=aAA _;have htm:ys.take (m+1)=ys.take m++[ys[m]]:=by simp_all
  generalize ys[m]=y at hgy htm;refine .chk (by omega) ?_
  simp only[aAB,hgx,aA,Pp,hrow];refine .chk (by omega) ?_
  rw[hgy,aA,XV _ _ (by omega),aA,OZ (by omega)]
  refine .dec (λ_=>.lft (.lft (.pure λh=>(by cases h)))) λh=>.cnt ⟨⟨m+1,rfl,hlt2,λz hz=>?_⟩,by grind⟩
  grind
 ·unfold Adv;rw[OZ (by omega)]
  refine .cnt ⟨⟨k+1,rfl,hlt,λz hz y hy row' hr=>?_⟩,by grind⟩
  grind [aAB]
structure Zp (f:Lo) (g:List (List Int)) (to:List Int):Prop where
 ok:Afg f to
 apart:∀ (x y:Nat) row,x<to.length->y<to.length->Pc to x=Pc to y->g[x]? =some row->(y:Int)∉row
def Qr (a b c:Int):Int:=if c=a\/c=b then SO a b else c
theorem Apl (a b:Int):SO a b=a\/SO a b=b:=by grind [SO]
theorem Zp.join (hg:PR f.Slots.length g Q) (hsym:∀ (x y:Nat) r s,g[x]? =some r->g[y]? =some s->(y:Int)∈r->(x:Int)∈s) {to':List Int} (h:Zp f g to) {a b:Int} (ha:0<=a/\a<f.Slots.length) (hb:0<=b/\b<f.Slots.length) (haa:Pc to a=a) (hbb:Pc to b=b) (hs:RO f a=RO f b) (hap:Sf g to a b) (hl:to'.length=to.length) (hto:∀ j:Nat,j<to.length->Pc to' j=Qr a b (Pc to j)):Zp f g to':=by
 have htl:=h.ok.1;have hto2:∀ j:Int,0<=j->j<to.length->Pc to' j=Qr a b (Pc to j):=by
  intro j h0 h1;obtain⟨i,rfl⟩:∃ i:Nat,j=(i:Int):=⟨j.toNat,by omega⟩
  simp_all
 have hm:Pc to (SO a b)=SO a b/\0<=SO a b/\SO a b<f.Slots.length/\RO f (SO a b)=RO f a:=by
  grind [Apl]
 have hj:Qr a b (SO a b)=SO a b:=by
  simp_all[Qr]
 refine⟨⟨by omega,λs hs'=>?_⟩,λx y row hx hy he hr hyr=>?_⟩
 ·obtain⟨q1,q2,q3,q4⟩:=h.ok.2 s (by omega)
  rw[hto s (by omega)]
  by_cases e:Pc to s=a\/Pc to s=b
  ·have ej:Qr a b (Pc to s)=SO a b:=by simp_all[Qr]
   grind
  simp_all[Qr]
 ·rw[hto x (by omega),hto y (by omega)]at he
  have hgl:=hg.1;have hrow:g[y]? =some (g[y]'(by omega)):=aAA _
  by_cases ex:Pc to x=a\/Pc to x=b<;>by_cases ey:Pc to y=a\/Pc to y=b
  ·rcases ex with ex|ex<;>rcases ey with ey|ey
   ·exact h.apart x y row (by omega) (by omega) (by rw[ex,ey]) hr hyr
   ·exact hap x y row (by omega) (by omega) ex ey hr hyr
   ·exact hap y x _ (by omega) (by omega) ey ex hrow (hsym x y _ _ hr hrow hyr)
   ·exact h.apart x y row (by omega) (by omega) (by rw[ex,ey]) hr hyr
  ·have e1:Qr a b (Pc to x)=SO a b:=by simp_all[Qr]
   have e2:Qr a b (Pc to y)=Pc to y:=by simp_all[Qr]
   grind [Apl]
  ·simp_all[Qr,Pc,SO]
  ·have e1:Qr a b (Pc to y)=Pc to y:=by simp_all[Qr]
   have e2:Qr a b (Pc to x)=Pc to x:=by simp_all[Qr]
   rw[e1,e2]at he;exact h.apart x y row (by omega) (by omega) he hr hyr
theorem Alf (hlen:f.Code.length<=10000) (hsl:f.Slots.length<=500) (hml:AbK f) (hg:PR f.Slots.length g Q) (hsym:∀ (x y:Nat) r s,g[x]? =some r->g[y]? =some s->(y:Int)∈r->(x:Int)∈s) (hirr:∀ (x:Nat) r,g[x]? =some r->(x:Int)∉r):Hs (Tw f g) λto=>Zp f g to:=by
 unfold Tw;refine Hs.loop (λs=>∃ k:Nat,s.2=(k:Int)/\k<=f.Slots.length/\s.1.length=k/\∀ j:Nat,j<k->s.1[j]? =some (j:Int)) (λs=>f.Slots.length-s.2.toNat) ⟨0,rfl,aAD _,rfl,λj hj=>absurd hj (aAG _)⟩ ?_
 rintro⟨to,_⟩ ⟨k,rfl,hk,htl,hto⟩;replace htl:to.length=k:=htl;replace hto:∀ j:Nat,j<k->to[j]? =some (j:Int):=hto;refine .dec (λhlt=>?_) λhge=>.lft ?_
 ·have hlt:k<f.Slots.length:=by omega
  refine .chk (by simp;omega) ?_
  rw[OZ (by omega)]
  refine .cnt ⟨⟨k+1,rfl,hlt,by simp[htl],λj hj=>?_⟩,by grind⟩
  grind
 have hkk:k=f.Slots.length:=by omega
 subst hkk;have hid:∀ j:Nat,j<f.Slots.length->Pc to j=(j:Int):=by
  grind [Pc]
 have hc0:Zp f g to:=by
  refine⟨⟨htl,λs hs=>?_⟩,λx y row hx hy he hr hyr=>?_⟩
  all_goals grind
 clear hto hid;refine(Ami hlen).bind λmv hmv=>?_
 obtain⟨hmvl,hmv⟩:=hmv;refine Hs.loop (λs=>∃ i:Nat,s.2=(i:Int)/\i<=mv.length/\Zp f g s.1) (λs=>mv.length-s.2.toNat) ⟨0,rfl,aAD _,hc0⟩ ?_
 clear hc0 htl hge;rintro⟨to,_⟩ ⟨i,rfl,hi,hc⟩;replace hc:Zp f g to:=hc;have htl:=hc.ok.1;unfold Abc;refine .dec (λhlt=>?_) λ_=>.lft (.pure hc)
 have hlt:i<mv.length:=by omega
 have hgp:mv[i]? =some mv[i]:=aAA _;have hpm:=aAF hlt;generalize mv[i]=p at hgp hpm;obtain⟨x,hx,hop,rfl⟩:=hmv p hpm;obtain⟨a0,a1,b0,b1,hsz⟩:=hml x hx hop;have hA:=Qn (to:=to) (s:=x.A) a0 (by omega)
 have hB:=Qn (to:=to) (s:=x.B) b0 (by omega)
 simp only[aAB,hgp,aA,hA,hB];have skip:Hs (Ru (i:Int) to) (Rnd (λs:List Int×Int=>∃ i:Nat,s.2=(i:Int)/\i<=mv.length/\Zp f g s.1) (λs=>mv.length-s.2.toNat) (to,(i:Int)) λto=>Zp f g to):=by
  unfold Ru;rw[OZ (by omega)]
  exact .cnt ⟨⟨i+1,rfl,hlt,hc⟩,by grind⟩
 refine .chk (by omega) (.chk (by omega) (.chk (by omega) (.chk (by omega) (.beq (λ_=>skip) λhne=>?_))))
 refine(ArH hg htl hsl (Pc to x.A) (Pc to x.B)).bind λr hr=>.cond (λ_=>skip) λhrt=>?_
 have hap:=hr (by simp_all)
 have nat:∀ {s:Int},0<=s->s<to.length->0<=Pc to s/\Pc to s<to.length/\RO f (Pc to s)=RO f s/\Pc to (Pc to s)=Pc to s:=by
  intro s h0 h1;obtain⟨j,rfl⟩:∃ j:Nat,s=(j:Int):=⟨s.toNat,by omega⟩
  exact hc.ok.2 j (by omega)
 obtain⟨qa1,qa2,qa3,qa4⟩:=nat a0 (by omega)
 obtain⟨qb1,qb2,qb3,qb4⟩:=nat b0 (by omega)
 generalize Pc to x.A=a at *;generalize Pc to x.B=b at *;unfold Abe;refine Hs.loop (λs=>∃ k:Nat,s.2=(k:Int)/\k<=to.length/\s.1.length=to.length/\∀ j:Nat,j<to.length->Pc s.1 j=if j<k then Qr a b (Pc to j)else Pc to j) (λs=>to.length-s.2.toNat) ⟨0,rfl,aAD _,rfl,λj _=>(by simp)⟩ ?_
 rintro⟨t2,_⟩ ⟨k,rfl,hk,h2l,h2⟩;replace h2l:t2.length=to.length:=h2l;replace h2:∀ j:Nat,j<to.length->Pc t2 j=if j<k then Qr a b (Pc to j)else Pc to j:=h2
 unfold Abd;refine .dec (λhlt2=>?_) λhge2=>.lft ?_
 ·have hlt2:k<to.length:=by simp_all
  have hgk:=Qn (to:=t2) (s:=(k:Int)) (by omega) (by omega)
  rw[h2 k hlt2,if_neg (Nat.lt_irrefl _)]at hgk;refine .chk (by omega) ?_
  rw[hgk,aA];have fin:∀ q:Bool,(q=true↔Pc to k=a\/Pc to k=b)->Hs (TL (k:Int) t2 a b q) (Rnd (λs:List Int×Int=>∃ k:Nat,s.2=(k:Int)/\k<=to.length/\s.1.length=to.length/\∀ j:Nat,j<to.length->Pc s.1 j=if j<k then Qr a b (Pc to j)else Pc to j) (λs=>to.length-s.2.toNat) (t2,(k:Int)) (Rnd (λs:List Int×Int=>∃ i:Nat,s.2=(i:Int)/\i<=mv.length/\Zp f g s.1) (λs=>mv.length-s.2.toNat) (to,(i:Int)) λto=>Zp f g to)):=by
   intro q hq;unfold TL;rw[OZ (by omega)]
   refine .cond (λh=>.chk (by omega) ?_) λh=>.cnt ⟨⟨k+1,rfl,hlt2,h2l,λj hj=>?_⟩,by grind⟩
   ·rw[hgk,aA];refine .cnt ⟨⟨k+1,rfl,hlt2,by simp[h2l],λj hj=>?_⟩,by grind⟩
    by_cases e:j=k
    ·simp_all[Pc,Qr]
    ·have:=h2 j hj;simp only[Pc,aAB]at this ⊢
     grind
   ·show Pc t2 j=_;rw[h2 j hj]
    by_cases e:j=k
    ·simp_all[Qr]
    omega
  refine .beq (λh=>fin true ⟨λ_=>.inl h,λ_=>rfl⟩) λh=>.chk (by omega) ?_
  exact fin _ ⟨λh'=>.inr (by simp_all),λh'=>by simp_all⟩
 ·have hkk:k=to.length:=by grind
  subst hkk;unfold Ru;rw[OZ (by omega)]
  refine .cnt ⟨⟨i+1,rfl,hlt,?_⟩,by simp only;omega⟩
  refine hc.join hg hsym (a:=a) (b:=b) ⟨qa1,by omega⟩ ⟨qb1,by omega⟩ qa4 qb4 (by rw[qa3,qb3,hsz]) hap h2l λj hj=>?_
  simp_all
def TN (f:Lo) (l:List (List Int)) (k:Nat):Prop:=((OU f k).Op=16\/(OU f k).Op=17)/\(OU f k).A∉Pk l k
theorem Atp (hf:Ps f) {l:Ph} (hl:QA f l.Out) (hk:k<f.Code.length):Hs (AhZ f l (k:Int)) λb=>b=true↔TN f l.Out k:=by
 have hx:=hf.at (j:=(k:Int)) (by omega) (by omega)
 have hrow:=hl.at (j:=(k:Int)) (by omega) (by omega)
 rw[aAB]at hx hrow;have hlo:=hrow.2.1.length_le;unfold AhZ;simp only[Pp,hx.1,aA,AjF,Agv]
 by_cases hd:(OU f k).Op=16\/(OU f k).Op=17
 ·rw[if_pos hd];simp only[cond_true,hrow.1,aA];rw[XV _ _ (by omega),aA]
  exact .pure ⟨λh=>⟨hd,by simp_all⟩,λh=>by simpa using h.2⟩
 ·rw[if_neg hd];exact .pure ⟨λh=>(by cases h),λh=>(hd h.1).elim⟩
theorem AlR (hf:Ps f) {l:Ph} (hl:QA f l.Out) (hml:AbK f) (htl:to.length=f.Slots.length):Hs (AeP f l to) λkeep=>keep.length=f.Code.length/\∀ k:Nat,k<f.Code.length->(Po keep k=true↔¬ TN f l.Out k/\¬ ((OU f k).Op=17/\Pc to (OU f k).A=Pc to (OU f k).B)):=by
 have hlen:=hf.len';refine Hs.loop (λs=>∃ k:Nat,s.2=(k:Int)/\k<=f.Code.length/\s.1.length=k/\∀ j:Nat,j<k->(Po s.1 j=true↔¬ TN f l.Out j/\¬ ((OU f j).Op=17/\Pc to (OU f j).A=Pc to (OU f j).B))) (λs=>f.Code.length-s.2.toNat) ⟨0,rfl,aAD _,rfl,λj hj=>absurd hj (aAG _)⟩ ?_
 rintro⟨keep,_⟩ ⟨k,rfl,hk,hkl,hkp⟩;replace hkl:keep.length=k:=hkl;refine .dec (λhlt=>?_) λhge=>.lft (.pure ?_)
 ·have hlt:k<f.Code.length:=by omega
  have hx:=hf.at (j:=(k:Int)) (by omega) (by omega)
  rw[aAB]at hx;simp only[Pp,hx.1,aA];rw[OZ (by omega)]
  have fin:∀ q:Bool,(q=true↔¬ TN f l.Out k/\¬ ((OU f k).Op=17/\Pc to (OU f k).A=Pc to (OU f k).B))->Hs (chk (keep.length+([q]:List Bool).length<=16777216) (cnt (keep++([q]:List Bool),((k+1:Nat):Int)):Option ((List Bool×Int)⊕List Bool))) (Rnd (λs:List Bool×Int=>∃ k:Nat,s.2=(k:Int)/\k<=f.Code.length/\s.1.length=k/\∀ j:Nat,j<k->(Po s.1 j=true↔¬ TN f l.Out j/\¬ ((OU f j).Op=17/\Pc to (OU f j).A=Pc to (OU f j).B))) (λs=>f.Code.length-s.2.toNat) (keep,(k:Int)) λkeep=>keep.length=f.Code.length/\∀ k:Nat,k<f.Code.length->(Po keep k=true↔¬ TN f l.Out k/\¬ ((OU f k).Op=17/\Pc to (OU f k).A=Pc to (OU f k).B))):=by
   intro q hq;refine .chk (by simp;omega) (.cnt ⟨⟨k+1,rfl,hlt,by simp[hkl],λj hj=>?_⟩,by grind⟩)
   grind [Po,aAl]
  refine(Atp hf hl hlt).bind λr hr=>.cond (λh=>?_) λh=>fin false ⟨λh=>(by cases h),λh'=>(h'.1 (hr.1 (by simp_all))).elim⟩
  have hnd:¬ TN f l.Out k:=λh'=>by simp_all
  refine .beq (λh17=>?_) λh17=>fin true ⟨λ_=>⟨hnd,λh=>h17 h.1⟩,λ_=>rfl⟩
  obtain⟨a0,a1,b0,b1,_⟩:=hml _ hx.2 h17
  grind [QB,Qn]
 ·have hkk:k=f.Code.length:=by omega
  subst hkk;exact⟨hkl,hkp⟩
def rnS (to:List Int) (s:Int):Int:=if 0<=s/\s<to.length then Pc to s else s
theorem Auf (to:List Int) (s:Int):Tv s to=some (rnS to s):=by
 unfold Tv rnS
 by_cases h0:s<0
 ·grind
 ·rw[decide_eq_false h0,cond_false]
  by_cases h1:s>=(to.length:Int)
  ·grind
  ·rw[decide_eq_false h1,cond_false,if_pos (by omega),QB _ (by omega),Qn (by omega) (by omega)]
   rfl
def rnI (to:List Int) (x:OX):OX :=
 if x.Op=15 then⟨x.Op,x.A,rnS to x.B,x.C,x.Imm⟩else if x.Op=16 then⟨x.Op,rnS to x.A,x.B,x.C,x.Imm⟩else if x.Op=17 then⟨x.Op,rnS to x.A,rnS to x.B,x.C,x.Imm⟩else x
theorem Aok (x:OX) (to:List Int):VD x to=some (rnI to x):=by
 unfold VD rnI;simp only[Auf,aA]
 grind
theorem Aee (to:List Int) (x:OX):(rnI to x).Op=x.Op:=by
 unfold rnI
 grind
def kept (keep:List Bool) (k:Nat):Nat:=(keep.take k).countP id
theorem AjE (keep:List Bool) (k:Nat):kept keep k<=k:=by
 grind [kept,List.countP_le_length]
theorem YZ {keep:List Bool} {b:Bool} (h:keep[k]? =some b):kept keep (k+1)=kept keep k+(if b then 1 else 0):=by
 grind [kept,aAO]
theorem Amz (r:Pj) (hl:r.Keep.length<=1000000):Hs (Acu r) λl=>l.length=r.Keep.length/\∀ j:Nat,j<r.Keep.length->l[j]? =some (kept r.Keep j:Int):=by
 refine Hs.loop (λs=>∃ k:Nat,s.2.2=(k:Int)/\k<=r.Keep.length/\s.2.1=(kept r.Keep k:Int)/\s.1.length=k/\∀ j:Nat,j<k->s.1[j]? =some (kept r.Keep j:Int)) (λs=>r.Keep.length-s.2.2.toNat) ⟨0,rfl,aAD _,rfl,rfl,λj hj=>absurd hj (aAG _)⟩ ?_
 rintro⟨l,n,_⟩ ⟨k,rfl,hk,hn,hll,hj⟩;subst hn;replace hll:l.length=k:=hll;refine .dec (λhlt=>?_) λhge=>.lft (.pure ?_)
 ·have hlt:k<r.Keep.length:=by simp_all
  have hg:r.Keep[k]? =some r.Keep[k]:=aAA _;generalize r.Keep[k]=b at hg;have hkl:=AjE r.Keep k;have hks:=YZ hg;have hap:∀ j:Nat,j<k+1->(l++[(kept r.Keep k:Int)])[j]? =some (kept r.Keep j:Int):=by
   grind
  refine .chk (by simp;omega) ?_
  simp only[Pp,hg,aA];rw[OZ (show k<9223372036854775807 by omega),OZ (show kept r.Keep k<9223372036854775807 by omega)]
  refine .cond (λh=>?_) λh=>?_
  ·subst h;exact .cnt ⟨⟨k+1,rfl,hlt,by simp_all,by simp[hll],hap⟩,by grind⟩
  ·subst h;exact .cnt ⟨⟨k+1,rfl,hlt,by simp_all,by simp[hll],hap⟩,by grind⟩
 ·have hkk:k=r.Keep.length:=by grind
  subst hkk;exact⟨hll,hj⟩
theorem Anr (x:OX):UI x=some (PT x):=by
 grind [UI,PT]
theorem Afg.rng (h:Afg f to) {s:Int} (h0:0<=s) (h1:s<f.Slots.length):0<=rnS to s/\rnS to s<f.Slots.length/\rnS to s=Pc to s:=by
 obtain⟨j,rfl⟩:∃ j:Nat,s=(j:Int):=⟨s.toNat,by omega⟩
 have hl:=h.1;have:=h.2 j (by omega)
 simp_all[rnS]
def PO (x:OX):List Int:=PT x++(if x.Op=16\/x.Op=17 then[x.A]else[])
theorem Aec (hf:Ps f) (hd:RU f) (h:Afg f to) (hx:x∈f.Code):∀ v∈PO (rnI to x),0<=v/\v<f.Slots.length:=by
 intro v hv;have hu:=hf.uses x hx;have hdf:=hd x hx;have key:∀ s:Int,0<=s->s<f.Slots.length->0<=rnS to s/\rnS to s<f.Slots.length:=λs h0 h1=>⟨(h.rng h0 h1).1,(h.rng h0 h1).2.1⟩
 grind [PO,PT,rnI]
theorem AtN (hf:Ps f) (hd:RU f) (hr:We f r):Hs (ZH f r) λl=>PE f.Slots.length l/\∀ k:Nat,k<f.Code.length->Po r.Keep k=true->∀ v∈PO (rnI r.To (OU f k)),v∈l:=by
 have hlen:=hf.len';have hsl:=hf.slots;have hkl:=hr.2.1;unfold ZH;refine Hs.loop (λs=>∃ k:Nat,s.2=(k:Int)/\k<=f.Code.length/\PE f.Slots.length s.1/\∀ j:Nat,j<k->Po r.Keep j=true->∀ v∈PO (rnI r.To (OU f j)),v∈s.1) (λs=>f.Code.length-s.2.toNat) ⟨0,rfl,aAD _,PE.nil _,λj hj=>absurd hj (aAG _)⟩ ?_
 rintro⟨l,_⟩ ⟨k,rfl,hk,hs,hj⟩;replace hs:PE f.Slots.length l:=hs;replace hj:∀ j:Nat,j<k->Po r.Keep j=true->∀ v∈PO (rnI r.To (OU f j)),v∈l:=hj;unfold AaK;refine .dec (λhlt=>.dec (λ_=>?_) λh=>?_) λhge=>.lft (.pure ⟨hs,λj h=>hj j (by omega)⟩)
 ·have hlt:k<f.Code.length:=by omega
  have hx:=hf.at (j:=(k:Int)) (by omega) (by omega)
  rw[aAB]at hx;have hg:r.Keep[k]? =some (Po r.Keep k):=by grind [Po]
  have hnr:=Aec hf hd hr.1 hx.2;unfold XZ;simp only[Pp,hg,hx.1,aA,Aok,Anr,AjF,OZ (show k<9223372036854775807 by omega)]
  refine .cond (λh=>.cnt ⟨⟨k+1,rfl,hlt,hs,λj h' hkj=>?_⟩,by grind⟩) λh=>?_
  ·grind
  ·obtain⟨y,hy⟩:∃ y,y=rnI r.To (OU f k):=⟨_,rfl⟩;rw[<- hy]at hnr ⊢;have hul:(PT y).length<=1:=by grind [PT]
   have hll:=hs.1.length_le;rw[union_eq _ _ (by omega),aA]
   obtain⟨u1,u2⟩:=UK (n:=f.Slots.length) (by omega) (b:=PT y) (a:=l) hs (λx hx=>hnr x (by grind [PO]))
   by_cases hdy:y.Op=16\/y.Op=17
   ·simp only[Agv,if_pos hdy,cond_true];have hA:=hnr y.A (by simp_all[PO])
    obtain⟨a1,a2⟩:=PE.add (n:=f.Slots.length) u1 hA (by omega)
    have a3:=(PE.Ank u1 hA (by omega)).2.2
    rw[a2,aA];refine .cnt ⟨⟨k+1,rfl,hlt,a1,λj h' hkj v hv=>?_⟩,by grind⟩
    show v∈Uz y.A (Rb l (PT y));rw[a3,u2]
    by_cases e:j=k
    ·subst e;rw[<- hy]at hv;unfold PO at hv
     grind
    grind
   ·simp only[Agv,if_neg hdy,cond_false];refine .cnt ⟨⟨k+1,rfl,hlt,u1,λj h' hkj v hv=>?_⟩,by grind⟩
    show v∈Rb l (PT y);rw[u2]
    by_cases e:j=k
    ·simp_all[PO]
    grind
 omega
theorem Alw (hl:r.To.length<=500) (hu:used.length<=512):Hs (Ya r used) λl=>l.length=r.To.length/\∀ (s:Nat) x,l[s]? =some x->0<=x/\(Pc r.To s∈used->used[x.toNat]? =some (Pc r.To s)):=by
 unfold Ya;refine Hs.loop (λz=>∃ k:Nat,z.2=(k:Int)/\k<=r.To.length/\z.1.length=k/\∀ (s:Nat) x,z.1[s]? =some x->0<=x/\(Pc r.To s∈used->used[x.toNat]? =some (Pc r.To s))) (λz=>r.To.length-z.2.toNat) ⟨0,rfl,aAD _,rfl,λs x h=>by simp at h⟩ ?_
 rintro⟨l,_⟩ ⟨k,rfl,hk,hll,hq⟩;replace hll:l.length=k:=hll;refine .dec (λhlt=>?_) λhge=>.lft (.pure ?_)
 ·have hlt:k<r.To.length:=by omega
  have hg:=Qn (to:=r.To) (s:=(k:Int)) (by omega) (by omega)
  rw[aAB]at hg;refine Hs.loop (λz=>∃ i:Nat,z.2=(i:Int)/\i<=used.length/\0<=z.1/\(Pc r.To k∈used.take i->used[z.1.toNat]? =some (Pc r.To k))) (λz=>used.length-z.2.toNat) ⟨0,rfl,aAD _,Int.le_refl _,λh=>by simp at h⟩ ?_
  rintro⟨n,_⟩ ⟨i,rfl,hi,hn,hm⟩;refine .dec (λhlt2=>?_) λhge2=>.lft (.chk (by simp;omega) ?_)
  ·have hlt2:i<used.length:=by omega
   have hgx:used[i]? =some used[i]:=aAA _;have htk:used.take (i+1)=used.take i++[used[i]]:=by simp_all
   generalize used[i]=y at hgx htk;simp only[Pp,hgx,hg,aA];rw[OZ (by omega)]
   refine .beq (λh=>.cnt ⟨⟨i+1,rfl,hlt2,by omega,λ_=>?_⟩,by grind⟩) λh=>.cnt ⟨⟨i+1,rfl,hlt2,hn,λh'=>?_⟩,by simp only;omega⟩
   all_goals grind [aAB]
  ·have hii:i=used.length:=by omega
   subst hii;unfold XN;rw[OZ (by omega)]
   refine .cnt ⟨⟨k+1,rfl,hlt,by simp[hll],λs x hx=>?_⟩,by simp only;omega⟩
   have hx:(l++[n])[s]? =some x:=hx
   by_cases e:s=k
   ·simp_all
   ·have hsl:s<l.length:=by
     have:=(aAC.1 hx).1;simp at this;omega
    rw[aAY hsl]at hx;exact hq s x hx
 ·have hkk:k=r.To.length:=by simp only at hge;omega
  subst hkk;exact⟨hll,hq⟩
def mvI (pl:List Int) (x:OX):OX :=
 if x.Op=20 then⟨x.Op,(pl[x.A.toNat]?).getD 0,x.B,x.C,x.Imm⟩else if x.Op=21 then⟨x.Op,x.A,(pl[x.B.toNat]?).getD 0,x.C,x.Imm⟩else x
def TB (f:Lo) (keep:List Bool) (to pl:List Int) (k:Nat):List OX:=(aAh k).filterMap λj=>if Po keep j=true then some (mvI pl (rnI to (OU f (j:Nat))))else none
theorem Ajf (f:Lo) (keep:List Bool) (to pl:List Int) (k:Nat):TB f keep to pl (k+1)=TB f keep to pl k++(if Po keep k=true then[mvI pl (rnI to (OU f (k:Nat)))]else[]):=by
 unfold TB;rw[aAd,List.filterMap_append]
 by_cases h:Po keep k=true<;>simp[h]
theorem Zg {f:Lo} {keep:List Bool} {to pl:List Int}:∀ k:Nat,k<=keep.length->(TB f keep to pl k).length=kept keep k/\∀ (p:Nat) x,(TB f keep to pl k)[p]? =some x->∃ j:Nat,j<k/\Po keep j=true/\kept keep j=p/\x=mvI pl (rnI to (OU f (j:Nat)))
 | 0,_=>⟨rfl,λp x h=>by simp[TB]at h⟩
 | k+1,hk=>by
  obtain⟨h1,h2⟩:=Zg (f:=f) (keep:=keep) (to:=to) (pl:=pl) k (by omega)
  have hg:keep[k]? =some (Po keep k):=by simp[Po,show k<keep.length by omega]
  rw[Ajf]
  by_cases h:Po keep k=true
  ·rw[if_pos h];rw[h]at hg;have hs:=YZ hg;refine⟨by rw[List.length_append,h1,hs];simp,λp x hx=>?_⟩
   by_cases e:p=kept keep k
   ·subst e;rw[<- h1,aAl]at hx;exact⟨k,by omega,h,h1▸rfl,(Option.some.inj hx).symm⟩
   ·have hpl:p<(TB f keep to pl k).length:=by
     have:=(aAC.1 hx).1;rw[List.length_append]at this;simp at this;omega
    rw[aAY hpl]at hx;obtain⟨j,q1,q2,q3,q4⟩:=h2 p x hx;exact⟨j,by omega,q2,q3,q4⟩
  ·rw[if_neg h,aAt];have hb:Po keep k=false:=by simpa using h
   rw[hb]at hg;have hs:=YZ hg;refine⟨by rw[h1,hs];simp,λp x hx=>?_⟩
   obtain⟨j,q1,q2,q3,q4⟩:=h2 p x hx;exact⟨j,by omega,q2,q3,q4⟩
theorem Aef (h:x.Op=20\/x.Op=21):rnI to x=x:=by
 unfold rnI;rw[if_neg (by omega),if_neg (by omega),if_neg (by omega)]
theorem Aie (hf:Ps f) (hk:k<f.Code.length):((OU f k).Op=20->0<=(OU f k).A/\(OU f k).A<f.Code.length)/\((OU f k).Op=21->0<=(OU f k).B/\(OU f k).B<f.Code.length):=by
 have hx:=hf.at (j:=(k:Int)) (by omega) (by omega)
 rw[aAB]at hx;have hn:=hf.next k _ hx.1;refine⟨λh=>hn _ (by simp[PI,h]),λh=>hn _ ?_⟩
 unfold PI;rw[if_neg (by omega),if_neg (by omega),if_pos h]
 split
 ·simp
 ·split
  ·simp
  ·have:(OU f k).B=k+1:=by omega
   simp[this]
theorem Anj (hf:Ps f) (hkl:r.Keep.length=f.Code.length) (to pl:List Int) (hpl:pl.length=r.Keep.length) (sl:List Pa) :
  Hs (Pe (λs=>Xn f r to pl sl s.1 s.2) ([],0)) λq=>q=(⟨f.Params,sl,TB f r.Keep to pl f.Code.length⟩,0):=by
 have hlen:=hf.len';refine Hs.loop (λs=>∃ k:Nat,s.2=(k:Int)/\k<=f.Code.length/\s.1=TB f r.Keep to pl k) (λs=>f.Code.length-s.2.toNat) ⟨0,rfl,aAD _,rfl⟩ ?_
 rintro⟨_,_⟩ ⟨k,rfl,hk,rfl⟩;unfold Xn;refine .dec (λhlt=>?_) λhge=>.lft (.pure ?_)
 ·have hlt:k<f.Code.length:=by simp only at hlt;omega
  have hx:=hf.at (j:=(k:Int)) (by omega) (by omega)
  rw[aAB]at hx;have hg:r.Keep[k]? =some (Po r.Keep k):=by simp[Po,show k<r.Keep.length by omega]
  have hol:=(Zg (f:=f) (keep:=r.Keep) (to:=to) (pl:=pl) k (by omega)).1
  have hkk:=AjE r.Keep k;have hs:=Ajf f r.Keep to pl k;obtain⟨t1,t2⟩:=Aie hf hlt;simp only[Pp,hg,hx.1,aA,Aok];refine .cond (λh=>?_) λh=>?_
  ·have hkf:¬ Po r.Keep k=true:=λh'=>by rw[h']at h;cases h
   rw[if_neg hkf,aAt]at hs;rw[OZ (by omega)]
   exact .cnt ⟨⟨k+1,rfl,hlt,hs.symm⟩,by simp only;omega⟩
  ·have hkt:Po r.Keep k=true:=by simpa using h
   rw[if_pos hkt]at hs;have fin:∀ a b:Int,(⟨(rnI to (OU f k)).Op,a,b,(rnI to (OU f k)).C,(rnI to (OU f k)).Imm⟩:OX)=mvI pl (rnI to (OU f k))->Hs (TM (TB f r.Keep to pl k) (rnI to (OU f k)) (k:Int) a b) (Rnd (λs:List OX×Int=>∃ k:Nat,s.2=(k:Int)/\k<=f.Code.length/\s.1=TB f r.Keep to pl k) (λs=>f.Code.length-s.2.toNat) (TB f r.Keep to pl k,(k:Int)) λq=>q=(⟨f.Params,sl,TB f r.Keep to pl f.Code.length⟩,0)):=by
    intro a b hab;unfold TM;refine .chk (by simp;omega) (.chk (by simp;omega) ?_)
    rw[OZ (by omega)]
    refine .cnt ⟨⟨k+1,rfl,hlt,?_⟩,by simp only;omega⟩
    show([]++TB f r.Keep to pl k)++[_]=_;rw[List.nil_append,hs,hab]
   refine .beq (λh20=>?_) λh20=>.beq (λh21=>?_) λh21=>fin _ _ ?_
   ·have h20':(OU f k).Op=20:=by rw[Aee]at h20;exact h20
    rw[Aef (.inl h20')]at fin ⊢;have t:=t1 h20';refine .chk (by omega) ((Hs.get t.1 (by omega) λx hx=>hx).bind λx hx=>fin _ _ ?_)
    simp only[mvI,if_pos h20',hx,aAs]
   ·have h21':(OU f k).Op=21:=by rw[Aee]at h21;exact h21
    rw[Aef (.inr h21')]at fin ⊢;have t:=t2 h21';refine .chk (by omega) ((Hs.get t.1 (by omega) λx hx=>hx).bind λx hx=>fin _ _ ?_)
    have:¬ (OU f k).Op=20:=by omega
    simp only[mvI,if_neg this,if_pos h21',hx,aAs]
   ·simp only[mvI,if_neg h20,if_neg h21]
 ·have hkk:k=f.Code.length:=by simp only at hge;omega
  subst hkk;rfl
theorem Arq (f:Lo) (to:List Int) (hsl:f.Slots.length<=500):Hs (Aas f to) λb=>b=true↔Afg f to:=by
 unfold Aas;refine .bne (λh=>.pure ⟨λh'=>(by cases h'),λh'=>(h (by rw[h'.1])).elim⟩) λh=>?_
 have hl:to.length=f.Slots.length:=by omega
 refine Hs.loop (λi=>∃ k:Nat,i=(k:Int)/\k<=to.length/\∀ s:Nat,s<k->0<=Pc to s/\Pc to s<to.length) (λi=>to.length-i.toNat) ⟨0,rfl,aAD _,λs hs=>absurd hs (aAG _)⟩ ?_
 rintro _ ⟨k,rfl,hk,hall⟩;unfold ZC;refine .dec (λhlt=>?_) λhge=>.lft ?_
 ·have hlt:k<to.length:=by omega
  have hg:to[k]? =some (Pc to k):=by have:=Qn (to:=to) (s:=k) (by omega) (by omega);simpa using this
  simp only[Pp,hg,aA];refine .dec (λh0=>.lft (.pure ⟨λh=>(by cases h),λh=>?_⟩)) λh0=>.dec (λh1=>.lft (.pure ⟨λh=>(by cases h),λh=>?_⟩)) λh1=>?_
  ·have:=(h.2 k hlt).1;omega
  ·have:=(h.2 k hlt).2.1;omega
  rw[OZ (by omega)]
  refine .cnt ⟨⟨k+1,rfl,hlt,λs hs=>?_⟩,by simp only;omega⟩
  by_cases e:s=k
  ·subst e;exact⟨by omega,by omega⟩
  ·exact hall s (by omega)
 have hkk:k=to.length:=by omega
 subst hkk;refine Hs.loop (λi=>∃ k:Nat,i=(k:Int)/\k<=to.length/\∀ s:Nat,s<k->RO f (Pc to s)=RO f s/\Pc to (Pc to s)=Pc to s) (λi=>to.length-i.toNat) ⟨0,rfl,aAD _,λs hs=>absurd hs (aAG _)⟩ ?_
 rintro _ ⟨k,rfl,hk,hall2⟩;unfold ZD;refine .dec (λhlt=>?_) λhge=>.lft (.pure ?_)
 ·have hlt:k<to.length:=by omega
  obtain⟨q0,q1⟩:=hall k hlt;have hg:to[k]? =some (Pc to k):=by have:=Qn (to:=to) (s:=k) (by omega) (by omega);simpa using this
  simp only[Pp,hg,aA];refine Hs.bind (Hs.ix (i:=Pc to k) (P:=λx=>x.Size=RO f (Pc to k)) (by omega) (by omega) λx hx=>AeR hx) λa ha=>?_
  refine Hs.bind (Hs.get (i:=(k:Int)) (P:=λx=>x.Size=RO f k) (by omega) (by omega) λx hx=>AeR hx) λb hb=>?_
  rw[ha,hb];refine .bne (λh2=>.lft (.pure ⟨λh=>(by cases h),λh=>(h2 (h.2 k hlt).2.2.1).elim⟩)) λh2=>?_
  rw[QB _ (by omega),Qn (by omega) (by omega),aA]
  refine .bne (λh3=>.lft (.pure ⟨λh=>(by cases h),λh=>(h3 (h.2 k hlt).2.2.2).elim⟩)) λh3=>?_
  rw[OZ (by omega)]
  refine .cnt ⟨⟨k+1,rfl,hlt,λs hs=>?_⟩,by simp only;omega⟩
  by_cases e:s=k
  ·subst e;exact⟨h2,h3⟩
  ·exact hall2 s (by omega)
 ·exact⟨λ_=>⟨hl,λs hs=>⟨(hall s hs).1,(hall s hs).2,(hall2 s (by omega)).1,(hall2 s (by omega)).2⟩⟩,λ_=>rfl⟩
theorem Aro (x:OX):Sy x=some (decide (x.Op=16\/x.Op=17)):=by
 unfold Sy
 by_cases h16:x.Op=16
 ·simp[h16]
 ·have e16:(x.Op==16)=false:=by simpa using h16
  rw[e16,cond_false]
  by_cases h17:x.Op=17<;>simp[h16,h17]
theorem Akh (hf:Ps f) (r:Pj):Hs (Aat f r) λe=>(e=0\/e=12)/\(e=0↔We f r):=by
 have hlen:=hf.len';unfold Aat;refine(Arq f r.To hf.slots).bind λb hb=>.cond (λh=>.pure ⟨.inr rfl,λh=>by omega,λh'=>?_⟩) λh=>?_
 ·rw[hb.2 h'.1]at h;cases h
 have hv:Afg f r.To:=hb.1 (by simpa using h)
 refine .bne (λh=>.pure ⟨.inr rfl,λh=>by omega,λh'=>(h (by rw[h'.2.1])).elim⟩) λh=>?_
 have hkl:r.Keep.length=f.Code.length:=by omega
 unfold ZG;refine Hs.loop (λi=>∃ k:Nat,i=(k:Int)/\k<=f.Code.length/\∀ j:Nat,j<k->Po r.Keep j=false->(OU f j).Op=16\/(OU f j).Op=17) (λi=>f.Code.length-i.toNat) ⟨0,rfl,aAD _,λs hs=>absurd hs (aAG _)⟩ ?_
 rintro _ ⟨k,rfl,hk,hall⟩;unfold ZF;refine .dec (λhlt=>?_) λhge=>.lft (.pure ⟨.inl rfl,λ_=>⟨hv,hkl,λj hj=>hall j (by omega)⟩,λ_=>rfl⟩)
 have hlt:k<f.Code.length:=by omega
 have hx:=hf.at (j:=(k:Int)) (by omega) (by omega)
 rw[aAB]at hx;have hg:r.Keep[k]? =some (Po r.Keep k):=by simp[Po,show k<r.Keep.length by omega]
 have stp:(Po r.Keep k=false->(OU f k).Op=16\/(OU f k).Op=17)->∀ j:Nat,j<k+1->Po r.Keep j=false->(OU f j).Op=16\/(OU f j).Op=17:=by
  intro h j hj
  by_cases e:j=k
  ·subst e;exact h
  ·exact hall j (by omega)
 simp only[Pp,hx.1,hg,aA,Aro];rw[OZ (by omega)]
 refine .cond (λh=>?_) λh=>.cnt ⟨⟨k+1,rfl,hlt,stp λh'=>by rw[h']at h;cases h⟩,by simp only;omega⟩
 have hkf:Po r.Keep k=false:=by simpa using h
 refine .cond (λh=>.lft (.pure ⟨.inr rfl,λh=>by omega,λh'=>?_⟩)) λh=>.cnt ⟨⟨k+1,rfl,hlt,stp λ_=>aAe λhn=>by rw[decide_eq_false hn]at h;cases h⟩,by simp only;omega⟩
 have:=h'.2.2 k hlt hkf;simp[this]at h
theorem AjC:∀ {l:List Int} {a n:Int},l.Pairwise (· <·)->(∀ x∈l,a<=x/\x<n)->(l.length:Int)<=max 0 (n-a)
 | [],a,n,_,_=>by simp;omega
 | x::l,a,n,hp,hr=>by
  have h:=aAW.1 hp;have hx:=hr x (by simp)
  have:=AjC (l:=l) (a:=x+1) (n:=n) h.2 λy hy=>⟨by have:=h.1 y hy;omega,(hr y (by simp[hy])).2⟩
  simp only[List.length_cons];omega
theorem ArI (hsl:f.Slots.length<=500) (htl:r.To.length=f.Slots.length) {u:Int} {x:Pa} {out:List Pa} (hi:i<=1000) {l:List Int} (hll:l.length<=1000) (ho:out.length=i) (hl:∀ t∈l,0<=t/\t<f.Slots.length) {Q:Lo×Int->Prop} (hI:∀ y:Pa,y.Size=x.Size->(∃ t∈x::f.Slots,y.Align=t.Align)->Rnd I μ s0 Q (.inl (out++[y],((i+1:Nat):Int)))):Hs (Pe (λs=>UU l f out x (i:Int) s.1 s.2) (x.Align,0)) (Rnd I μ s0 Q):=by
 refine Hs.loop (λs=>∃ k:Nat,s.2=(k:Int)/\k<=l.length/\∃ t∈x::f.Slots,s.1=t.Align) (λs=>l.length-s.2.toNat) ⟨0,rfl,aAD _,x,by simp,rfl⟩ ?_
 rintro⟨a,_⟩ ⟨k,rfl,hk,t0,ht0,hat⟩;replace hat:a=t0.Align:=hat;unfold UU;refine .dec (λhlt=>?_) λ_=>.lft (.chk (by simp;omega) (.chk (by simp;omega) ?_))
 ·have hlt:k<l.length:=by simp only at hlt;omega
  refine .chk (by omega) ((Hs.get (by omega) (by omega) λt ht=>aAE ht).bind λt ht=>?_)
  have:=hl t ht;refine(Hs.ix (P:=λy=>y∈f.Slots) this.1 this.2 λy hy=>aAE hy).bind λy hy=>?_
  rw[OZ (by omega),Un]
  refine .cnt ⟨⟨k+1,rfl,hlt,?_⟩,by simp only;omega⟩
  by_cases e:a<=y.Align
  ·exact⟨y,aAI _ hy,by simp only;omega⟩
  ·exact⟨t0,ht0,by simp only;omega⟩
 ·unfold Xo;rw[OZ (by omega)]
  exact .cnt (hI _ rfl ⟨t0,ht0,hat⟩)
def AcW (f:Lo) (used:List Int) (out:List Pa):Prop :=
 ∀ (j:Nat) y,out[j]? =some y->∃ u x,used[j]? =some u/\f.Slots[u.toNat]? =some x/\y.Size=x.Size/\∃ t∈f.Slots,y.Align=t.Align
theorem AcW.snoc {out:List Pa} (h:AcW f used out) (ho:out.length=i) (hu:used[i]? =some u) {x y:Pa} (hx:f.Slots[u.toNat]? =some x) (h1:y.Size=x.Size) (h2:∃ t∈x::f.Slots,y.Align=t.Align):AcW f used (out++[y]):=by
 intro j z hz
 by_cases e:j<out.length
 ·rw[aAY e]at hz;exact h j z hz
 ·have hj:j=i:=by
   have:=(aAC.1 hz).1;simp at this;omega
  subst hj;rw[List.getElem?_append_right (by omega),ho]at hz
  simp at hz;subst hz;obtain⟨t,ht,e⟩:=h2;refine⟨u,x,hu,hx,h1,?_⟩;rcases aAK.1 ht with h|h
  ·subst h;exact⟨t,aAE hx,e⟩
  ·exact⟨t,h,e⟩
theorem Aqq (hf:Ps f) (hd:RU f) (hr:We f r):Hs (Ri f r) λq=>q.2=0/\∃ used to pl:List Int,PE f.Slots.length used/\(∀ k:Nat,k<f.Code.length->Po r.Keep k=true->∀ v∈PO (rnI r.To (OU f k)),v∈used)/\to.length=r.To.length/\(∀ (s:Nat) x,to[s]? =some x->0<=x/\(Pc r.To s∈used->used[x.toNat]? =some (Pc r.To s))) /\
  pl.length=r.Keep.length/\(∀ j:Nat,j<r.Keep.length->pl[j]? =some (kept r.Keep j:Int))/\q.1.Slots.length=used.length/\q.1.Params=f.Params/\q.1.Code=TB f r.Keep to pl f.Code.length/\AcW f used q.1.Slots:=by
 have hlen:=hf.len';have hsl:=hf.slots;have hkl:=hr.2.1;have htl:=hr.1.1;unfold Ri;refine(Akh hf r).bind λe he=>.bne (λh=>(h (he.2.2 hr)).elim) λ_=>?_
 refine(AtN hf hd hr).bind λused ⟨hu1,hu2⟩=>?_
 have hul:=hu1.1.length_le;refine Hs.loop (λs=>∃ i:Nat,s.2=(i:Int)/\i<=used.length/\s.1.length=i/\AcW f used s.1) (λs=>used.length-s.2.toNat) ⟨0,rfl,aAD _,rfl,λj y hj=>by simp at hj⟩ ?_
 rintro⟨out,_⟩ ⟨i,rfl,hi,ho,hsa⟩;replace ho:out.length=i:=ho;replace hsa:AcW f used out:=hsa;unfold ZE;refine .dec (λhlt=>?_) λhge=>.lft ?_
 ·have hlt:i<used.length:=by simp only at hlt;omega
  have hgx:used[i]? =some used[i]:=aAA _;have hxm:=aAF hlt;generalize used[i]=u at hgx hxm;have h0:=(hu1.1.2 u hxm).1;have h1:=hu1.2 u hxm;refine .chk (by omega) ?_
  simp only[aAB,hgx,aA];refine(Hs.ix (P:=λx=>f.Slots[u.toNat]? =some x) h0 h1 λx hx=>hx).bind λx hfx=>.chk (by omega) ?_
  refine(AeX (by omega) u).bind λl hm=>?_
  refine ArI (u:=u) hsl htl (by omega) (l:=l) (by omega) ho (λt ht=>?_) λy hy1 hy2=>⟨⟨i+1,rfl,hlt,by simp[ho],hsa.snoc ho hgx hfx hy1 hy2⟩,by simp only;omega⟩
  obtain⟨j,q1,rfl,_⟩:=(hm.2 t).1 ht;omega
 have hii:i=used.length:=by simp only at hge;omega
 subst hii;refine(Alw (by omega) hul).bind λto ⟨n1,n2⟩=>(Amz r (by omega)).bind λpl ⟨p1,p2⟩=>?_
 refine(Anj hf hkl to pl p1 out).mono λq hq=>?_
 subst hq;exact⟨rfl,used,to,pl,hu1,hu2,n1,n2,p1,p2,ho,rfl,rfl,hsa⟩
theorem Anm (hf:Ps f) (hd:RU f) (hr:We f r):Hs (Ri f r) λq=>q.2=0/\∃ used to pl:List Int,PE f.Slots.length used/\(∀ k:Nat,k<f.Code.length->Po r.Keep k=true->∀ v∈PO (rnI r.To (OU f k)),v∈used)/\to.length=r.To.length/\(∀ (s:Nat) x,to[s]? =some x->0<=x/\(Pc r.To s∈used->used[x.toNat]? =some (Pc r.To s))) /\
  pl.length=r.Keep.length/\(∀ j:Nat,j<r.Keep.length->pl[j]? =some (kept r.Keep j:Int))/\q.1.Slots.length=used.length/\q.1.Params=f.Params/\q.1.Code=TB f r.Keep to pl f.Code.length :=
 (Aqq hf hd hr).mono λq ⟨h0,used,to,pl,u1,u2,n1,n2,p1,p2,sl,pr,cd,_⟩=>⟨h0,used,to,pl,u1,u2,n1,n2,p1,p2,sl,pr,cd⟩
theorem Amt {keep:List Bool} {j:Nat}:∀ {k:Nat},j<=k->k<=keep.length->kept keep j<=kept keep k
 | 0,h,_=>by
  have:j=0:=by omega
  subst this;exact aAT _
 | k+1,h,hk=>by
  by_cases e:j=k+1
  ·subst e;exact aAT _
  ·have h1:=Amt (keep:=keep) (j:=j) (k:=k) (by omega) (by omega)
   have hg:keep[k]? =some (keep[k]'(by omega)):=aAA _
   have:=YZ hg;omega
def Aff (f:Lo):Prop:=(OU f (f.Code.length-1:Nat)).Op=23\/(OU f (f.Code.length-1:Nat)).Op=24
theorem AlS (hf:Ps f) (hlast:Aff f) (hr:We f r) {t:Nat} (ht:t<f.Code.length):kept r.Keep t<kept r.Keep f.Code.length:=by
 have hkl:=hr.2.1;have hl:=hf.len;have hk:Po r.Keep (f.Code.length-1)=true:=by
  cases h:Po r.Keep (f.Code.length-1)
  ·have:=hr.2.2 _ (by omega) h
   unfold Aff at hlast;omega
  ·rfl
 have hg:r.Keep[f.Code.length-1]? =some true:=by
  rw[<- hk];simp[Po,show f.Code.length-1<r.Keep.length by omega]
 have h1:=YZ hg;have h2:=Amt (keep:=r.Keep) (j:=t) (k:=f.Code.length-1) (by omega) (by omega)
 rw[show f.Code.length-1+1=f.Code.length by omega]at h1
 simp at h1;omega
theorem Apx (hf:Ps f) (hlast:Aff f) (hr:We f r) {pl:List Int} (hpl:∀ j:Nat,j<r.Keep.length->pl[j]? =some (kept r.Keep j:Int)) {p:Nat} (hx:(TB f r.Keep to pl f.Code.length)[p]? =some x):∀ t∈PI x p,0<=t/\t<(kept r.Keep f.Code.length:Int):=by
 have hkl:=hr.2.1;obtain⟨j,hj,hk,rfl,rfl⟩:=(Zg (f:=f) (keep:=r.Keep) (to:=to) (pl:=pl) f.Code.length (by omega)).2 p x hx
 have hcode:=(hf.at (j:=(j:Int)) (by omega) (by omega)).1
 rw[aAB]at hcode;have hn:=hf.next j _ hcode;obtain⟨t1,t2⟩:=Aie hf hj;have hg:r.Keep[j]? =some true:=by
  rw[<- hk];simp[Po,show j<r.Keep.length by omega]
 have hs:=YZ hg;simp at hs;have at_:∀ t:Int,0<=t->t<f.Code.length->(pl[t.toNat]?).getD 0=(kept r.Keep t.toNat:Int)/\kept r.Keep t.toNat<kept r.Keep f.Code.length:=λt h0 h1=>by
  rw[hpl t.toNat (by omega)]
  exact⟨rfl,AlS hf hlast hr (by omega)⟩
 have nx:(j:Int)+1<f.Code.length->(kept r.Keep j:Int)+1<kept r.Keep f.Code.length:=λh=>by
  have:=AlS hf hlast hr (t:=j+1) (by omega)
  omega
 intro t ht
 by_cases h20:(OU f j).Op=20
 ·rw[Aef (.inl h20)]at ht;simp only[mvI,if_pos h20,PI]at ht;have:=at_ _ (t1 h20).1 (t1 h20).2;simp at ht;omega
 ·by_cases h21:(OU f j).Op=21
  ·rw[Aef (.inr h21)]at ht;have a:=at_ _ (t2 h21).1 (t2 h21).2
   have b:=nx (by
    have:=hn ((j:Int)+1) (by
     unfold PI;rw[if_neg h20,if_neg (by omega),if_pos h21]
     split
     ·simp
     ·split<;>simp)
    omega)
   have hmem:t=(pl[(OU f j).B.toNat]?).getD 0\/t=(kept r.Keep j:Int)+1:=by
    simp only[mvI,if_neg h20,if_pos h21,PI]at ht;rw[if_neg (by omega)]at ht
    split at ht
    ·simpa using ht
    ·split at ht
     ·simp at ht;exact ht.symm
     ·simp at ht;exact .inr ht
   omega
  ·have hop:(mvI pl (rnI to (OU f j))).Op=(OU f j).Op:=by
    have h:=Aee to (OU f j);unfold mvI;rw[if_neg (by rw[h];exact h20),if_neg (by rw[h];exact h21),h]
   unfold PI at ht;rw[hop,if_neg h20]at ht
   by_cases h23:(OU f j).Op=23\/(OU f j).Op=24
   ·rw[if_pos h23]at ht;cases ht
   ·rw[if_neg h23,if_neg h21]at ht
    have b:=nx (by
     have:=hn ((j:Int)+1) (by
      unfold PI;rw[if_neg h20,if_neg h23,if_neg h21]
      simp)
     omega)
    rw[aAP.1 ht];omega
theorem Afz (to:List Int) (x:OX) (v:Int):v∈PO (rnI to x)↔∃ s∈PO x,v=rnS to s:=by
 have hop:=Aee to x;unfold PO PT;rw[hop];unfold rnI
 by_cases h15:x.Op=15
 ·simp[h15]
 ·by_cases h16:x.Op=16
  ·simp[h16]
  ·by_cases h17:x.Op=17
   ·simp[h17]
   ·simp[h15,h16,h17]
theorem Asf (pl:List Int) (x:OX):PO (mvI pl x)=PO x:=by
 unfold mvI
 by_cases h20:x.Op=20
 ·simp[h20,PO,PT]
 ·by_cases h21:x.Op=21
  ·simp[h21,PO,PT]
  ·simp[h20,h21]
theorem Ajd (hf:Ps f) (hd:RU f) (hx:x∈f.Code) {s:Int} (hs:s∈PO x):0<=s/\s<f.Slots.length:=by
 rcases aAU.1 hs with h|h
 ·exact hf.uses x hx s h
 ·by_cases hop:x.Op=16\/x.Op=17
  ·rw[if_pos hop]at h;rw[aAP.1 h];exact hd x hx hop
  ·rw[if_neg hop]at h;cases h
theorem AoG (hf:Ps f) (hd:RU f) (hr:We f r) {pl:List Int} (hu:∀ k:Nat,k<f.Code.length->Po r.Keep k=true->∀ v∈PO (rnI r.To (OU f k)),v∈used) (htl:to.length=r.To.length) (hto:∀ (s:Nat) x,to[s]? =some x->0<=x/\(Pc r.To s∈used->used[x.toNat]? =some (Pc r.To s))) {p:Nat} (hx:(TB f r.Keep to pl f.Code.length)[p]? =some x):∀ v∈PO x,0<=v/\v<used.length:=by
 have hkl:=hr.2.1;have hrl:=hr.1.1;obtain⟨j,hj,hk,rfl,rfl⟩:=(Zg (f:=f) (keep:=r.Keep) (to:=to) (pl:=pl) f.Code.length (by omega)).2 p x hx
 have hxm:=(hf.at (j:=(j:Int)) (by omega) (by omega)).2
 intro v hv;rw[Asf,Afz]at hv;obtain⟨s,hs,rfl⟩:=hv;obtain⟨h0,h1⟩:=Ajd hf hd hxm hs;have hm:=hu j hj hk (rnS r.To s) ((Afz _ _ _).2 ⟨s,hs,rfl⟩);rw[(hr.1.rng h0 h1).2.2]at hm;have hg:=Qn (to:=to) (s:=s) h0 (by omega)
 have e:rnS to s=Pc to s:=by unfold rnS;rw[if_pos (by omega)]
 rw[e];obtain⟨q1,q2⟩:=hto s.toNat _ hg;rw[aAZ h0]at q2;have:=(aAC.1 (q2 hm)).1;omega
theorem Apw (hf:Ps f) (hd:RU f) (hlast:Aff f) (hr:We f r):Hs (Ri f r) λq=>q.2=0/\Ps q.1/\RU q.1:=by
 have hkl:=hr.2.1;have hsl:=hf.slots;have hlen:=hf.len';have hl1:=hf.len;refine(Anm hf hd hr).mono λq ⟨h0,used,to,pl,u1,u2,n1,n2,p1,p2,sl,_,cd⟩=>⟨h0,?_⟩
 have hcl:q.1.Code.length=kept r.Keep f.Code.length:=by rw[cd];exact(Zg (f:=f) (keep:=r.Keep) (to:=to) (pl:=pl) _ (by omega)).1
 have hk0:=AlS hf hlast hr (t:=0) (by omega)
 have hkl2:=AjE r.Keep f.Code.length;have hul:=AjC (l:=used) (a:=0) (n:=f.Slots.length) u1.1.1 λx hx=>⟨(u1.1.2 x hx).1,u1.2 x hx⟩
 have nm:∀ x∈q.1.Code,∀ v∈PO x,0<=v/\v<q.1.Slots.length:=by
  intro x hx v hv;obtain⟨p,hp⟩:=aAR hx;rw[cd]at hp;have:=AoG hf hd hr u2 n1 n2 hp v hv;omega
 refine⟨⟨by omega,by omega,by omega,λk x hx j hj=>?_,λx hx v hv=>nm x hx v (aAi _ hv)⟩,λx hx hop=>nm x hx x.A (by unfold PO;rw[if_pos hop];simp)⟩
 rw[cd]at hx;have:=Apx hf hlast hr p2 hx j hj;omega
def AcU (n:Nat) (f:Lo):Prop:=∀ x∈f.Code,x.Op=22->0<=x.A/\x.A<n
theorem Aam.calls {i most:Int} (h:Aam ps i most f) (hi:0<=i):AcU ps.length f:=by
 intro x hx hop;obtain⟨k,hk⟩:=aAR hx;have hkl:=(aAC.1 hk).1
 by_cases hk1:k+1<f.Code.length
 ·have hins:=h.body k x hk hk1;cases hins with
  | call j h0 h1=>exact⟨by simp only;omega,h1⟩
  | bin op a b c h1 h2 h3 h4 h5 h6=>simp only at hop;omega
  | un op a h1 h2=>simp only at hop;omega
  | _=>simp at hop
 ·have he:=h.last x (by rw[show f.Code.length-1=k by omega];exact hk)
  rcases he with rfl|⟨w,_,rfl⟩<;>simp at hop
theorem Aqf {n:Nat} (h:AcU n f) {keep:List Bool} {pl:List Int} (hk:f.Code.length<=keep.length):∀ x∈TB f keep to pl f.Code.length,x.Op=22->0<=x.A/\x.A<n:=by
 intro x hx hop;obtain⟨p,hp⟩:=aAR hx;obtain⟨j,h1,_,_,rfl⟩:=(Zg (f:=f) (keep:=keep) (to:=to) (pl:=pl) _ hk).2 p x hp;have hm:OU f (j:Nat)∈f.Code:=by
  have:OU f ((j:Nat):Int)=f.Code[j]:=by simp[OU,h1]
  rw[this];exact aAF _
 have ho:(mvI pl (rnI to (OU f (j:Nat)))).Op=(OU f (j:Nat)).Op:=by
  refine Eq.trans ?_ (Aee to _);unfold mvI;split
  ·rfl
  ·split<;>rfl
 rw[ho]at hop;have e:mvI pl (rnI to (OU f (j:Nat)))=OU f (j:Nat):=by simp[mvI,rnI,hop]
 rw[e];exact h _ hm hop
theorem AoF (hf:Ps f) (hd:RU f) (hlast:Aff f) {n:Nat} (hc:AcU n f) (hr:We f r):Hs (Ri f r) λq=>q.2=0/\Ps q.1/\RU q.1/\AcU n q.1:=by
 obtain⟨q,e,h1,h2,h3⟩:=Apw hf hd hlast hr;obtain⟨q',e',_,used,to,pl,_,_,_,_,_,_,_,_,cd⟩:=Anm hf hd hr;rw[e]at e';cases e';refine⟨q,e,h1,h2,h3,?_⟩;unfold AcU;rw[cd];exact Aqf hc (by rw[hr.2.1];exact aAT _)
theorem ApB (hf:Ps f) (hd:RU f) (hml:AbK f) {l:Ph} (hacc:Acc f l.Out):Hs (Aaq f l) λg=>Hs (Tw f g.1) λto=>Hs (AeP f l to) λkeep=>We f ⟨to,keep⟩:=by
 have hlen:=hf.len';have hsl:=hf.slots;refine Hs.mono (P:=SB QZ f l.Out) ?_ λg hg=>?_
 ·unfold Aaq;exact(Ajs hf hd (hacc.1.len hf) false).bind λr hr=>.pure hr
 rcases hg with⟨_,_,hg⟩|⟨_,hn,_⟩
 rotate_left
 ·exact(hn hacc).elim
 refine(Alf hlen hsl hml hg (λx y r s hr hs hy=>((hg.2 y s hs).2 _).2 (((hg.2 x r hr).2 _).1 hy).symm) λx r hr hx=>?_).mono λto hto=>?_
 ·rcases((hg.2 x r hr).2 _).1 hx with⟨_,_,_,_,_,_,h',_⟩|⟨_,_,_,_,_,_,h',_⟩<;>exact h' rfl
 refine(AlR hf hacc.1 hml hto.ok.1).mono λkeep ⟨hkl,hkp⟩=>⟨hto.ok,hkl,λk hk h=>?_⟩
 by_cases h1:TN f l.Out k
 ·exact h1.1
 ·by_cases h2:(OU f k).Op=17/\Pc to (OU f k).A=Pc to (OU f k).B
  ·exact .inr h2.1
  ·have:=(hkp k hk).2 ⟨h1,h2⟩;rw[h]at this;cases this
theorem AsK (ht:Sr t) (n:Int):TW t n=some (decide (0<=n/\n<512)&&hasB t n,t):=by
 unfold TW;rw[Agm,aA]
 by_cases h:0<=n/\n<512
 ·rw[decide_eq_true h];obtain⟨h0,h1⟩:=h;have hi:n.toNat / 64<8:=by omega
  have hw:=ht.word hi;simp only[cond_true,Bool.true_and];rw[Aqk h0 h1,PK (by omega),aAB,Zo hi,aA,PK (Anc n).1,(Anc n).2 h0 h1]
  have e:Nat.min (n.toNat % 64) IntKind.u64.bits=n.toNat % 64:=aAg (by show n.toNat % 64<=64;omega)
  have e2:(TU t (n.toNat / 64)).fdiv (2 ^ (n.toNat % 64))=(((TU t (n.toNat / 64)).toNat / 2 ^ (n.toNat % 64):Nat):Int):=by
   rw[aAm _ (Int.pow_nonneg (by omega))]
   have:TU t (n.toNat / 64)=(((TU t (n.toNat / 64)).toNat:Nat):Int):=by have:=hw.1;omega
   grind
  have hlt:(TU t (n.toNat / 64)).toNat / 2 ^ (n.toNat % 64)<18446744073709551616:=Nat.lt_of_le_of_lt (Nat.div_le_self ..) hw.toNat_lt;rw[e,e2,AsD (WW.nat hlt) ⟨by omega,by omega⟩]
  congr 2;unfold hasB AcZ
  grind
 grind
theorem ArK (hs:PQ s) (n:Int):AbL s n=some (decide (n∈s)):=by
 unfold AbL;obtain⟨t,h1,h2,h3⟩:=AhQ s (by have:=hs.length_le;omega)
 rw[h1,aA,AsK h2,aA]
 by_cases h:0<=n/\n<512
 ·simp_all
 ·rw[decide_eq_false h,Bool.false_and,decide_eq_false λhm=>h (hs.2 n hm)]
theorem ArP (hf:Ps f) {l:Ph} (hl:QA f l.Out):Hs (Zu f l) λd=>d.length<=f.Code.length/\∀ v,v∈d↔∃ k:Nat,k<f.Code.length/\v=(k:Int)/\TN f l.Out k:=by
 have hlen:=hf.len';refine Hs.loop (λs=>∃ k:Nat,s.2=(k:Int)/\k<=f.Code.length/\s.1.length<=k/\∀ v,v∈s.1↔∃ j:Nat,j<k/\v=(j:Int)/\TN f l.Out j) (λs=>f.Code.length-s.2.toNat) ⟨0,rfl,aAD _,aAT _,λv=>⟨λh=>(by cases h),λ⟨j,h,_⟩=>absurd h (aAG _)⟩⟩ ?_
 rintro⟨d,_⟩ ⟨k,rfl,hk,hdl,hd⟩;replace hdl:d.length<=k:=hdl;refine .dec (λhlt=>?_) λhge=>.lft (.pure ?_)
 ·have hlt:k<f.Code.length:=by omega
  have hx:=hf.at (j:=(k:Int)) (by omega) (by omega)
  have hrow:=hl.at (j:=(k:Int)) (by omega) (by omega)
  rw[aAB]at hx hrow;simp only[Pp,hx.1,aA,AeV,OZ (show k<9223372036854775807 by omega)]
  have no:¬ TN f l.Out k->Rnd (λs:List Int×Int=>∃ k:Nat,s.2=(k:Int)/\k<=f.Code.length/\s.1.length<=k/\∀ v,v∈s.1↔∃ j:Nat,j<k/\v=(j:Int)/\TN f l.Out j) (λs=>f.Code.length-s.2.toNat) (d,(k:Int)) (λd:List Int=>d.length<=f.Code.length/\∀ v,v∈d↔∃ k:Nat,k<f.Code.length/\v=(k:Int)/\TN f l.Out k) (.inl (d,((k+1:Nat):Int))):=λhn=>by
   refine⟨⟨k+1,rfl,hlt,by grind,λv=>?_⟩,by grind⟩
   grind
  by_cases hop:(OU f k).Op=16\/(OU f k).Op=17
  ·rw[if_pos hop];simp only[cond_true,hrow.1,aA];rw[ArK hrow.2.1,aA];refine .cond (λh=>?_) λh=>.cnt (no λhk=>by have:=hk.2;simp_all)
   have hdk:TN f l.Out k:=⟨hop,by simp_all⟩
   refine .chk (by simp;omega) (.cnt ⟨⟨k+1,rfl,hlt,by simp;omega,λv=>?_⟩,by grind⟩)
   grind
  ·rw[if_neg hop];exact .cnt (no λh=>hop h.1)
 ·have hkk:k=f.Code.length:=by omega
  subst hkk;exact⟨hdl,hd⟩
theorem ArQ (hf:Ps f) {l:Ph} (hl:QA f l.Out) (hml:AbK f) (htl:to.length=f.Slots.length):Hs (WV f l to) λkeep=>keep.length=f.Code.length/\∀ k:Nat,k<f.Code.length->(Po keep k=true↔¬ TN f l.Out k/\¬ ((OU f k).Op=17/\Pc to (OU f k).A=Pc to (OU f k).B)):=by
 have hlen:=hf.len';refine .chk (by omega) ((ArP hf hl).bind λd ⟨hdl,hd⟩=>?_)
 refine Hs.loop (λs=>∃ k:Nat,s.2=(k:Int)/\k<=f.Code.length/\s.1.length=f.Code.length/\(∀ j:Nat,j<k->(Po s.1 j=true↔¬ TN f l.Out j/\¬ ((OU f j).Op=17/\Pc to (OU f j).A=Pc to (OU f j).B)))/\∀ j:Nat,k<=j->j<f.Code.length->Po s.1 j=false) (λs=>f.Code.length-s.2.toNat)
  ⟨0,rfl,aAD _,by simp,λj hj=>absurd hj (aAG _),λj _ hj=>by grind [Po]⟩ ?_
 rintro⟨keep,_⟩ ⟨k,rfl,hk,hkl,hk1,hk2⟩;replace hkl:keep.length=f.Code.length:=hkl;refine .dec (λhlt=>?_) λhge=>.lft (.pure ?_)
 rotate_left
 ·have hkk:k=f.Code.length:=by omega
  subst hkk;exact⟨hkl,hk1⟩
 have hlt:k<f.Code.length:=by omega
 have hx:=hf.at (j:=(k:Int)) (by omega) (by omega)
 rw[aAB]at hx;simp only[Pp,hx.1,aA];refine Hs.loop (λi=>∃ m:Nat,i=(m:Int)/\m<=d.length/\∀ v∈d.take m,v≠(k:Int)) (λi=>d.length-i.toNat) ⟨0,rfl,aAD _,λv h=>by simp at h⟩ ?_
 rintro _ ⟨m,rfl,hm,hno⟩;unfold WD;rw[OZ (by omega),OZ (by omega)]
 refine .dec (λhlt2=>?_) λhge2=>.lft ?_
 ·have hlt2:m<d.length:=by omega
  have hg:d[m]? =some d[m]:=aAA _;have htk:d.take (m+1)=d.take m++[d[m]]:=by simp_all
  have hdm:=aAF hlt2;generalize d[m]=x at hg htk hdm;refine .chk (by omega) ?_
  rw[aAB,hg,aA];refine .beq (λhe=>?_) λhe=>.cnt ⟨⟨m+1,rfl,hlt2,λv hv=>?_⟩,by grind⟩
  ·subst he;obtain⟨j,_,e,hdk⟩:=(hd _).1 hdm;have e:j=k:=by omega
   subst e;refine .lft (.cnt ⟨⟨j+1,rfl,hlt,hkl,λi hi=>?_,λi h1 h2=>hk2 i (by omega) h2⟩,by grind⟩)
   grind
  grind
 ·have hmm:m=d.length:=by omega
  subst hmm;rw[aAQ]at hno;have hnd:¬ TN f l.Out k:=λh=>hno k ((hd _).2 ⟨k,hlt,rfl,h⟩) rfl
  have hgk:keep[k]? =some (Po keep k):=by grind [Po]
  have fin:∀ q:Bool,(q=true↔¬ ((OU f k).Op=17/\Pc to (OU f k).A=Pc to (OU f k).B))->Rnd (λs:List Bool×Int=>∃ k:Nat,s.2=(k:Int)/\k<=f.Code.length/\s.1.length=f.Code.length/\(∀ j:Nat,j<k->(Po s.1 j=true↔¬ TN f l.Out j/\¬ ((OU f j).Op=17/\Pc to (OU f j).A=Pc to (OU f j).B)))/\∀ j:Nat,k<=j->j<f.Code.length->Po s.1 j=false) (λs=>f.Code.length-s.2.toNat) (keep,(k:Int)) (λkeep:List Bool=>keep.length=f.Code.length/\∀ k:Nat,k<f.Code.length->(Po keep k=true↔¬ TN f l.Out k/\¬ ((OU f k).Op=17/\Pc to (OU f k).A=Pc to (OU f k).B))) (.inl (keep.set k q,((k+1:Nat):Int))):=by
   intro q hq;have at_:∀ i:Nat,Po (keep.set k q) i=if i=k then q else Po keep i:=λi=>by
    unfold Po
    grind
   refine⟨⟨k+1,rfl,hlt,by simp[hkl],λi hi=>?_,λi h1 h2=>?_⟩,by grind⟩
   ·show Po (keep.set k q) i=true↔_;rw[at_]
    grind
   grind
  refine .bne (λh17=>.chk (by omega) ?_) λh17=>?_
  ·rw[aAB,hgk,aA];exact .cnt (fin true ⟨λ_ h=>h17 h.1,λ_=>rfl⟩)
  ·obtain⟨a0,a1,b0,b1,_⟩:=hml _ hx.2 h17;rw[QB _ a0,Qn a0 (by omega),aA,QB _ b0,Qn b0 (by omega),aA]
   refine .chk (by omega) ?_
   rw[aAB,hgk,aA];exact .cnt (fin _ ⟨λh h'=>by simp_all,λh=>by simp_all⟩)
theorem Akg {n:Nat} {a b:List Bool} {p:Nat->Prop} (ha:a.length=n/\∀ k:Nat,k<n->(Po a k=true↔p k)) (hb:b.length=n/\∀ k:Nat,k<n->(Po b k=true↔p k)):a=b:=by
 refine aAc λk=>?_
 by_cases hk:k<n
 ·have e1:a[k]? =some (Po a k):=by grind [Po]
  have e2:b[k]? =some (Po b k):=by grind [Po]
  grind
 simp_all
theorem AqQ (hf:Ps f) {l:Ph} (hl:QA f l.Out) (hml:AbK f) (htl:to.length=f.Slots.length):∃ keep,WV f l to=some keep/\AeP f l to=some keep:=by
 obtain⟨a,h1,h2⟩:=ArQ hf hl hml htl;obtain⟨b,k1,k2⟩:=AlR hf hl hml htl;exact⟨a,h1,by rw[k1,Akg k2 h2]⟩
def alS (f:Lo) (t:Int):Int:=((f.Slots[t.toNat]?).map Pa.Align).getD 0
def AaP (f:Lo) (l:List Int) (a0 a:Int):Prop:=a0<=a/\(∀ t∈l,alS f t<=a)/\(a=a0\/∃ t∈l,a=alS f t)
theorem AaP.unique {l l':List Int} {a0 a b:Int} (h:AaP f l a0 a) (k:AaP f l' a0 b) (e:∀ t,t∈l↔t∈l'):a=b:=by
 obtain⟨h1,h2,h3⟩:=h;obtain⟨k1,k2,k3⟩:=k
 grind
theorem AaP.nil (f:Lo) (a:Int):AaP f [] a a:=⟨Int.le_refl _,λt h=>(by cases h),.inl rfl⟩
theorem AaP.snoc {l:List Int} {a0 a:Int} (h:AaP f l a0 a) (t:Int):AaP f (l++[t]) a0 (max a (alS f t)):=by
 obtain⟨h1,h2,h3⟩:=h;refine⟨by omega,λu hu=>?_,?_⟩
 all_goals grind
def ArF (to:List Int) (s:Int) (l:List Int):Prop:=∀ t,t∈l↔∃ j:Nat,j<to.length/\t=(j:Int)/\Pc to j=s
def Anh (f:Lo) (r:Pj) (used:List Int):Prop:=TC used λv=>∃ k:Nat,k<f.Code.length/\Po r.Keep k=true/\v∈PO (rnI r.To (OU f k))
structure XR (f:Lo) (r:Pj) (used:List Int) (out:List Pa):Prop where
 len:out.length=used.length
 at_:∀ (i:Nat) (u:Int) (y:Pa),used[i]? =some u->out[i]? =some y->∃ x l,f.Slots[u.toNat]? =some x/\y.Size=x.Size/\ArF r.To u l/\AaP f l x.Align y.Align
theorem XR.unique {a b:List Pa} (h:XR f r used a) (k:XR f r used b):a=b:=by
 refine aAc λi=>?_
 by_cases hi:i<used.length
 ·have e1:a[i]? =some (a[i]'(by have:=h.len;omega)):=aAA _
  have e2:b[i]? =some (b[i]'(by have:=k.len;omega)):=aAA _
  have hu:used[i]? =some used[i]:=aAA _;obtain⟨x,l,x1,x2,x3,x4⟩:=h.at_ i _ _ hu e1;obtain⟨x',l',y1,y2,y3,y4⟩:=k.at_ i _ _ hu e2;rw[x1]at y1;cases y1;rw[e1,e2];have ea:=x4.unique y4 λt=>(x3 t).trans (y3 t).symm
  congr 1;generalize a[i]'_=p at *;generalize b[i]'_=q at *;cases p;cases q;simp_all
 ·rw[aAL (by have:=h.len;omega),aAL (by have:=k.len;omega)]
def AmW (r:Pj) (used to:List Int):Prop:=to.length=r.To.length/\∀ (s:Nat) x,to[s]? =some x->Pc r.To s∈used->0<=x/\used[x.toNat]? =some (Pc r.To s)
def AgM (r:Pj) (pl:List Int):Prop:=pl.length=r.Keep.length/\∀ j:Nat,j<r.Keep.length->pl[j]? =some (kept r.Keep j:Int)
theorem AgM.unique {a b:List Int} (h:AgM r a) (k:AgM r b):a=b:=by
 refine aAc λj=>?_
 by_cases hj:j<r.Keep.length
 ·rw[h.2 j hj,k.2 j hj]
 ·rw[aAL (by have:=h.1;omega),aAL (by have:=k.1;omega)]
theorem Arl {to':List Int} (h:∀ s∈PO x,rnS to s=rnS to' s):rnI to x=rnI to' x:=by
 simp_all[rnI,PO,PT]
theorem PQ.inj {l:List Int} (h:PQ l) {j:Nat} (hi:l[i]? =some v) (hj:l[j]? =some v):i=j:=by
 obtain⟨a1,a2⟩:=aAC.1 hi;obtain⟨b1,b2⟩:=aAC.1 hj;have hp:=aAq.1 h.1
 grind
theorem AgX {α β:Type} {f g:α->Option β}:∀ {l:List α},(∀ x∈l,f x=g x)->l.filterMap f=l.filterMap g
 | [],_=>rfl
 | a::l,h=>by
  have h0:=h a (aAM ..);have h1:=AgX (l:=l) λx hx=>h x (aAI _ hx)
  grind
theorem Aqg (hf:Ps f) (hd:RU f) (hr:We f r) {to' pl:List Int} (hs:PQ used) (hu:∀ k:Nat,k<f.Code.length->Po r.Keep k=true->∀ v∈PO (rnI r.To (OU f k)),v∈used) (h:AmW r used to) (h':AmW r used to') :
  TB f r.Keep to pl f.Code.length=TB f r.Keep to' pl f.Code.length:=by
 have hrl:=hr.1.1;unfold TB;refine AgX λj hj=>?_
 have hj:=List.mem_range.1 hj
 by_cases hk:Po r.Keep j=true
 ·have hxm:=(hf.at (j:=(j:Int)) (by omega) (by omega)).2
  rw[Arl λs hs'=>?_]
  obtain⟨h0,h1⟩:=Ajd hf hd hxm hs';have hm:=hu j hj hk (rnS r.To s) ((Afz _ _ _).2 ⟨s,hs',rfl⟩);rw[(hr.1.rng h0 h1).2.2]at hm;have one:∀ {t:List Int},AmW r used t->rnS t s=Pc t s/\0<=Pc t s/\used[(Pc t s).toNat]? =some (Pc r.To s):=fun{t} ht=>by
   have htl:=ht.1;have hg:=Qn (to:=t) (s:=s) h0 (by omega)
   have:=ht.2 s.toNat _ hg;rw[aAZ h0]at this;simp_all[rnS]
  obtain⟨a1,a2,a3⟩:=one h;obtain⟨b1,b2,b3⟩:=one h';have:=hs.inj a3 b3;omega
 simp_all
def Afd (f:Lo) (r:Pj) (q:Lo×Int):Prop:=q.2=0/\q.1.Params=f.Params/\∃ used to pl:List Int,Anh f r used/\XR f r used q.1.Slots/\AmW r used to/\AgM r pl/\q.1.Code=TB f r.Keep to pl f.Code.length
theorem Afd.unique (hf:Ps f) (hd:RU f) (hr:We f r) {q q':Lo×Int} (h:Afd f r q) (k:Afd f r q'):q=q':=by
 obtain⟨h1,h2,used,to,pl,h3,h4,h5,h6,h7⟩:=h;obtain⟨k1,k2,used',to',pl',k3,k4,k5,k6,k7⟩:=k;have e1:used=used':=TC.eq h3 k3 λv _ _=>Iff.rfl
 subst e1;have e2:=h6.unique k6;subst e2;have hm:∀ k:Nat,k<f.Code.length->Po r.Keep k=true->∀ v∈PO (rnI r.To (OU f k)),v∈used:=λj hj hk v hv=>by
  have hsl:=hf.slots;have hxm:=(hf.at (j:=(j:Int)) (by omega) (by omega)).2
  have:=Aec hf hd hr.1 hxm v hv;exact(h3.2 v).2 ⟨⟨this.1,by omega⟩,j,hj,hk,hv⟩
 rw[Aqg hf hd hr h3.1 hm h5 k5]at h7;obtain⟨⟨p,s,c⟩,e⟩:=q;obtain⟨⟨p',s',c'⟩,e'⟩:=q';simp only at *;rw[h1,k1,h2,k2,h7,k7,h4.unique k4]
section
variable {f:Lo}
theorem Aqs (hsl:f.Slots.length<=500) {x:Pa} {out:List Pa} (hi:i<=1000) {l:List Int} (hll:l.length<=1000) (ho:out.length=i) (hl:∀ t∈l,0<=t/\t<f.Slots.length) {Q:Lo×Int->Prop} (hI:∀ y:Pa,y.Size=x.Size->AaP f l x.Align y.Align->Rnd I μ s0 Q (.inl (out++[y],((i+1:Nat):Int)))):Hs (Pe (λs=>UU l f out x (i:Int) s.1 s.2) (x.Align,0)) (Rnd I μ s0 Q):=by
 refine Hs.loop (λs=>∃ k:Nat,s.2=(k:Int)/\k<=l.length/\AaP f (l.take k) x.Align s.1) (λs=>l.length-s.2.toNat) ⟨0,rfl,aAD _,by grind [AaP.nil]⟩ ?_
 rintro⟨a,_⟩ ⟨k,rfl,hk,hm⟩;refine .dec (λhlt=>?_) λhge=>.lft (.chk (by simp;omega) (.chk (by simp;omega) ?_))
 ·have hlt:k<l.length:=by omega
  have hg:l[k]? =some l[k]:=aAA _;have htk:l.take (k+1)=l.take k++[l[k]]:=by simp_all
  have ht:=hl _ (aAF hlt);generalize l[k]=t at hg htk ht;refine .chk (by omega) ?_
  rw[aAB,hg,aA];refine(Hs.ix (P:=λy=>alS f t=y.Align) ht.1 ht.2 λy hy=>by grind [alS]).bind λy hy=>?_
  rw[OZ (by omega),Un,<- hy]
  refine .cnt ⟨⟨k+1,rfl,hlt,?_⟩,by grind⟩
  rw[htk];exact hm.snoc t
 ·have hkk:k=l.length:=by omega
  subst hkk;rw[aAQ]at hm;unfold Xo;rw[OZ (by omega)]
  exact .cnt (hI _ rfl hm)
theorem XR.snoc {out:List Pa} (ho:out.length=i) (hi:i<=used.length) (h:XR f r (used.take i) out) (hu:used[i]? =some u) {x y:Pa} {l:List Int} (hx:f.Slots[u.toNat]? =some x) (h1:y.Size=x.Size) (hl:ArF r.To u l) (h2:AaP f l x.Align y.Align):XR f r (used.take (i+1)) (out++[y]):=by
 have hlt:=(aAC.1 hu).1;refine⟨by grind,λj v z hv hz=>?_⟩
 by_cases e:j<i
 ·rw[aAY (by omega)]at hz
  refine h.at_ j v z ?_ hz
  grind
 grind
theorem Aug (hf:Ps f) (hd:RU f) (hr:We f r):Hs (ZH f r) λl=>Anh f r l/\PE f.Slots.length l:=by
 have hlen:=hf.len';have hsl:=hf.slots;have hkl:=hr.2.1;refine Hs.loop (λs=>∃ k:Nat,s.2=(k:Int)/\k<=f.Code.length/\PE f.Slots.length s.1/\∀ v,v∈s.1↔∃ j:Nat,j<k/\Po r.Keep j=true/\v∈PO (rnI r.To (OU f j))) (λs=>f.Code.length-s.2.toNat) ⟨0,rfl,aAD _,PE.nil _,λv=>⟨λh=>(by cases h),λ⟨j,hj,_⟩=>absurd hj (aAG _)⟩⟩ ?_
 rintro⟨l,_⟩ ⟨k,rfl,hk,hs,hj⟩;replace hs:PE f.Slots.length l:=hs;have split:∀ v,(∃ j:Nat,j<k+1/\Po r.Keep j=true/\v∈PO (rnI r.To (OU f j)))↔v∈l\/(Po r.Keep k=true/\v∈PO (rnI r.To (OU f k))):=λv=>by
  grind
 refine .dec (λhlt=>.dec (λ_=>?_) λh=>?_) λhge=>.lft (.pure ⟨⟨hs.1,λv=>?_⟩,hs⟩)
 ·have hlt:k<f.Code.length:=by omega
  have hx:=hf.at (j:=(k:Int)) (by omega) (by omega)
  rw[aAB]at hx;have hg:r.Keep[k]? =some (Po r.Keep k):=by grind [Po]
  have hnr:=Aec hf hd hr.1 hx.2;unfold XZ;simp only[Pp,hg,hx.1,aA,Aok,Anr,AjF,OZ (show k<9223372036854775807 by omega)]
  refine .cond (λh=>.cnt ⟨⟨k+1,rfl,hlt,hs,λv=>?_⟩,by grind⟩) λh=>?_
  ·simp_all
  ·have hkt:Po r.Keep k=true:=by simp_all
   obtain⟨y,hy⟩:∃ y,y=rnI r.To (OU f k):=⟨_,rfl⟩;rw[<- hy]at hnr ⊢;have hul:(PT y).length<=1:=by grind [PT]
   have hll:=hs.1.length_le;rw[union_eq _ _ (by omega),aA]
   obtain⟨u1,u2⟩:=UK (n:=f.Slots.length) (by omega) (b:=PT y) (a:=l) hs (λx hx=>hnr x (by grind [PO]))
   by_cases hdy:y.Op=16\/y.Op=17
   ·simp only[Agv,if_pos hdy,cond_true];have hA:=hnr y.A (by simp_all[PO])
    obtain⟨a1,a2⟩:=PE.add (n:=f.Slots.length) u1 hA (by omega)
    have a3:=(PE.Ank u1 hA (by omega)).2.2
    rw[a2,aA];refine .cnt ⟨⟨k+1,rfl,hlt,a1,λv=>?_⟩,by grind⟩
    show v∈Uz y.A (Rb l (PT y))↔_;rw[split v,a3,u2,<- hy];unfold PO
    grind
   ·simp only[Agv,if_neg hdy,cond_false];refine .cnt ⟨⟨k+1,rfl,hlt,u1,λv=>?_⟩,by grind⟩
    simp_all[PO]
 ·omega
 ·have hkk:k=f.Code.length:=by omega
  subst hkk;constructor
  ·intro h;have:=hs.2 v h;exact⟨⟨(hs.1.2 v h).1,by omega⟩,(hj v).1 h⟩
  simp_all
theorem Asq (hf:Ps f) (hd:RU f) (hr:We f r):Hs (Ri f r) (Afd f r):=by
 have hlen:=hf.len';have hsl:=hf.slots;have hkl:=hr.2.1;have htl:=hr.1.1;refine(Akh hf r).bind λe he=>.bne (λh=>(h (he.2.2 hr)).elim) λ_=>?_
 refine(Aug hf hd hr).bind λused ⟨hu0,hu1⟩=>?_
 have hul:=hu1.1.length_le;refine Hs.loop (λs=>∃ i:Nat,s.2=(i:Int)/\i<=used.length/\s.1.length=i/\XR f r (used.take i) s.1) (λs=>used.length-s.2.toNat) ⟨0,rfl,aAD _,rfl,rfl,λj u y hj=>by simp at hj⟩ ?_
 rintro⟨out,_⟩ ⟨i,rfl,hi,ho,hsa⟩;refine .dec (λhlt=>?_) λhge=>.lft ?_
 ·have hlt:i<used.length:=by omega
  have hgx:used[i]? =some used[i]:=aAA _;have hxm:=aAF hlt;generalize used[i]=u at hgx hxm;have h0:=(hu1.1.2 u hxm).1;have h1:=hu1.2 u hxm;refine .chk (by omega) ?_
  simp only[aAB,hgx,aA];refine(Hs.ix (P:=λx=>f.Slots[u.toNat]? =some x) h0 h1 λx hx=>hx).bind λx hfx=>.chk (by omega) ?_
  refine(AeX (by omega) u).bind λl hm=>?_
  refine Aqs hsl (by omega) (l:=l) (by omega) ho (λt ht=>?_) λy hy1 hy2=>⟨⟨i+1,rfl,hlt,by simp[ho],hsa.snoc ho (by omega) hgx hfx hy1 hm.2 hy2⟩,by grind⟩
  grind
 have hii:i=used.length:=by omega
 subst hii;rw[aAQ]at hsa;refine(Alw (by omega) hul).bind λto ⟨n1,n2⟩=>(Amz r (by omega)).bind λpl ⟨p1,p2⟩=>?_
 refine(Anj hf hkl to pl p1 out).mono λq hq=>?_
 subst hq;exact⟨rfl,rfl,used,to,pl,hu0,hsa,⟨n1,λs x hs hm=>⟨(n2 s x hs).1,(n2 s x hs).2 hm⟩⟩,⟨p1,p2⟩,rfl⟩
end
open Go Go.Dw Go.Proofs
theorem AsA (f:Lo) (to:List Int) (hsl:f.Slots.length<=500):Hs (WS f to) λb=>b=true↔Afg f to:=by
 unfold WS;refine .bne (λh=>.pure ⟨λh'=>(by cases h'),λh'=>(h (by rw[h'.1])).elim⟩) λh=>?_
 have hl:to.length=f.Slots.length:=by omega
 refine Hs.loop (λi=>∃ k:Nat,i=(k:Int)/\k<=to.length/\∀ s:Nat,s<k->0<=Pc to s/\Pc to s<to.length/\RO f (Pc to s)=RO f s/\Pc to (Pc to s)=Pc to s) (λi=>to.length-i.toNat) ⟨0,rfl,aAD _,λs hs=>absurd hs (aAG _)⟩ ?_
 rintro _ ⟨k,rfl,hk,hall⟩;unfold WB;refine .dec (λhlt=>?_) λhge=>.lft (.pure ⟨λ_=>⟨hl,λs hs=>hall s (by omega)⟩,λ_=>rfl⟩)
 have hlt:k<to.length:=by omega
 have hg:to[k]? =some (Pc to k):=by have:=Qn (to:=to) (s:=k) (by omega) (by omega);simpa using this
 rw[Pp,hg,aA];have no:∀ {p:Prop},¬ p->(Afg f to->p)->Hs (lft (some false):Option (Int⊕Bool)) (Rnd (λi=>∃ k:Nat,i=(k:Int)/\k<=to.length/\∀ s:Nat,s<k->0<=Pc to s/\Pc to s<to.length/\RO f (Pc to s)=RO f s/\Pc to (Pc to s)=Pc to s) (λi=>to.length-i.toNat) (k:Int) λb=>b=true↔Afg f to) :=
  λhp hq=>.lft (.pure ⟨λh=>(by cases h),λh=>(hp (hq h)).elim⟩)
 refine .dec (λh0=>no (p:=0<=Pc to k) (by omega) λh=>(h.2 k hlt).1) λh0=>?_
 refine .dec (λh1=>no (p:=Pc to k<to.length) (by omega) λh=>(h.2 k hlt).2.1) λh1=>?_
 refine Hs.bind (Hs.ix (i:=Pc to k) (P:=λx=>x.Size=RO f (Pc to k)) (by omega) (by omega) λx hx=>AeR hx) λa ha=>?_
 refine Hs.bind (Hs.ix (i:=(k:Int)) (P:=λx=>x.Size=RO f k) (by omega) (by omega) λx hx=>AeR hx) λb hb=>?_
 rw[ha,hb];refine .bne (λh2=>no h2 λh=>(h.2 k hlt).2.2.1) λh2=>?_
 rw[QB _ (by omega),Qn (by omega) (by omega),aA]
 refine .bne (λh3=>no h3 λh=>(h.2 k hlt).2.2.2) λh3=>?_
 rw[OZ (by omega)]
 refine .cnt ⟨⟨k+1,rfl,hlt,λs hs=>?_⟩,by simp only;omega⟩
 by_cases e:s=k
 ·subst e;exact⟨by omega,by omega,h2,h3⟩
 ·exact hall s (by omega)
theorem Aqm (hf:Ps f) (r:Pj):Hs (Yc f r) λe=>(e=0\/e=12)/\(e=0↔We f r):=by
 have hlen:=hf.len';unfold Yc;refine(AsA f r.To hf.slots).bind λb hb=>.cond (λh=>.pure ⟨.inr rfl,λh=>by omega,λh'=>?_⟩) λh=>?_
 ·rw[hb.2 h'.1]at h;cases h
 have hv:Afg f r.To:=hb.1 (by simpa using h)
 refine .bne (λh=>.pure ⟨.inr rfl,λh=>by omega,λh'=>(h (by rw[h'.2.1])).elim⟩) λh=>?_
 have hkl:r.Keep.length=f.Code.length:=by omega
 unfold XQ;refine Hs.loop (λi=>∃ k:Nat,i=(k:Int)/\k<=f.Code.length/\∀ j:Nat,j<k->Po r.Keep j=false->(OU f j).Op=16\/(OU f j).Op=17) (λi=>f.Code.length-i.toNat) ⟨0,rfl,aAD _,λs hs=>absurd hs (aAG _)⟩ ?_
 rintro _ ⟨k,rfl,hk,hall⟩;unfold XP;refine .dec (λhlt=>?_) λhge=>.lft (.pure ⟨.inl rfl,λ_=>⟨hv,hkl,λj hj=>hall j (by omega)⟩,λ_=>rfl⟩)
 have hlt:k<f.Code.length:=by omega
 have hx:=hf.at (j:=(k:Int)) (by omega) (by omega)
 rw[aAB]at hx;have hg:r.Keep[k]? =some (Po r.Keep k):=by simp[Po,show k<r.Keep.length by omega]
 have stp:(Po r.Keep k=false->(OU f k).Op=16\/(OU f k).Op=17)->∀ j:Nat,j<k+1->Po r.Keep j=false->(OU f j).Op=16\/(OU f j).Op=17:=by
  intro h j hj
  by_cases e:j=k
  ·subst e;exact h
  ·exact hall j (by omega)
 simp only[Pp,hx.1,hg,aA];rw[OZ (by omega)]
 refine .cond (λh=>?_) λh=>.cnt ⟨⟨k+1,rfl,hlt,stp λh'=>by rw[h']at h;cases h⟩,by simp only;omega⟩
 have hkf:Po r.Keep k=false:=by simpa using h
 unfold XE;rw[AeV,aA,aA]
 by_cases hd:(OU f k).Op=16\/(OU f k).Op=17
 ·rw[if_pos hd];exact .cnt ⟨⟨k+1,rfl,hlt,stp λ_=>hd⟩,by simp only;omega⟩
 ·rw[if_neg hd];exact .lft (.pure ⟨.inr rfl,λh=>by omega,λh=>(hd (h.2.2 k hlt hkf)).elim⟩)
attribute [local simp] PK aAH
def Aer (v:Int):Nat->List Int->Int
 | _,[]=>-1
 | a,x::r=>if v=x then a else Aer v (a+1) r
theorem Akd (v:Int):∀ (a:Nat) (s:List Int),0<=Aer v a s↔v∈s
 | a,[]=>by simp[Aer]
 | a,x::r=>by
  simp only[Aer];split
  ·rename_i h;simp[h]
  ·rename_i h;rw[Akd v (a+1) r];simp[h]
theorem AnV (s:List Int) (v:Int) (hs:s.length<=9223372036854775807):So s v=some (Aer v 0 s):=by
 unfold So;refine QT s (λ(_:Nat) i=>i) (λa i=>a=i) (λa l=>some (Aer v a l)) (λ_ _=>⟨-1,by simp[Rt],by simp[Aer]⟩) (λa i x r ha hd hi hx=>?_) 0 rfl
 subst ha;have w:=OZ (show a<9223372036854775807 by omega)
 obtain⟨_,rfl⟩:=aAC.1 hx
 by_cases h:v=s[a]
 ·exact .inr ⟨a,by simp[Rt,hi,h],by simp[Aer,h]⟩
 ·exact .inl ⟨a+1,rfl,by simp[Rt,hi,h,w],by simp[Aer,h]⟩
theorem AnU (v:Int):∀ (a:Nat) (s:List Int),v∈s->∃ i:Nat,Aer v a s=((a+i:Nat):Int)/\s[i]? =some v
 | a,[],h=>by cases h
 | a,x::r,h=>by
  simp only[Aer]
  by_cases e:v=x
  ·rw[if_pos e];exact⟨0,rfl,by rw[e];rfl⟩
  ·rw[if_neg e];obtain⟨i,h1,h2⟩:=AnU v (a+1) r ((aAK.1 h).resolve_left e);exact⟨i+1,by rw[h1];congr 1;omega,by rw[List.getElem?_cons_succ];exact h2⟩
theorem Ats (to:List Int) (s:Int):Rc s to=some (rnS to s):=by
 unfold Rc rnS
 by_cases h0:s<0
 ·grind
 ·rw[decide_eq_false h0,cond_false]
  by_cases h1:s>=(to.length:Int)
  ·grind
  ·rw[decide_eq_false h1,cond_false,if_pos (by omega),QB _ (by omega),Qn (by omega) (by omega)]
   rfl
theorem Atr (x:OX) (to:List Int):WX x to=some (rnI to x):=by
 unfold WX rnI;simp only[Ats,aA]
 grind
def Vm (f:Lo) (keep:List Bool) (to:List Int) (k:Nat):List OX:=(aAh k).filterMap λj=>if Po keep j=true then some (rnI to (OU f (j:Nat)))else none
theorem Aqc (f:Lo) (keep:List Bool) (to:List Int) (k:Nat):Vm f keep to (k+1)=Vm f keep to k++(if Po keep k=true then[rnI to (OU f (k:Nat))]else[]):=by
 grind [Vm,aAd]
theorem AiZ (f:Lo) (keep:List Bool) (to:List Int) (k:Nat):(Vm f keep to k).length<=k:=by
 grind [Vm]
theorem AqX (f:Lo) (keep:List Bool) (to pl:List Int) (k:Nat):TB f keep to pl k=(Vm f keep to k).map (mvI pl):=by
 unfold TB Vm;rw[List.map_filterMap];simp_all
section
variable {f:Lo}
theorem AnI (hf:Ps f) (hkl:r.Keep.length=f.Code.length) (to:List Int):Xq f r to=some (Vm f r.Keep to f.Code.length):=by
 have hlen:=hf.len';have key:Hs (Xq f r to) λl=>l=Vm f r.Keep to f.Code.length:=by
  refine Hs.loop (λs=>∃ k:Nat,s.2=(k:Int)/\k<=f.Code.length/\s.1=Vm f r.Keep to k) (λs=>f.Code.length-s.2.toNat) ⟨0,rfl,aAD _,rfl⟩ ?_
  rintro⟨_,_⟩ ⟨k,rfl,hk,rfl⟩;refine .dec (λhlt=>?_) λhge=>.lft (.pure ?_)
  ·have hlt:k<f.Code.length:=by omega
   have hx:=hf.at (j:=(k:Int)) (by omega) (by omega)
   rw[aAB]at hx;have hg:r.Keep[k]? =some (Po r.Keep k):=by grind [Po]
   have hs:=Aqc f r.Keep to k;have hl:=AiZ f r.Keep to k;simp only[Pp,hx.1,aA];refine .dec (λ_=>?_) λh=>by omega
   rw[hg,aA];unfold Wa;rw[Atr,OZ (by omega)]
   refine .cond (λh=>?_) λh=>?_
   ·rw[if_pos h]at hs;exact .chk (by simp;omega) (.cnt ⟨⟨k+1,rfl,hlt,hs.symm⟩,by grind⟩)
   ·rw[if_neg (by simp_all),aAt]at hs
    exact .cnt ⟨⟨k+1,rfl,hlt,hs.symm⟩,by grind⟩
  ·have hkk:k=f.Code.length:=by omega
   subst hkk;rfl
 obtain⟨l,h,rfl⟩:=key;exact h
theorem AkI {keep:List Bool}:x∈Vm f keep to k↔∃ j:Nat,j<k/\Po keep j=true/\x=rnI to (OU f j):=by
 unfold Vm
 grind
theorem Att (hf:Ps f) (hd:RU f) (hr:We f r):Hs (Zj f r) λl=>Anh f r l/\PE f.Slots.length l:=by
 have hlen:=hf.len';have hkl:=hr.2.1;unfold Zj;rw[AnI hf hkl,aA];have hK:=AiZ f r.Keep r.To f.Code.length;have hin:∀ x∈Vm f r.Keep r.To f.Code.length,∀ v∈PO x,0<=v/\v<f.Slots.length:=λx hx v hv=>by
  obtain⟨j,hj,_,rfl⟩:=AkI.1 hx;exact Aec hf hd hr.1 (hf.at (j:=(j:Int)) (by omega) (by omega)).2 v hv
 generalize hKe:Vm f r.Keep r.To f.Code.length=K at hK hin;have nm:∀ x:OX,(PO x).length<=2:=λx=>by
  grind [PO,PT]
 refine Hs.loop (λs=>∃ k:Nat,s.2=(k:Int)/\k<=K.length/\s.1.length<=2*k/\s.1=(K.take k).flatMap PO) (λs=>K.length-s.2.toNat) ⟨0,rfl,aAD _,aAT _,by simp⟩ ?_
 rintro⟨l,_⟩ ⟨k,rfl,hk,hll,hl⟩;replace hll:l.length<=2*k:=hll;replace hl:l=(K.take k).flatMap PO:=hl;refine .dec (λhlt=>?_) λhge=>.lft ?_
 ·have hlt:k<K.length:=by omega
  have hg:K[k]? =some K[k]:=aAA _;have htk:K.take (k+1)=K.take k++[K[k]]:=by simp_all
  generalize K[k]=x at hg htk;have hu:=Aps x;have hn:=nm x;have step:(K.take (k+1)).flatMap PO=l++PO x:=by simp_all
  refine .chk (by omega) ?_
  simp only[aAB,hg,aA,AnJ,AeV,OZ (show k<9223372036854775807 by omega)]
  refine .chk (by omega) ?_
  by_cases hdy:x.Op=16\/x.Op=17
  ·rw[if_pos hdy];simp only[cond_true];have e:PO x=PT x++[x.A]:=by simp_all[PO]
   rw[e]at step hn;refine .chk (by simp;omega) (.cnt ⟨⟨k+1,rfl,hlt,?_,?_⟩,by grind⟩)
   all_goals grind
  ·rw[if_neg hdy];have e:PO x=PT x:=by simp_all[PO]
   rw[e]at step;refine .cnt ⟨⟨k+1,rfl,hlt,?_,step.symm⟩,by grind⟩
   simp;omega
 ·have hkk:k=K.length:=by omega
  subst hkk;rw[aAQ]at hl;refine(Ant l (by omega)).bind λq hq=>.pure ?_
  have hm:∀ v,v∈l↔∃ j:Nat,j<f.Code.length/\Po r.Keep j=true/\v∈PO (rnI r.To (OU f j)):=λv=>by
   rw[hl,List.mem_flatMap,<- hKe]
   grind [AkI]
  refine⟨hq.mono λv _ _=>hm v,hq.1,λv hv=>?_⟩
  have:=((hq.2 v).1 hv).2
  grind
theorem Asl (hl:to.length<=500) (s:Int):Hs (Xz to s) λl=>l.length<=to.length/\ArF to s l:=by
 refine Hs.loop (λz=>∃ k:Nat,z.2=(k:Int)/\k<=to.length/\z.1.length<=k/\∀ t,t∈z.1↔∃ j:Nat,j<k/\t=(j:Int)/\Pc to j=s) (λz=>to.length-z.2.toNat) ⟨0,rfl,aAD _,aAT _,λt=>⟨λh=>(by cases h),λ⟨j,h,_⟩=>absurd h (aAG _)⟩⟩ ?_
 rintro⟨l,_⟩ ⟨k,rfl,hk,hll,hm⟩;replace hll:l.length<=k:=hll;refine .dec (λhlt=>?_) λhge=>.lft (.pure ?_)
 ·have hlt:k<to.length:=by omega
  have hg:=Qn (to:=to) (s:=(k:Int)) (by omega) (by omega)
  rw[aAB]at hg;simp only[Pp,hg,aA];rw[OZ (by omega)]
  refine .beq (λh=>.chk (by simp;omega) (.cnt ⟨⟨k+1,rfl,hlt,by simp;omega,λt=>?_⟩,by grind⟩)) λh=>.cnt ⟨⟨k+1,rfl,hlt,by grind,λt=>?_⟩,by grind⟩
  all_goals grind
 ·have hk:k=to.length:=by omega
  subst hk;exact⟨hll,hm⟩
theorem Ara (r:Pj) (hl:r.Keep.length<=1000000):Hs (ZI r) (AgM r):=by
 refine Hs.loop (λs=>∃ k:Nat,s.2.1=(k:Int)/\k<=r.Keep.length/\s.2.2=(kept r.Keep k:Int)/\s.1.length=k/\∀ j:Nat,j<k->s.1[j]? =some (kept r.Keep j:Int)) (λs=>r.Keep.length-s.2.1.toNat) ⟨0,rfl,aAD _,rfl,rfl,λj hj=>absurd hj (aAG _)⟩ ?_
 rintro⟨l,_,n⟩ ⟨k,rfl,hk,hn,hll,hj⟩;subst hn;replace hll:l.length=k:=hll;refine .dec (λhlt=>?_) λhge=>.lft (.pure ?_)
 ·have hlt:k<r.Keep.length:=by simp_all
  have hg:r.Keep[k]? =some r.Keep[k]:=aAA _;generalize r.Keep[k]=b at hg;have hkl:=AjE r.Keep k;have hks:=YZ hg;have hap:∀ j:Nat,j<k+1->(l++[(kept r.Keep k:Int)])[j]? =some (kept r.Keep j:Int):=by
   grind
  simp only[Pp,hg,aA];refine .chk (by simp;omega) ?_
  rw[OZ (show k<9223372036854775807 by omega),OZ (show kept r.Keep k<9223372036854775807 by omega)]
  refine .cond (λh=>?_) λh=>?_
  ·subst h;exact .cnt ⟨⟨k+1,rfl,hlt,by simp_all,by simp[hll],hap⟩,by grind⟩
  ·subst h;exact .cnt ⟨⟨k+1,rfl,hlt,by simp_all,by simp[hll],hap⟩,by grind⟩
 ·have hkk:k=r.Keep.length:=by grind
  subst hkk;exact⟨hll,hj⟩
theorem Asj (hf:Ps f) (hkl:r.Keep.length=f.Code.length) (to pl:List Int) (hpl:pl.length=r.Keep.length) (sl:List Pa) :
  Hs (Pe (λs=>XO (Vm f r.Keep to f.Code.length) pl f sl s.1 s.2) (Vm f r.Keep to f.Code.length,0)) λq=>q=(⟨f.Params,sl,TB f r.Keep to pl f.Code.length⟩,0):=by
 have hlen:=hf.len';have hK:=AiZ f r.Keep to f.Code.length;have hin:∀ x∈Vm f r.Keep to f.Code.length,(x.Op=20->0<=x.A/\x.A<f.Code.length)/\(x.Op=21->0<=x.B/\x.B<f.Code.length):=λx hx=>by
  grind [AkI,Aie,Aee,Aef]
 rw[AqX];generalize Vm f r.Keep to f.Code.length=K at hK hin;refine Hs.loop (λs=>∃ k:Nat,s.2=(k:Int)/\k<=K.length/\s.1=(K.take k).map (mvI pl)++K.drop k) (λs=>K.length-s.2.toNat) ⟨0,rfl,aAD _,by simp⟩ ?_
 rintro⟨_,_⟩ ⟨k,rfl,hk,rfl⟩;refine .dec (λhlt=>?_) λhge=>.lft (.pure ?_)
 ·have hlt:k<K.length:=by omega
  have hg:K[k]? =some K[k]:=aAA _;have htk:K.take (k+1)=K.take k++[K[k]]:=by simp_all
  have hdk:K.drop k=K[k]::K.drop (k+1):=aAX hlt;have hxm:=aAF hlt;generalize K[k]=x at hg htk hdk hxm;have hml:((K.take k).map (mvI pl)).length=k:=by simp;omega
  obtain⟨x1,x2⟩:=hin x hxm;have at_:((K.take k).map (mvI pl)++K.drop k)[k]? =some x:=by
   simp_all
  have fin:∀ y,y=mvI pl x->((K.take k).map (mvI pl)++K.drop k).set k y=(K.take (k+1)).map (mvI pl)++K.drop (k+1):=λy hy=>by
   simp_all
  refine .chk (by simp;omega) ?_
  simp only[aAB,at_,aA,OZ (show k<9223372036854775807 by omega)]
  refine .beq (λh=>?_) λh=>.beq (λh'=>?_) λh'=>.cnt ⟨⟨k+1,rfl,hlt,?_⟩,by simp only;omega⟩
  ·have t:=x1 h;refine .chk (by omega) ((Hs.get t.1 (by omega) λz hz=>hz).bind λz hz=>.cnt ⟨⟨k+1,rfl,hlt,fin _ ?_⟩,by simp only;omega⟩)
   simp_all[mvI]
  ·have t:=x2 h';refine .chk (by omega) ((Hs.get t.1 (by omega) λz hz=>hz).bind λz hz=>.cnt ⟨⟨k+1,rfl,hlt,fin _ ?_⟩,by simp only;omega⟩)
   simp_all[mvI]
  ·have:=fin x (by simp_all[mvI])
   grind
 ·have hkk:k=K.length:=by omega
  subst hkk;show((⟨f.Params,sl,_⟩:Lo),(0:Int))=_;simp_all
theorem Asi (hf:Ps f) (hd:RU f) (hr:We f r):Hs (Yb f r) (Afd f r):=by
 have hlen:=hf.len';have hsl:=hf.slots;have hkl:=hr.2.1;have htl:=hr.1.1;refine(Aqm hf r).bind λe he=>.bne (λh=>(h (he.2.2 hr)).elim) λ_=>?_
 refine(Att hf hd hr).bind λused ⟨hu0,hu1⟩=>?_
 have hul:=hu1.1.length_le;refine Hs.loop (λs=>∃ i:Nat,s.2=(i:Int)/\i<=used.length/\s.1.length=i/\XR f r (used.take i) s.1) (λs=>used.length-s.2.toNat) ⟨0,rfl,aAD _,rfl,rfl,λj u y hj=>by simp at hj⟩ ?_
 rintro⟨out,_⟩ ⟨i,rfl,hi,ho,hsa⟩;replace ho:out.length=i:=ho;refine .dec (λhlt=>?_) λhge=>.lft ?_
 ·have hlt:i<used.length:=by omega
  have hgx:used[i]? =some used[i]:=aAA _;have hxm:=aAF hlt;generalize used[i]=u at hgx hxm;have h0:=(hu1.1.2 u hxm).1;have h1:=hu1.2 u hxm;refine .chk (by omega) ?_
  simp only[aAB,hgx,aA];refine(Hs.ix (P:=λx=>f.Slots[u.toNat]? =some x) h0 h1 λx hx=>hx).bind λx hfx=>?_
  refine(Asl (by omega) u).bind λl ⟨hll,hm⟩=>?_
  have hl:∀ t∈l,0<=t/\t<f.Slots.length:=λt ht=>by
   obtain⟨j,q1,rfl,_⟩:=(hm t).1 ht;omega
  refine Hs.loop (λs=>∃ k:Nat,s.2=(k:Int)/\k<=l.length/\AaP f (l.take k) x.Align s.1) (λs=>l.length-s.2.toNat) ⟨0,rfl,aAD _,by grind [AaP.nil]⟩ ?_
  rintro⟨a,_⟩ ⟨k,rfl,hk,hx⟩;refine .dec (λhlt2=>?_) λhge2=>.lft (.chk (by simp;omega) ?_)
  ·have hlt2:k<l.length:=by omega
   have hg:l[k]? =some l[k]:=aAA _;have htk:l.take (k+1)=l.take k++[l[k]]:=by simp_all
   have ht:=hl _ (aAF hlt2);generalize l[k]=t at hg htk ht;refine .chk (by omega) ?_
   rw[aAB,hg,aA];refine(Hs.ix (P:=λy=>alS f t=y.Align) ht.1 ht.2 λy hy=>by grind [alS]).bind λy hy=>?_
   rw[OZ (by omega),Un,<- hy]
   refine .cnt ⟨⟨k+1,rfl,hlt2,?_⟩,by grind⟩
   rw[htk];exact hx.snoc t
  ·have hkk:k=l.length:=by omega
   subst hkk;rw[aAQ]at hx;rw[OZ (by omega)]
   exact .cnt ⟨⟨i+1,rfl,hlt,by simp[ho],hsa.snoc ho (by omega) hgx hfx rfl hm hx⟩,by grind⟩
 have hii:i=used.length:=by omega
 subst hii;rw[aAQ]at hsa;unfold AiH XS;rw[PK (by omega),aA]
 refine Hs.loop (λs=>∃ k:Nat,s.2=(k:Int)/\k<=r.To.length/\s.1.length=r.To.length/\(∀ (j:Nat) x,j<k->s.1[j]? =some x->Pc r.To j∈used->0<=x/\used[x.toNat]? =some (Pc r.To j))/\∀ j:Nat,k<=j->s.1[j]? =r.To[j]?) (λs=>r.To.length-s.2.toNat) ⟨0,rfl,aAD _,rfl,λj x hj=>absurd hj (aAG _),λj _=>rfl⟩ ?_
 rintro⟨to,_⟩ ⟨k,rfl,hk,h1,h2,h3⟩;replace h1:to.length=r.To.length:=h1;refine .dec (λhlt=>?_) λhge=>.lft ?_
 ·have hlt:k<r.To.length:=by omega
  have hg:=Qn (to:=r.To) (s:=(k:Int)) (by omega) (by omega)
  rw[aAB,<- h3 k (aAT _)]at hg;refine .chk (by simp_all) ?_
  rw[aAB,hg,aA,AnV _ _ (by omega),aA]
  refine .chk (by simp_all) ?_
  rw[aA,OZ (by omega)]
  refine .cnt ⟨⟨k+1,rfl,hlt,by simp[h1],λj x hj hx hm=>?_,λj hj=>?_⟩,by simp only;omega⟩
  ·have hx:(to.set k (Aer (Pc r.To k) 0 used))[j]? =some x:=hx
   by_cases e:j=k
   ·subst e;rw[aAN (by omega)]at hx
    cases hx;obtain⟨q,q1,q2⟩:=AnU _ 0 _ hm;simp_all
   ·rw[aAJ (λh=>e h.symm)]at hx
    exact h2 j x (by omega) hx hm
  grind
 ·have hkk:k=r.To.length:=by omega
  subst hkk;refine(Ara r (by omega)).bind λpl hp=>?_
  rw[AnI hf hkl,aA];refine(Asj hf hkl to pl hp.1 out).mono λq hq=>?_
  subst hq;exact⟨rfl,rfl,used,to,pl,hu0,hsa,⟨h1,λs x hs hm=>h2 s x (by grind) hs hm⟩,hp,rfl⟩
theorem Apy (hf:Ps f) (hd:RU f) (hr:We f r):∃ q,Yb f r=some q/\Ri f r=some q/\Afd f r q:=by
 obtain⟨q,h1,h2⟩:=Asi hf hd hr;obtain⟨q',k1,k2⟩:=Asq hf hd hr;exact⟨q,h1,by rw[k1,k2.unique hf hd hr h2],h2⟩
end
end Go.Proofs.YtilmapojncgflaaGreatDoor
namespace Go.Dw
variable {s:Nat} {y:Int}
structure RH (u to:List Int):Prop where
 len:u.length=to.length
 up:∀ (s:Nat) (x y:Int),u[s]? =some x->to[s]? =some y->0<=x/\x<=s/\0<=y/\y<=s/\to[x.toNat]? =some y/\to[y.toNat]? =some y/\(x=s↔y=s)
section
variable {u to:List Int}
theorem RH.get (h:RH u to) (hs:s<u.length):∃ x y,u[s]? =some x/\to[s]? =some y/\0<=x/\x<=s/\0<=y/\y<=s/\to[x.toNat]? =some y/\to[y.toNat]? =some y/\(x=s↔y=s):=by
 have e1:u[s]? =some (u[s]'hs):=aAA hs;have e2:to[s]? =some (to[s]'(by have:=h.len;omega)):=aAA _
 exact⟨_,_,e1,e2,h.up s _ _ e1 e2⟩
theorem RH.half (h:RH u to) {x z:Int} (h1:u[s]? =some x) (hne:x≠s) (h2:u[x.toNat]? =some z):RH (u.set s z) to:=by
 refine⟨by rw[aAu];exact h.len,λt a y ha hy=>?_⟩
 by_cases hts:t=s
 ·subst hts;have hl:t<u.length:=(aAC.1 h1).1;rw[aAN hl]at ha;cases ha;obtain⟨g1,g2,g3,g4,g5,g6,g7⟩:=h.up t x y h1 hy;obtain⟨k1,k2,k3,k4,k5,k6,k7⟩:=h.up x.toNat z y h2 g5;refine⟨k1,by omega,g3,g4,k5,g6,⟨λe=>by omega,λe=>?_⟩⟩
  exact absurd (g7.2 e) hne
 ·rw[aAJ (Ne.symm hts)]at ha;exact h.up t a y ha hy
def VQ (to:List Int) (a b:Int):List Int:=to.map λy=>if y=a\/y=b then min a b else y
theorem AdZ {a b:Int} (h:to[s]? =some y):(VQ to a b)[s]? =some (if y=a\/y=b then min a b else y):=by
 unfold VQ;rw[aAp,h];rfl
theorem ArY {a b:Int} (h:(VQ to a b)[s]? =some y):∃ z,to[s]? =some z/\y=if z=a\/z=b then min a b else z:=by
 unfold VQ at h;rw[aAp,Option.map_eq_some_iff]at h;obtain⟨z,h1,h2⟩:=h;exact⟨z,h1,h2.symm⟩
theorem RH.join (h:RH u to) {a b:Nat} (ha:to[a]? =some (a:Int)) (hb:to[b]? =some (b:Int)) (hne:a≠b):RH (u.set (max a b) ((min a b:Nat):Int)) (VQ to a b):=by
 have hla:a<u.length:=by rw[h.len];exact(aAC.1 ha).1
 have hlb:b<u.length:=by rw[h.len];exact(aAC.1 hb).1
 have em:(min (a:Int) (b:Int))=((min a b:Nat):Int):=by omega
 have hm:(VQ to a b)[min a b]? =some ((min a b:Nat):Int):=by
  rcases Nat.le_total a b with hab|hab
  ·rw[aAg hab,AdZ ha,if_pos (.inl rfl)];congr 1;omega
  ·rw[Nat.min_eq_right hab,AdZ hb,if_pos (.inr rfl)];congr 1;omega
 refine⟨by rw[aAu];unfold VQ;rw[List.length_map];exact h.len,λt x y hx hy=>?_⟩
 obtain⟨z,hz,rfl⟩:=ArY hy
 by_cases htm:t=max a b
 ·subst htm;rw[aAN (by omega)]at hx
  cases hx;have hzz:z=a\/z=b:=by
   rcases Nat.le_total a b with hab|hab
   ·rw[Nat.max_eq_right hab,hb]at hz;cases hz;exact .inr rfl
   ·rw[Nat.max_eq_left hab,ha]at hz;cases hz;exact .inl rfl
  rw[if_pos hzz,em];exact⟨by omega,by omega,by omega,by omega,by rw[aAB];exact hm,by rw[aAB];exact hm,Iff.rfl⟩
 ·rw[aAJ (Ne.symm htm)]at hx;obtain⟨g1,g2,g3,g4,g5,g6,g7⟩:=h.up t x z hx hz;have k5:=AdZ (a:=a) (b:=b) g5
  by_cases hzz:z=a\/z=b
  ·rw[if_pos hzz]at k5 ⊢;rw[em]at k5 ⊢;refine⟨g1,g2,by omega,by omega,k5,by rw[aAB];exact hm,⟨λe=>?_,λe=>?_⟩⟩
   ·have:=g7.1 e;omega
   ·
    refine g7.2 ?_;have hma:to[t]? =some (t:Int):=by
     have:t=min a b:=by omega
     rcases Nat.le_total a b with hab|hab
     ·rw[this,aAg hab];exact ha
     ·rw[this,Nat.min_eq_right hab];exact hb
    rw[hma]at hz;cases hz;rfl
  ·rw[if_neg hzz]at k5 ⊢;have k6:=AdZ (a:=a) (b:=b) g6;rw[if_neg hzz]at k6;exact⟨g1,g2,g3,g4,k5,k6,g7⟩
theorem RH.Apn (n:Nat):RH ((aAh n).map λi:Nat=>(i:Int)) ((aAh n).map λi:Nat=>(i:Int)):=by
 refine⟨rfl,λs x y hx hy=>?_⟩
 rw[hx]at hy;cases hy;have hs:s<n:=by have:=(aAC.1 hx).1;simpa using this
 have e:x=s:=by
  rw[aAp,List.getElem?_range hs]at hx;exact(Option.some.inj hx).symm
 subst e;exact⟨by omega,by omega,by omega,by omega,by rw[aAB];exact hx,by rw[aAB];exact hx,Iff.rfl⟩
end
theorem AnM {to:List Int}:∀ (k:Nat) {u:List Int} {s:Nat} {y:Int},RH u to->to[s]? =some y->s<k->∃ u',findF k u s=some (u',y)/\RH u' to
 | 0,_,_,_,_,_,h=>absurd h (aAG _)
 | k+1,u,s,y,hR,hy,hk=>by
  have hs:s<u.length:=by rw[hR.len];exact(aAC.1 hy).1
  obtain⟨x,y',e1,e2,g1,g2,g3,g4,g5,g6,g7⟩:=hR.get hs;rw[hy]at e2;cases e2;simp only[findF,e1,aA]
  by_cases hx:x=(s:Int)
  ·rw[if_pos hx,g7.1 hx];exact⟨u,rfl,hR⟩
  ·rw[if_neg hx,if_pos ⟨g1,by omega⟩]
   obtain⟨z,y2,e3,e4,k1,k2,k3,k4,k5,k6,k7⟩:=hR.get (s:=x.toNat) (by omega)
   rw[g5]at e4;cases e4;rw[e3,aA,if_pos ⟨k1,by omega⟩]
   exact AnM k (hR.half e1 hx e3) k5 (by omega)
theorem AqF {u to:List Int} (hR:RH u to) {s:Int} (h0:0<=s) (hy:to[s.toNat]? =some y):∃ u',Vl u s=some (u',y)/\RH u' to:=by
 unfold Vl;rw[if_pos h0];exact AnM _ hR hy (Nat.lt_succ_self _)
end Go.Dw
namespace Go.Proofs.YtilmapojncgflaaGreatDoor
open Go Go.Dw Go.Proofs
variable {k:Nat} {m:List (Int×Bool)} {l:List (List Int)} {f:Lo} {w s:List Int}
def AeL (k:Nat) (l:List (List Int)) (j:Int):List (List Int):=l.set j.toNat ((l[j.toNat]?).getD []++[(k:Int)])
def AdP (k:Nat) (l:List (List Int)) (nx:List Int):List (List Int):=nx.foldl (AeL k) l
def AcY (f:Lo):Nat->List (List Int)
 | 0=>aAf f.Code.length []
 | k+1=>AdP k (AcY f k) (PI (Ut f k) k)
theorem Anw (k:Nat) (l:List (List Int)) (j:Int):(AeL k l j).length=l.length:=by simp[AeL]
theorem Aei (k:Nat):∀ (nx:List Int) (l:List (List Int)),(AdP k l nx).length=l.length
 | [],_=>rfl
 | j::nx,l=>(Aei k nx _).trans (Anw k l j)
theorem AoL {m:Nat} (h:∀ q∈l,q.length<=m) (j:Int):∀ q∈AeL k l j,q.length<=m+1:=by
 intro q hq;rcases aAS hq with hq|hq
 ·exact Nat.le_succ_of_le (h q hq)
 ·subst hq;cases hx:l[j.toNat]? with
  | none=>simp
  | some q=>have:=h q (aAE hx);simp;omega
theorem Afk {k:Nat}:∀ (nx:List Int) (m:Nat) (l:List (List Int)),(∀ q∈l,q.length<=m)->∀ q∈AdP k l nx,q.length<=m+nx.length
 | [],m,l,h=>h
 | j::nx,m,l,h=>λq hq=>by
  have:=Afk nx (m+1) _ (AoL h j) q hq;simp only[List.length_cons];omega
theorem AoM {i:Nat} {nx:List Int} {y:Int} (h:nx[i]? =some y):AdP k l (nx.take (i+1))=AeL k (AdP k l (nx.take i)) y:=by
 simp[AdP,aAO,h,List.foldl_append]
theorem AjZ (f:Lo):∀ k,(AcY f k).length=f.Code.length
 | 0=>by simp[AcY]
 | k+1=>(Aei k _ _).trans (AjZ f k)
theorem Aet (x:OX) (k:Int):(PI x k).length<=2:=by unfold PI;(repeat' split)<;>simp
theorem Ahs (f:Lo):∀ k,∀ q∈AcY f k,q.length<=2*k
 | 0,q,hq=>by simp only[AcY,List.mem_replicate]at hq;simp[hq.2]
 | k+1,q,hq=>by
  have:=Afk _ _ _ (Ahs f k) q hq;have:=Aet (Ut f k) k;omega
theorem Aqv {y:Int} {j:Nat} {q:List Int} (hy:0<=y) (h:l[j]? =some q):∃ q',(AeL k l y)[j]? =some q'/\∀ x,x∈q'↔x∈q\/(x=(k:Int)/\y=(j:Int)):=by
 obtain⟨hl,_⟩:=aAC.1 h
 by_cases e:y.toNat=j
 ·subst e;refine⟨q++[(k:Int)],by simp only[AeL,h,aAs];exact aAN hl,λx=>?_⟩
  simp only[aAU,aAP];constructor
  ·rintro(h|h)
   ·exact .inl h
   ·exact .inr ⟨h,by omega⟩
  ·rintro(h|h)
   ·exact .inl h
   ·exact .inr h.1
 ·refine⟨q,by simp only[AeL];rw[aAJ e];exact h,λx=>?_⟩
  constructor
  ·exact .inl
  ·rintro(h|h)
   ·exact h
   ·omega
theorem Ale {k:Nat} {j:Nat}:∀ (nx:List Int) (l:List (List Int)) (q:List Int),(∀ y∈nx,0<=y)->l[j]? =some q->∃ q',(AdP k l nx)[j]? =some q'/\∀ x,x∈q'↔x∈q\/(x=(k:Int)/\(j:Int)∈nx)
 | [],l,q,_,h=>⟨q,h,λx=>by simp⟩
 | y::nx,l,q,hn,h=>by
  obtain⟨q1,h1,m1⟩:=Aqv (k:=k) (hn y (by simp)) h
  obtain⟨q2,h2,m2⟩:=Ale nx _ q1 (λz hz=>hn z (by simp[hz])) h1
  refine⟨q2,h2,λx=>?_⟩
  rw[m2,m1];simp only[aAK];constructor
  ·rintro((h|h)|h)
   ·exact .inl h
   ·exact .inr ⟨h.1,.inl h.2.symm⟩
   ·exact .inr ⟨h.1,.inr h.2⟩
  ·rintro(h|⟨h,h'|h'⟩)
   ·exact .inl (.inl h)
   ·exact .inl (.inr ⟨h,h'.symm⟩)
   ·exact .inr ⟨h,h'⟩
theorem Ans {f:Lo} (hf:Ps f) {j:Nat} (hj:j<f.Code.length):∀ k,k<=f.Code.length->∃ q,(AcY f k)[j]? =some q/\∀ x,x∈q↔∃ i:Nat,i<k/\x=(i:Int)/\(j:Int)∈PI (Ut f i) i
 | 0,_=>⟨[],by simp[AcY,hj],λx=>by simp⟩
 | k+1,hk=>by
  obtain⟨q,h1,m1⟩:=Ans hf hj k (by omega)
  have hcode:f.Code[k]? =some (Ut f k):=by simp[Ut,show k<f.Code.length by omega]
  obtain⟨q2,h2,m2⟩:=Ale (k:=k) (PI (Ut f k) k) _ q (λy hy=>(hf.next k _ hcode y hy).1) h1
  refine⟨q2,h2,λx=>?_⟩
  rw[m2,m1];constructor
  ·rintro(⟨i,h3,h4,h5⟩|⟨h3,h4⟩)
   ·exact⟨i,by omega,h4,h5⟩
   ·exact⟨k,by omega,h3,h4⟩
  ·rintro⟨i,h3,h4,h5⟩
   by_cases e:i=k
   ·subst e;exact .inr ⟨h4,h5⟩
   ·exact .inl ⟨i,by omega,h4,h5⟩
theorem ApT (hf:Ps f):Yf f=some (AcY f f.Code.length):=by
 have hlen:=hf.len;have hlen':=hf.len';have:Hs (Yf f) (· =AcY f f.Code.length):=by
  unfold Yf;refine .chk (by omega) ?_
  refine Hs.loop (λs=>∃ k:Nat,s.2=(k:Int)/\k<=f.Code.length/\s.1=AcY f k) (λs=>f.Code.length-s.2.toNat) ⟨0,rfl,aAD _,by simp[AcY]⟩ ?_
  rintro⟨l,k'⟩ ⟨k,rfl,hk,rfl⟩;unfold Zw;dsimp only;refine .dec (λhlt=>?_) λhlt=>.lft (.pure ?_)
  ·have hlt:k<f.Code.length:=aAV.1 hlt;have wk:=OZ (show k<9223372036854775807 by omega)
   have hcode:f.Code[k]? =some (Ut f k):=by simp[Ut,hlt]
   have hnx:=hf.next k _ hcode;have hnl:=Aet (Ut f k) k;have hb:=Ahs f k;have hbl:=AjZ f k;rw[AkC hcode (by omega),aA]
   refine Hs.loop (λs=>∃ i:Nat,s.2=(i:Int)/\i<=(PI (Ut f k) k).length/\s.1=AdP k (AcY f k) ((PI (Ut f k) k).take i)) (λs=>(PI (Ut f k) k).length-s.2.toNat) ⟨0,rfl,aAD _,rfl⟩ ?_
   rintro⟨l,i'⟩ ⟨i,rfl,hi,rfl⟩;unfold Zx;dsimp only;refine .dec (λhil=>?_) λhil=>.lft (.cnt ⟨⟨k+1,wk,hlt,?_⟩,?_⟩)
   ·have hil:i<(PI (Ut f k) k).length:=aAV.1 hil;have wi:=OZ (show i<9223372036854775807 by omega)
    refine .chk (by omega) ((Hs.get (i:=(i:Int)) (by omega) (by omega) λz hz=>hz).bind λy hy=>?_)
    simp only[aAB]at hy;have hyr:=hnx y (aAE hy);have hl2:=Aei k ((PI (Ut f k) k).take i) (AcY f k);refine .chk (by omega) ((Hs.get (i:=y) (by omega) (by omega) λz hz=>hz).bind λq hq=>?_)
    have hqb:=Afk _ _ _ hb q (aAE hq);simp only[List.length_take]at hqb;refine .chk (by simp only[aAw];omega) (.chk (by omega) (.cnt ⟨⟨i+1,wi,hil,?_⟩,by simp only[wi];omega⟩))
    rw[AoM hy,AeL,hq];rfl
   ·have:i=(PI (Ut f k) k).length:=by have:¬ i<(PI (Ut f k) k).length:=λh=>hil (aAV.2 h);omega
    subst this;simp only[aAQ];rfl
   ·simp only[wk];omega
  ·have:k=f.Code.length:=by have:¬ k<f.Code.length:=λh=>hlt (aAV.2 h);omega
   rw[this];rfl
 obtain⟨r,h1,h2⟩:=this;rw[h1,h2]
def KND (m:List (Int×Bool)):Prop:=(m.map Prod.fst).Nodup
theorem Alu {y:Int}:∀ {m:List (Int×Bool)},y∉m.map Prod.fst->Qz false y m=false
 | [],_=>rfl
 | (k,u)::r,h=>by
  simp only[aAo,aAK,not_or]at h;simp only[Qz];rw[if_neg (λe=>h.1 e.symm)]
  exact Alu h.2
theorem AhP (x y:Int):∀ m:List (Int×Bool),Qz false y (RN x true m)=if y=x then true else Qz false y m
 | []=>by
  simp only[RN,Qz]
  grind
 | (k,u)::r=>by
  simp only[RN]
  by_cases e:k=x
  ·subst e;rw[if_pos rfl];simp only[Qz]
   grind
  ·rw[if_neg e];simp only[Qz]
   by_cases e2:k=y
   ·simp_all
   ·rw[if_neg e2,if_neg e2];exact AhP x y r
theorem AnX (x y:Int) (u:Bool):∀ m:List (Int×Bool),y∈(RN x u m).map Prod.fst↔y=x\/y∈m.map Prod.fst
 | []=>by simp[RN]
 | (k,u')::r=>by
  simp only[RN]
  by_cases e:k=x
  ·simp_all
  ·rw[if_neg e];simp only[aAo,aAK,AnX x y u r]
   grind
theorem KND.set (h:KND m) (x:Int) (u:Bool):KND (RN x u m):=by
 induction m with
 | nil=>simp[KND,RN]
 | cons p r ih =>
  obtain⟨k,u'⟩:=p;simp only[KND,aAo,aAj]at h;simp only[RN]
  by_cases e:k=x
  ·rw[if_pos e];exact aAj.2 h
  ·rw[if_neg e];refine aAj.2 ⟨λhm=>?_,ih h.2⟩
   grind [AnX]
theorem AnW (x y:Int):∀ m:List (Int×Bool),y∈(RX x m).map Prod.fst->y∈m.map Prod.fst
 | [],h=>h
 | (k,u')::r,h=>by
  simp only[RX]at h;split at h
  ·simp_all
  ·rcases aAK.1 h with h|h
   ·simp_all
   ·exact aAI _ (AnW x y r h)
theorem KND.del (h:KND m) (x:Int):KND (RX x m):=by
 induction m<;>grind [KND,RX,AnW]
theorem Aqd (h:KND m) (x y:Int):Qz false y (RX x m)=if y=x then false else Qz false y m:=by
 induction m with
 | nil=>simp[RX,Qz]
 | cons p r ih =>
  obtain⟨k,u'⟩:=p;simp only[KND,aAo,aAj]at h;simp only[RX]
  by_cases e:k=x
  ·subst e;rw[if_pos rfl]
   by_cases e2:y=k
   ·simp_all[Alu]
   ·rw[if_neg e2];simp only[Qz]
    grind
  ·rw[if_neg e];simp only[Qz]
   by_cases e2:k=y
   ·simp_all
   ·rw[if_neg e2,if_neg e2];exact ih h.2
structure WL (n:Nat) (m:List (Int×Bool)) (w:List Int):Prop where
 nd:KND m
 iff:∀ x,Qz false x m=true↔x∈w
 uniq:w.Nodup
 rng:∀ x∈w,0<=x/\x<(n:Int)
theorem WL.nil (n:Nat):WL n [] []:=⟨List.nodup_nil,λx=>by simp[Qz],List.nodup_nil,λx h=>by cases h⟩
theorem WL.len {n:Nat} (h:WL n m w):w.length<=n:=by
 have h1:(w.map Int.toNat).Nodup:=by
  refine List.pairwise_map.2 (List.Pairwise.imp_of_mem (fun{a b} ha hb hab e=>hab ?_) h.uniq)
  have:=h.rng a ha;have:=h.rng b hb;omega
 have:=h1.length_le_of_subset (l₂:=aAh n) λx hx=>by
  obtain⟨y,hy,rfl⟩:=List.mem_map.1 hx;have:=h.rng y hy;simp_all
 simp_all
theorem WL.put {n:Nat} (h:WL n m w) {x:Int} (hx:x∉w) (hr:0<=x/\x<(n:Int)):WL n (RN x true m) (w++[x]):=by
 refine⟨h.nd.set x true,λy=>?_,?_,λy hy=>?_⟩
 ·rw[AhP]
  by_cases e:y=x
  ·simp_all
  ·rw[if_neg e,h.iff];simp[e]
 ·refine List.nodup_append.2 ⟨h.uniq,by simp,λa ha b hb=>?_⟩
  grind
 ·simp only[aAU,aAP]at hy;rcases hy with hy|rfl
  ·exact h.rng y hy
  ·exact hr
theorem WL.take {n:Nat} {x:Int} (h:WL n m (w++[x])):WL n (RX x m) w:=by
 obtain⟨u1,_,u3⟩:=List.nodup_append.1 h.uniq;refine⟨h.nd.del x,λy=>?_,u1,λy hy=>h.rng y (aAi _ hy)⟩
 rw[Aqd h.nd]
 by_cases e:y=x
 ·grind
 ·rw[if_neg e,h.iff];simp[e]
theorem ArT (s t:List Int) (hs:s.length<=9223372036854775807):Tk s t=some (decide (s=t)):=by
 unfold Tk
 by_cases hl:s.length=t.length
 ·have:Hs (Pe (λq=>TE s t q) 0) λb=>b=decide (s=t):=by
   refine Hs.loop (λq=>∃ k:Nat,q=(k:Int)/\k<=s.length/\s.take k=t.take k) (λq=>s.length-q.toNat) ⟨0,rfl,aAD _,by simp⟩ ?_
   rintro _ ⟨k,rfl,hk,he⟩;refine .dec (λhlt=>?_) λhge=>.lft (.pure ?_)
   ·have hlt:k<s.length:=aAV.1 hlt;have e1:s[k]? =some s[k]:=aAA hlt;have e2:t[k]? =some (t[k]'(by omega)):=aAA _
    rw[Pp,e1,aA,Pp,e2,aA];refine .bne (λhne=>.lft (.pure ?_)) λhee=>?_
    ·have:s≠t:=by grind
     show false=decide (s=t);simp[this]
    ·rw[OZ (by omega)]
     refine .cnt ⟨⟨k+1,rfl,hlt,?_⟩,by grind⟩
     grind [aAO]
   ·have hkn:k=s.length:=by omega
    subst hkn;have:s=t:=by
     grind
    show true=decide (s=t);simp[this]
  obtain⟨r,h1,rfl⟩:=this;simp_all
 ·have hne:s≠t:=λe=>hl (by rw[e])
  grind
theorem Amy (hk:k<l.length) {j:Int} (hj:0<=j):Pk (l.set k s) j=if j=(k:Int)then s else Pk l j:=by
 unfold Pk
 grind
theorem AmS (hf:Ps f) {l':List (List Int)} (hl:QA f l) (hl':QA f l') (hk:k<f.Code.length) (h:∀ j∈PI (OU f k) k,Pk l j=Pk l' j):Qt f l k=Qt f l' k:=by
 have h1:=Td hf hl hk;have h2:=Td hf hl' hk;refine h1.1.1.ext h2.1.1 λv=>?_
 grind
theorem QA.row (h:QA f l) (hk:k<f.Code.length):l[k]? =some (Pk l k)/\PE f.Slots.length (Pk l k):=by
 have hkl:k<l.length:=by have:=h.1;omega
 have e:Pk l (k:Int)=l[k]:=by grind [Pk]
 rw[e];exact⟨aAA hkl,h.2 _ (aAF hkl)⟩
theorem QA.setRow (h:QA f l) (hs:PE f.Slots.length s):QA f (l.set k s) :=
 ⟨by simpa using h.1,λt ht=>(aAS ht).elim (h.2 t) λe=>e▸hs⟩
theorem Wc (hk:k<f.Code.length):(Sp f l)[k]? =some (Qt f l k):=by grind [Sp]
structure Up (f:Lo) (l:List (List Int)) (w:List Int):Prop where
 ok:QA f l
 le:LE l (Sp f l)
 least:∀ b,QA f b->LE (Sp f b) b->LE l b
 done:∀ k:Nat,k<f.Code.length->(k:Int)∉w->Qt f l k=Pk l k
theorem Up.set (hf:Ps f) {w':List Int} (h:Up f l (w++[(k:Int)])) (hk:k<f.Code.length) (hw:∀ x∈w,x∈w') (hb:∀ i:Nat,i<f.Code.length->(k:Int)∈PI (OU f i) i->(i:Int)∈w') :
  Up f (l.set k (Qt f l k)) w'/\LE l (l.set k (Qt f l k)):=by
 have hs:=Td hf h.ok hk;have hok:=h.ok.setRow (k:=k) hs.1;have hlen:k<l.length:=by have:=h.ok.1;omega
 obtain⟨g1,g2⟩:=h.ok.row hk;have hsub:∀ v∈Pk l k,v∈Qt f l k:=h.le k _ _ g1 (Wc hk);have hLE:LE l (l.set k (Qt f l k)):=by
  intro q s t hq ht v hv
  grind
 have hmono:=Agj hf h.ok hok hLE;refine⟨⟨hok,λq s t hq ht v hv=>?_,λb hb1 hb2=>?_,λq hq hqw=>?_⟩,hLE⟩
 ·have hql:q<f.Code.length:=by have:=(aAC.1 hq).1;have:=hok.1;omega
  by_cases e:q=k
  ·subst e;rw[aAN hlen]at hq;cases hq;exact hmono q _ t (Wc hql) ht v hv
  ·rw[aAJ (λh=>e h.symm)]at hq
   exact hmono q _ t (Wc hql) ht v (h.le q s _ hq (Wc hql) v hv)
 ·have hlb:=h.least b hb1 hb2;have hsb:=Agj hf h.ok hb1 hlb;intro q s t hq ht v hv
  by_cases e:q=k
  ·subst e;rw[aAN hlen]at hq;cases hq;exact hb2 q _ t (Wc hk) ht v (hsb q _ _ (Wc hk) (Wc hk) v hv)
  ·rw[aAJ (λh=>e h.symm)]at hq
   exact hlb q s t hq ht v hv
 ·have hkn:(k:Int)∉PI (OU f q) q:=λhm=>hqw (hb q hq hm)
  have hq0:f.Code[q]? =some (OU f q):=by simp[OU,hq]
  have e1:Qt f (l.set k (Qt f l k)) q=Qt f l q:=by
   refine AmS hf hok h.ok hq λj hj=>?_
   rw[Amy hlen (hf.next q _ hq0 j hj).1,if_neg (λe:j=(k:Int)=>hkn (e▸hj))]
  rw[e1,Amy hlen (by omega)]
  by_cases e:(q:Int)=(k:Int)
  ·simp_all
  ·rw[if_neg e];refine h.done q hq λhm=>?_
   simp_all
theorem Up.same (h:Up f l (w++[(k:Int)])) (he:Qt f l k=Pk l k):Up f l w:=by
 refine⟨h.ok,h.le,h.least,λq hq hqw=>?_⟩
 by_cases e:q=k
 ·simp_all
 ·refine h.done q hq λhm=>?_
  grind
theorem Up.end_ (h:Up f l []):UN f l:=by
 refine⟨h.ok,?_,h.least⟩;apply aAc;intro k
 by_cases hk:k<f.Code.length
 ·rw[Wc hk,(h.ok.row hk).1,h.done k hk (by simp)]
 ·rw[aAL (by grind [Sp]),aAL (by have:=h.ok.1;omega)]
theorem Amw (hf:Ps f):Hs (UP f) λl=>UN f l.Out:=by
 have hlen:=hf.len;have hlen':=hf.len';have hsl:=hf.slots;unfold UP;refine .chk (by omega) ?_
 rw[ApT hf,aA];refine Hs.loop (λs=>∃ k:Nat,s.2.2=(k:Int)/\k<=f.Code.length/\WL f.Code.length s.1 s.2.1/\∀ x,x∈s.2.1↔0<=x/\x<(k:Int)) (λs=>f.Code.length-s.2.2.toNat) ⟨0,rfl,aAD _,WL.nil _,λx=>⟨λh=>(by cases h),λh=>(by omega)⟩⟩ ?_
 rintro⟨m,w,_⟩ ⟨k,rfl,hk,hw,hwk⟩;simp only at hw hwk;unfold WG;dsimp only;refine .dec (λhlt=>?_) λhge=>.lft ?_
 ·have hlt:k<f.Code.length:=aAV.1 hlt;have hn:Qz false (k:Int) m=false:=by
   cases h:Qz false (k:Int) m
   ·rfl
   ·have:=(hwk _).1 ((hw.iff _).1 h);omega
  have hwl:=hw.len;have hnw:(k:Int)∉w:=λh=>by simp_all
  rw[hn,aAv,cond_true];refine .chk (by grind) ?_
  unfold Uw;rw[OZ (by omega)]
  exact .cnt ⟨⟨k+1,rfl,hlt,hw.put hnw ⟨by omega,by omega⟩,λx=>by grind⟩,by grind⟩
 have hkn:k=f.Code.length:=by
  omega
 subst hkn;have h0:QA f (aAf (f.Code.length:Int).toNat ([]:List Int)):=⟨by simp,λs hs=>by grind [PE.nil]⟩
 have hnil:∀ (q:Nat) s,(aAf (f.Code.length:Int).toNat ([]:List Int))[q]? =some s->s=[]:=λq s hq=>by
  grind
 refine Hs.loop (λs=>Up f s.1 s.2.2/\WL f.Code.length s.2.1 s.2.2) (λs=>(512*f.Code.length-(s.1.map List.length).sum)*(f.Code.length+1)+s.2.2.length)
  ⟨⟨h0,λq s t hq _ v hv=>(by grind),λb _ _ q s t hq _ v hv=>(by grind),λq hq hqw=>absurd ((hwk _).2 ⟨by omega,by omega⟩) hqw⟩,hw⟩ ?_
 show ∀ s,_->Hs _ (Rnd _ _ s λr:Ph=>UN f r.Out)
 clear h0 hnil hwk hw hge hk w m;rintro⟨l,m,w⟩ ⟨hu,hw⟩;simp only at hu hw;dsimp only;refine .dec (λhpos=>?_) λhz=>.lft (.pure ?_)
 ·have hpos:0<w.length:=by omega
  have hwl:=hw.len;have ew:IntKind.i64.wrap ((w.length:Int)-1)=((w.length-1:Nat):Int):=by grind [wrap64]
  rw[ew];have hx:w[w.length-1]? =some (w[w.length-1]'(by omega)):=aAA _
  generalize hxx:w[w.length-1]'(by omega)=x at hx
  have hxr:=hw.rng x (aAE hx);obtain⟨k,rfl⟩:∃ k:Nat,x=(k:Int):=⟨x.toNat,by omega⟩
  have hk:k<f.Code.length:=by omega
  have hcode:f.Code[k]? =some (OU f k):=by grind [OU]
  have hnx:=hf.next k _ hcode;have hsplit:w=w.take (w.length-1)++[(k:Int)]:=by
   have:=aAO (l:=w) (i:=w.length-1)
   grind
  generalize hw0:w.take (w.length-1)=w0 at *;have hw0l:w0.length+1=w.length:=by simp_all
  rw[hsplit]at hu hw;have hwt:=hw.take;refine .chk (by omega) ?_
  simp only[aAB];rw[hx,aA];refine .chk (by omega) ?_
  rw[AkC hcode (by omega),aA]
  have hnl:=Aet (OU f k) k;refine Hs.loop (λs=>∃ i:Nat,s.1=(i:Int)/\i<=(PI (OU f k) k).length/\s.2=((PI (OU f k) k).take i).foldl (λo j=>Rb o (inN (OU f j) (Pk l j))) []) (λs=>(PI (OU f k) k).length-s.1.toNat) ⟨0,rfl,aAD _,rfl⟩ ?_
  rintro⟨_,s⟩ ⟨i,rfl,hi,hs⟩;simp only at hs;unfold WH;dsimp only;refine .dec (λhlt=>?_) λhge=>.lft ?_
  ·have hlt:i<(PI (OU f k) k).length:=aAV.1 hlt;have hg:(PI (OU f k) k)[i]? =some ((PI (OU f k) k)[i]):=aAA hlt;generalize(PI (OU f k) k)[i]=j at hg;have hj:=hnx j (aAE hg);have hjc:f.Code[j.toNat]? =some (OU f j):=by grind [OU]
   obtain⟨o1,o2⟩:=hu.ok.row (k:=j.toNat) (by omega)
   rw[aAZ hj.1]at o1 o2;have hll:=hu.ok.1;have hf1:=AkD hf hu.ok (js:=(PI (OU f k) k).take i) (o:=[]) (λy hy=>hnx y (List.mem_of_mem_take hy)) (PE.nil _)
   have huse:=hf.uses _ (aAE hjc);have hin:=Xd hf (aAE hjc) o2;have hinl:=hin.1.1.length_le;refine .chk (by omega) ?_
   rw[aAB,hg,aA,QB _ hj.1,hjc,aA];refine .chk (by omega) ?_
   rw[o1,aA,AqD o2.1 (λv hv=>by grind),aA,hs,AdE hf1.1.1 (λv hv=>hin.1.1.2 v hv) (by omega),aA,OZ (by omega)]
   refine .cnt ⟨⟨i+1,rfl,hlt,?_⟩,by grind⟩
   grind [aAO]
  ·have hil:i=(PI (OU f k) k).length:=by
    omega
   subst hil;rw[aAQ]at hs;have hs:s=Qt f l k:=hs;subst hs;obtain⟨g1,g2⟩:=hu.ok.row hk;have hsr:=Td hf hu.ok hk;have hsrl:=hsr.1.1.length_le;have hll:=hu.ok.1;refine .chk (by omega) ?_
   rw[aAB,g1,aA,ArT _ _ (by omega),aA,ew]
   simp only[aAB,hw0];refine .dec (λheq=>?_) λhne=>?_
   ·exact .cnt ⟨⟨hu.same heq,hwt⟩,by grind⟩
   ·refine .chk (by omega) ?_
    obtain⟨row,hrow,hmem⟩:=Ans hf hk f.Code.length (aAT _);rw[Pp,hrow,aA];have hrr:∀ y∈row,0<=y/\y<(f.Code.length:Int):=λy hy=>by
     grind
    have hrl:row.length<=2*f.Code.length:=Ahs f _ row (aAE hrow);have hsum:=Aow (a:=l) (b:=l.set k (Qt f l k)) (by simp) (λs hs=>(hu.ok.2 s hs).1) (λs hs=>((hu.ok.setRow hsr.1).2 s hs).1)
    refine Hs.loop (λs=>∃ i:Nat,s.2.2=(i:Int)/\i<=row.length/\WL f.Code.length s.1 s.2.1/\(∀ x∈w0,x∈s.2.1)/\∀ x∈row.take i,x∈s.2.1) (λs=>row.length-s.2.2.toNat) ⟨0,rfl,aAD _,hwt,λ_ h=>h,λx hx=>by simp at hx⟩ ?_
    rintro⟨m2,w2,_⟩ ⟨i,rfl,hi2,hw2,hsub,hin⟩;simp only at hw2 hsub hin;refine .dec (λhlt=>?_) λhge2=>.lft ?_
    ·have hlt:i<row.length:=aAV.1 hlt;have hg:row[i]? =some row[i]:=aAA hlt;generalize row[i]=y at hg;have hyr:=hrr y (aAE hg);rw[Pp,hg,aA];have hw2l:=hw2.len;have w1:=OZ (show i<9223372036854775807 by omega)
     cases hgy:Qz false y m2 with
     | true =>
      unfold Ts;rw[w1];refine .cnt ⟨⟨i+1,rfl,hlt,hw2,hsub,λx hx=>?_⟩,by grind⟩
      rw[aAO,hg]at hx;simp only[Option.toList_some,aAU,aAP]at hx;rcases hx with hx|rfl
      ·grind
      ·exact(hw2.iff _).1 hgy
     | false =>
      have hny:y∉w2:=λh=>by rw[(hw2.iff _).2 h]at hgy;cases hgy
      rw[aAv,cond_true];refine .chk (by simp only[aAw];omega) ?_
      unfold Ts;rw[w1];refine .cnt ⟨⟨i+1,rfl,hlt,hw2.put hny hyr,λx hx=>aAi _ (hsub x hx),λx hx=>?_⟩,by grind⟩
      rw[aAO,hg]at hx;simp only[Option.toList_some,aAU,aAP]at hx ⊢;rcases hx with hx|rfl
      ·exact .inl (hin x hx)
      ·exact .inr rfl
    ·have hil:i=row.length:=by
      have:¬ i<row.length:=λh=>hge2 (aAV.2 h)
      omega
     subst hil;rw[aAQ]at hin;have hup:=hu.set hf hk hsub λq hq hm=>hin _ ((hmem _).2 ⟨q,hq,rfl,hm⟩)
     obtain⟨s1,s2⟩:=hsum hup.2;have hb:=Ajx (a:=l.set k (Qt f l k)) λs hs=>(hup.1.ok.2 s hs).1
     have hw2l:=hw2.len;have hlt:(l.map List.length).sum<((l.set k (Qt f l k)).map List.length).sum:=by
      refine Nat.lt_of_le_of_ne s1 λe=>hne ?_
      have:=s2 e;have h1:(l.set k (Qt f l k))[k]? =some (Qt f l k):=aAN (by omega)
      rw[<- this,g1]at h1;exact(Option.some.inj h1).symm
     refine .cnt ⟨⟨hup.1,hw2⟩,?_⟩;simp only[aAu,hll,aAB]at hb ⊢;generalize((l.set k (Qt f l k)).map List.length).sum=A at *;generalize(l.map List.length).sum=B at *;have hm1:(512*f.Code.length-A+1)*(f.Code.length+1)<=(512*f.Code.length-B)*(f.Code.length+1):=Nat.mul_le_mul_right _ (by omega)
     rw[Nat.add_mul]at hm1;omega
 ·have hz:w.length=0:=by omega
  rw[List.eq_nil_of_length_eq_zero hz]at hu;exact hu.end_
attribute [local simp] PK aAH
theorem AqP (s:List Pn) (v:Pn) (h:s.length<=1000000):Rr s v=some (decide (v∈s)):=by
 unfold Rr Tl;have:=QT (body:=λi:Int=>Qc s v i) s (λ(k:Nat) i=>i) (λk i=>k=i) (λk l=>some (match l.findIdx? (· ==v)with|none=>-1|some j=>((k+j:Nat):Int)))
  (λk _=>⟨-1,by simp[Qc],by simp⟩) (λk i x r hk hd hi hx=>by
   subst hk;have w:=OZ (show k<9223372036854775807 by omega)
   obtain⟨_,rfl⟩:=aAC.1 hx
   by_cases e:s[k]=v
   ·refine .inr ⟨(k:Int),?_,?_⟩
    ·subst e;simp[Qc,hi]
    ·simp[List.findIdx?_cons,e]
   ·refine .inl ⟨k+1,rfl,?_,?_⟩
    ·have hne:¬ (v.a0=s[k].a0/\v.a1=s[k].a1):=λhh=>e (by
      generalize s[k]=y at hh
      cases y;cases v;simp_all)
     simp[Qc,hi,hne,w]
    ·have hb:(s[k]==v)=false:=by simpa using e
     simp only[List.findIdx?_cons,hb,aAk,if_false];cases r.findIdx? (· ==v)with
     | none=>rfl
     | some j=>simp;omega) 0 rfl
 rw[show Pe (λs_1=>Qc s v s_1) 0=_ from this]
 simp only[aA];congr 1
 by_cases hm:v∈s
 ·cases hfi:s.findIdx? (· ==v)with
  | none =>
   rw[aAr]at hfi;have:=hfi v hm;simp at this
  | some j=>simp[hm]
 ·have:s.findIdx? (· ==v)=none:=by
   rw[aAr];intro x hx;simp only[beq_eq_false_iff_ne];rintro rfl;exact hm hx
  simp[this,hm]
def SD (l:List OX) (out:List Pn):List Pn :=
 l.foldl (λout x=>if x.Op=17/\x.A≠x.B/\(⟨x.A,x.B⟩:Pn)∉out then out++[⟨x.A,x.B⟩]else out) out
theorem Ase (f:Lo) (h:f.Code.length<=1000000):VO f=some (SD f.Code []):=by
 unfold VO;have:=QT (body:=λs:List Pn×Int=>QO f s.1 s.2) f.Code (λ(out:List Pn) i=>(out,i)) (λout i=>out.length<=i) (λout l=>some (SD l out))
  (λout _=>⟨out,by simp[QO],by simp[SD]⟩) (λout i x r ho hd hi hx=>by
   have w:=OZ (show i<9223372036854775807 by omega)
   obtain⟨_,rfl⟩:=aAC.1 hx;have hc:=AqP out ⟨f.Code[i].A,f.Code[i].B⟩ (by omega)
   left
   by_cases h17:f.Code[i].Op=17
   ·by_cases hab:f.Code[i].A=f.Code[i].B
    ·exact⟨out,by omega,by simp[QO,hi,h17,hab,w],by simp[SD,h17,hab]⟩
    ·by_cases hm:(⟨f.Code[i].A,f.Code[i].B⟩:Pn)∈out
     ·exact⟨out,by omega,by simp[QO,hi,h17,hab,hc,hm,w],by simp[SD,h17,hab,hm]⟩
     ·exact⟨out++[⟨f.Code[i].A,f.Code[i].B⟩],by simp;omega,by simp[QO,hi,h17,hab,hc,hm,w,show out.length<=16777215 by omega],by simp[SD,h17,hab,hm]⟩
   ·exact⟨out,by omega,by simp[QO,hi,h17,w],by simp[SD,h17]⟩) [] (by simp)
 simpa using this
end Go.Proofs.YtilmapojncgflaaGreatDoor
