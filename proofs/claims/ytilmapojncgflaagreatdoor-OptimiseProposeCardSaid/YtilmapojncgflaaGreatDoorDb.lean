/-
  THE LAYER: symbolic semantics of compiled code, and programs on typed data.
-/
import Derived.Test.YtilmapojncgflaaGreatDoorDa
import Derived.Laws.BytesString
open Array renaming getD_eq_getD_getElem?->aAD,getElem?_eq_getElem->aAG,getElem?_setIfInBounds->aAT,all_eq_true'->aAe,eq_empty_of_size_eq_zero->aAm,getElem?_eq_some_iff->aAp,size_push->aAw,getElem?_push_lt->aAy
open Bool renaming and_eq_true->aAS,false_eq_true->aAU,not_eq_true'->aAs
open Go.Instr renaming sureAddr->aAg,findNow->aAi,mapUpdate->aAv,next->aAz,sameNow->aBA,lookup->aBB
open List renaming mem_of_getElem?->aAB,getElem?_eq_some_iff->aAC,mem_append->aAJ,all_eq_true->aAK,getElem?_cons_zero->aAM,getElem?_map->aAN,getElem?_eq_getElem->aAO,getElem?_cons_succ->aAP,getElem?_set_self->aAQ,eq_nil_iff_forall_not_mem->aAR,mem_or_eq_of_mem_set->aAV,replicate->aAX,mem_map->aAY,mem_filter->aAZ,mem_range->aAa,append_assoc->aAh,length_replicate->aAj,getElem?_set_ne->aAk,mem_of_mem_take->aAl,ext_getElem?->aAr,nil_append->aAu,range->aB
open Nat renaming le_refl->aAF,mul_le_mul_right->aAW,zero_add->aAb,eq_of_beq_eq_true->aAc,add_zero->aAd,min->aAf,mul_one->aAo,lt_trichotomy->aAq,beq->aAt
open Option renaming bind_eq_some_iff->aA,bind_eq_bind->aAA,getD_some->aAE,map_eq_some_iff->aAH,isSome_iff_exists->aAI,map_some->aAn
open Go.Program renaming cellsOf->aAL
open Go.World renaming cell?->aAx
namespace Go.Dw
section
variable {N:Nat} {w0:World} {F0:Fz} {M:Nat->Prop} {B0:Bt} {σ:S} {F:Fz} {β:Bt} {a:Act} {w:World} {P:Program}
theorem CB (e:List (Nat×D)) (o:List (Nat×Ab)) (n k g:Nat) (y:Ab):(S.mk e ((k,y)::o) n).go g=if g=k then y else(S.mk e o n).go g:=by
 simp only[S.go,look];split<;>simp
theorem BV {e:D} {off:Nat} {d:D} (hle:off<(cells e).length) (h1:cells d=[d]) (q:Nat):(cells (Qu e off [d])).length=(cells e).length/\(cells (Qu e off [d]))[q]? =if q=off then some d else(cells e)[q]?:=by
 rw[ED (by simp;omega) (λc hc=>by simp at hc;subst hc;exact h1) (.inl (by simp))]
 obtain⟨h2,h3⟩:=Ea [d] (cells e) off;refine⟨h2,?_⟩;rw[h3];simp only[List.length_singleton]
 by_cases hq:q=off
 ·subst hq;rw[if_pos ⟨aAF _,by omega,hle⟩,if_pos rfl]
  simp
 ·rw[if_neg (by omega),if_neg hq]
theorem JO (h:Sim N w0 F0 M B0 σ F β a w) {nv t:Nat} (hnv:β nv=none) (ht:t<N) {g v i off s ty:Nat} {es:List D} {o:Own} (hg:σ.go g=some (v,o)) (hr:Ac g=true) (hfz:o.fz=false) (hi:i<o.es.length)
  (hrow:(cells (o.es.getD i .top))[off]? =some (.row s ty es)) (hne:g≠4096+t) {px:Value} (hpx:Val F β (.optr g v i off) px) (c:Prop) :
  ∃ b L x,px= .pointer (some ⟨b,i*o.s+off,none⟩)/\w.cell? ⟨b,i*o.s+off,none⟩=some x/\Sim N w0 F0 M B0 (σ.app ⟨c,Ad (some t) (.osl (4096+t) nv 0 es.length),
   [(4096+t,some (nv,⟨false,false,s,ty,es⟩)),(g,some (v,{ o with es:=o.es.set i (Qu (o.es.getD i .top) off [.hole (4096+t) nv es.length]) }))]⟩) F (upB β nv L) (a.put (some t) x) w:=by
 obtain⟨Lg,bg,hLg,hbg,rfl⟩:=hpx;obtain⟨Lg',hLg',_,hk⟩:=h.own g v o hg;rw[hLg]at hLg';cases hLg';have hokg:=hk hfz;obtain⟨e1,e2,e3,e4,e5,e6⟩:=hokg;rw[hbg]at e6;obtain⟨C,hC,hCs,hcell⟩:=e6;have hget:o.es[i]? =some (o.es.getD i .top):=by simp[hi]
 obtain⟨x,x1,x2,_⟩:=hcell i off _ _ hget hrow;obtain⟨φ,hφ⟩:=h.Ac;have hrat:=hφ.row g v o Lg bg C i off _ x s ty es hr hg hfz hLg hbg hC hget hrow x1;have hoff:off<(cells (o.es.getD i .top)).length:=(aAC.1 hrow).1;obtain⟨s1,s2,s3⟩:=h.sep g v o Lg bg hg hfz hLg hbg;have hloc:∃ (L:Loc) (fp:Nat->Nat->Nat->Prop),L.s=s/\x= .slice (L.b.map λb=>⟨b,0,none⟩) es.length L.cap/\Ax F (upB β nv L) w L ⟨false,false,s,ty,es⟩/\(∀ b,L.b=some b->φ g i off b) /\
   (∀ i' j' b,fp i' j' b->φ g i off b/\L.b≠some b)/\(∀ i j i' j' b,fp i j b->fp i' j' b->i=i'/\j=j') /\
   (∀ b C (i' j':Nat) e y s' ty' es',L.b=some b->w.heap[b]? =some (.cells C ty (0,0))->es[i']? =some e->(cells e)[j']? =some (.row s' ty' es')->C[i'*s+j']? =some y->Bp F w (fp i' j') s' ty' es' y) /\
   (∀ (i' j':Nat) e nm u n,es[i']? =some e->(cells e)[j']? ≠some (.hole nm u n)):=by
  cases hrat with
  | nil _ _ _ hs=>exact⟨⟨none,0,s⟩,λ_ _ _=>False,rfl,rfl,⟨rfl,hs,by simp,by simp,λe he=>(by cases he),rfl,rfl⟩,λb hb=>(by cases hb),λ_ _ _ h=>h.elim,λ_ _ _ _ _ h=>h.elim,λb C i' j' e y s' ty' es' hb=>(by cases hb),λi' j' e nm u n he=>by simp at he⟩
  | row _ _ _ _ b cap C1 fp xf hs hc hm hl hC1 hC1s hb hx hrr hh hfp hd =>
   refine⟨⟨some b,cap,s⟩,fp,rfl,rfl,⟨rfl,hs,hc,by simpa using hm,hl,C1,hC1,hC1s,λi' j' e d he hd'=>?_⟩,λb' hb'=>(by cases hb';exact hb),λi' j' b' hb'=>⟨(hfp i' j' b' hb').1,λe=>by cases e;exact(hfp i' j' _ hb').2 rfl⟩,hd,λb' C2 i' j' e y s' ty' es' hb' hC2 he hj hy=>?_,hh⟩
   ·obtain⟨y1,y2,y3⟩:=hx i' j' e d he hd';exact⟨_,y1,y2,by simpa using y3⟩
   ·cases hb';rw[hC1]at hC2;cases hC2;obtain⟨y1,_,_⟩:=hx i' j' e _ he hj;rw[y1]at hy;cases hy;exact hrr i' j' e s' ty' es' he hj
 obtain⟨L,fp,l1,l2,l3,l4,l5,l6,l7,l8⟩:=hloc;have hβ:=AZ (β:=β) (nv:=nv) L hnv;refine⟨bg,L,x,by simp[e1],by simp[aAx,hC,x1],?_⟩
 obtain⟨og,hog⟩:∃ og:Own,og={ o with es:=o.es.set i (Qu (o.es.getD i .top) off [.hole (4096+t) nv es.length]) }:=⟨_,rfl⟩
 obtain⟨og1,og2,og3,og4⟩:og.fz=false/\og.var=o.var/\og.s=o.s/\og.ty=o.ty:=by subst hog;exact⟨hfz,rfl,rfl,rfl⟩
 have hogc:∀ (i' j':Nat) e d,og.es[i']? =some e->(cells e)[j']? =some d->(i'=i/\j'=off/\d= .hole (4096+t) nv es.length)\/(¬ (i'=i/\j'=off)/\∃ e',o.es[i']? =some e'/\(cells e')[j']? =some d):=by
  intro i' j' e d he hd;subst hog;simp only at he
  by_cases hii:i'=i
  ·subst hii;rw[aAQ hi]at he;cases he;obtain⟨_,q2⟩:=BV (d:=.hole (4096+t) nv es.length) hoff rfl j';rw[q2]at hd
   by_cases hj:j'=off
   ·rw[if_pos hj]at hd;cases hd;exact .inl ⟨rfl,hj,rfl⟩
   ·rw[if_neg hj]at hd;exact .inr ⟨λe=>hj e.2,_,hget,hd⟩
  ·rw[aAk (λe=>hii e.symm)]at he
   exact .inr ⟨λe=>hii e.1,e,he,hd⟩
 have hogok:Ax F (upB β nv L) w Lg og:=by
  refine⟨by rw[og3];exact e1,by rw[og3];exact e2,by subst hog;simpa using e3,by rw[og2];exact e4,λe he=>?_,?_⟩
  ·subst hog;simp only at he ⊢;rcases aAV he with hm|hm
   ·exact e5 e hm
   ·subst hm;rw[(BV (d:=.hole (4096+t) nv es.length) hoff rfl 0).1];exact e5 _ (aAB hget)
  ·rw[hbg];refine⟨C,by rw[og4];exact hC,by rw[og3];exact hCs,λi' j' e d he hd=>?_⟩
   rw[og3,og2];rcases hogc i' j' e d he hd with⟨rfl,rfl,rfl⟩|⟨_,e',k1,k2⟩
   ·refine⟨x,x1,x2,?_⟩;split
    ·exact Cel.Ae (.hole _ _ _ _)
    ·exact .hole _ _ _ _
   ·obtain⟨y,y1,y2,y3⟩:=hcell i' j' e' d k1 k2;refine⟨y,y1,y2,?_⟩;split at y3
    ·rename_i hv;rw[if_pos hv];exact y3.mono (Ag.refl _) hβ
    ·rename_i hv;rw[if_neg hv];exact y3
 rw[<- hog];have hgo:∀ g' v' o',(σ.app ⟨c,Ad (some t) (.osl (4096+t) nv 0 es.length),[(4096+t,some (nv,⟨false,false,s,ty,es⟩)),(g,some (v,og))]⟩).go g'=some (v',o') ->
   (g'=4096+t/\v'=nv/\o'=⟨false,false,s,ty,es⟩)\/(g'=g/\v'=v/\o'=og)\/(g'≠4096+t/\g'≠g/\σ.go g'=some (v',o')):=by
  intro g' v' o' hg';rw[S.Cs]at hg';simp only[look]at hg'
  by_cases h1:g'=4096+t
  ·rw[if_pos h1]at hg';cases hg';exact .inl ⟨h1,rfl,rfl⟩
  ·rw[if_neg h1]at hg'
   by_cases h2:g'=g
   ·rw[if_pos h2]at hg';cases hg';exact .inr (.inl ⟨h2,rfl,rfl⟩)
   ·rw[if_neg h2]at hg';exact .inr (.inr ⟨h1,h2,hg'⟩)
 have hnb:∀ b,L.b=some b->b≠bg:=by
  rintro b hb rfl;exact hφ.sep g i off b g v o Lg (l4 b hb) hg hfz hLg hbg
 have hother:∀ g' v' o' L' b,g'≠g->σ.go g'=some (v',o')->o'.fz=false->β v'=some L'->L'.b=some b->¬ (b=bg\/L.b=some b):=by
  rintro g' v' o' L' b hn hg' hf' hL' hb' (rfl|hb)
  ·exact hn (h.dist g' g v' v o' o L' Lg b hg' hg hf' hfz hL' hLg hb' hbg)
  ·exact hφ.sep g i off b g' v' o' L' (l4 b hb) hg' hf' hL' hb'
 refine h.change (row:=λb=>b=bg\/L.b=some b) rfl rfl rfl (aAF _) (λ_ _ _=>rfl) ?_ (Ag.refl _) (λ_ _ _ _=>rfl) h.frz h.fin hβ (by rw[BR];exact h.size) (by rw[Bq];exact h.defers)
  (h.CA (Ag.refl _) hβ (λt' e=>by cases e;exact ht) ⟨L,_,Aj _ _ _,l2,?_,λ_=>rfl,λhp=>?_⟩) ?_ ?_ ?_
 ·rintro b (rfl|hb)
  ·exact s3.imp id And.left
  ·exact hφ.new g i off b (l4 b hb)
 ·have:=l3.2.2.1;simpa using this
 ·cases hLb:L.b with
  | none =>
   obtain⟨_,_,k3,_,_,k6⟩:=l3;rw[hLb]at k6;simp only at k3;omega
  | some b=>exact⟨b,rfl,by simp⟩
 ·intro g' v' o' hg';rcases hgo g' v' o' hg' with⟨rfl,rfl,rfl⟩|⟨rfl,rfl,rfl⟩|⟨k1,k2,k3⟩
  ·refine .inr ⟨L,Aj _ _ _,rfl,l3,λb hb=>⟨hφ.none_ g i off b (l4 b hb),hφ.lt g i off b (l4 b hb),(hφ.new g i off b (l4 b hb)).imp id (λz=>⟨z,by simp[Ac]⟩),.inl (.inr hb)⟩⟩
  ·refine .inr ⟨Lg,hβ _ _ hLg,og1,hogok,λb hb=>?_⟩
   rw[hbg]at hb;cases hb;exact⟨s1,s2,s3,.inl (.inl rfl)⟩
  ·exact .inl ⟨k3,λL' b hf hL' hb=>hother g' v' o' L' b k2 k3 hf hL' hb⟩
 ·intro g1 g2 v1 v2 o1 o2 L1 L2 b hg1 hg2 hf1 hf2 hL1 hL2 hb1 hb2 hrow';have hrow':b=bg\/L.b=some b:=by
   rcases hrow' with h1|h1
   ·exact h1
   ·exfalso;rcases hgo g1 v1 o1 hg1 with⟨_,rfl,rfl⟩|⟨_,rfl,rfl⟩|⟨_,k2,k3⟩
    ·rw[Aj]at hL1;cases hL1;have:=hφ.lt g i off b (l4 b hb1);omega
    ·have:=hβ _ _ hLg;rw[hL1]at this;cases this;rw[hbg]at hb1;cases hb1;omega
    ·obtain⟨L0,e0,_⟩:=h.own g1 v1 o1 k3;have:=hβ _ _ e0;rw[hL1]at this;cases this;have:=(h.sep g1 v1 o1 L1 b k3 hf1 e0 hb1).2.1;omega
  have key:∀ g' v' o' L',(σ.app ⟨c,Ad (some t) (.osl (4096+t) nv 0 es.length),[(4096+t,some (nv,⟨false,false,s,ty,es⟩)),(g,some (v,og))]⟩).go g'=some (v',o')->o'.fz=false->upB β nv L v'=some L'->L'.b=some b->(g'=g/\b=bg)\/(g'=4096+t/\L.b=some b):=by
   intro g' v' o' L' hg' hf' hL' hb';rcases hgo g' v' o' hg' with⟨rfl,rfl,rfl⟩|⟨rfl,rfl,rfl⟩|⟨_,k2,k3⟩
   ·rw[Aj]at hL';cases hL';exact .inr ⟨rfl,hb'⟩
   ·have:=hβ _ _ hLg;rw[hL']at this;cases this;rw[hbg]at hb';cases hb';exact .inl ⟨rfl,rfl⟩
   ·obtain⟨L0,e0,_⟩:=h.own g' v' o' k3;have:=hβ _ _ e0;rw[hL']at this;cases this;exact(hother g' v' o' L' b k2 k3 hf' e0 hb' hrow').elim
  rcases key g1 v1 o1 L1 hg1 hf1 hL1 hb1 with⟨k1,k2⟩|⟨k1,k2⟩
  ·rcases key g2 v2 o2 L2 hg2 hf2 hL2 hb2 with⟨k3,_⟩|⟨_,k4⟩
   ·rw[k1,k3]
   ·exact(hnb b k4 k2).elim
  ·rcases key g2 v2 o2 L2 hg2 hf2 hL2 hb2 with⟨_,k4⟩|⟨k3,_⟩
   ·exact(hnb b k2 k4).elim
   ·rw[k1,k3]
 ·intro _ _
  let φ':Nat->Nat->Nat->Nat->Prop:=λg1 i1 j1 b=>(g1=4096+t/\fp i1 j1 b)\/(g1≠4096+t/\¬ (g1=g/\i1=i/\j1=off)/\φ g1 i1 j1 b)
  have hsub:∀ g1 i1 j1 b,φ' g1 i1 j1 b->∃ g2 i2 j2,φ g2 i2 j2 b:=by
   rintro g1 i1 j1 b (⟨_,hb⟩|⟨_,_,hb⟩)
   ·exact⟨g,i,off,(l5 i1 j1 b hb).1⟩
   ·exact⟨g1,i1,j1,hb⟩
  refine⟨φ',?_,?_,λg1 i1 j1 b hb=>?_,λg1 i1 j1 b hb=>?_,λg1 i1 j1 b hb=>?_,λg1 i1 j1 b g' v' o' L' hb hg' hf' hL' hLb=>?_,?_⟩
  ·intro g' v' o' L' b C' i' j' e y s' ty' es' hr' hg' hf' hL' hb' hC' he hj hy;rcases hgo g' v' o' hg' with⟨rfl,rfl,rfl⟩|⟨rfl,rfl,rfl⟩|⟨k1,k2,k3⟩
   ·rw[Aj]at hL';cases hL';exact(l7 b C' i' j' e y s' ty' es' hb' hC' he hj hy).keep (Ag.refl _) (λ_ _=>rfl) (λb hb=>.inl ⟨rfl,hb⟩)
   ·have:=hβ _ _ hLg;rw[hL']at this;cases this;rw[hbg]at hb';cases hb';rw[og4]at hC';rw[og3]at hy;rcases hogc i' j' e _ he hj with⟨_,_,k⟩|⟨kn,e',k1,k2⟩
    ·cases k
    ·exact(hφ.row g' v' o _ bg C' i' j' e' y s' ty' es' hr' hg hfz hLg hbg hC' k1 k2 hy).keep (Ag.refl _) (λ_ _=>rfl) (λb hb=>.inr ⟨hne,λe=>kn ⟨e.2.1,e.2.2⟩,hb⟩)
   ·obtain⟨L0,e0,_⟩:=h.own g' v' o' k3;have:=hβ _ _ e0;rw[hL']at this;cases this;exact(hφ.row g' v' o' L' b C' i' j' e y s' ty' es' hr' k3 hf' e0 hb' hC' he hj hy).keep (Ag.refl _) (λ_ _=>rfl) (λb hb=>.inr ⟨k1,λe=>k2 e.1,hb⟩)
  ·intro g' v' o' L' b C' i' j' e y nm u n hr' hg' hf' hL' hb' hC' he hj hy;rcases hgo g' v' o' hg' with⟨rfl,rfl,rfl⟩|⟨rfl,rfl,rfl⟩|⟨k1,k2,k3⟩
   ·exact(l8 i' j' e _ u n he hj).elim
   ·have:=hβ _ _ hLg;rw[hL']at this;cases this;rw[hbg]at hb';cases hb';rw[og4]at hC';rw[og3]at hy;rcases hogc i' j' e _ he hj with⟨rfl,rfl,k⟩|⟨kn,e',k1,k2⟩
    ·cases k;rw[hC]at hC';cases hC';rw[x1]at hy;cases hy;refine⟨L,_,Aj _ _ _,l2,?_,λ_=>rfl,λhp=>?_⟩
     ·have:=l3.2.2.1;simpa using this
     ·cases hLb:L.b with
      | none =>
       obtain⟨_,_,k3,_,_,k6⟩:=l3;rw[hLb]at k6;simp only at k3;omega
      | some b=>exact⟨b,rfl,by simp⟩
    ·exact(hφ.hole g' v' o _ bg C' i' j' e' y _ u n hr' hg hfz hLg hbg hC' k1 k2 hy).mono (Ag.refl _) hβ
   ·obtain⟨L0,e0,_⟩:=h.own g' v' o' k3;have:=hβ _ _ e0;rw[hL']at this;cases this;exact(hφ.hole g' v' o' L' b C' i' j' e y _ u n hr' k3 hf' e0 hb' hC' he hj hy).mono (Ag.refl _) hβ
  ·obtain⟨g2,i2,j2,hb⟩:=hsub g1 i1 j1 b hb;exact hφ.none_ _ _ _ _ hb
  ·obtain⟨g2,i2,j2,hb⟩:=hsub g1 i1 j1 b hb;exact hφ.lt _ _ _ _ hb
  ·obtain⟨g2,i2,j2,hb⟩:=hsub g1 i1 j1 b hb;exact hφ.new _ _ _ _ hb
  ·rcases hgo g' v' o' hg' with⟨rfl,rfl,rfl⟩|⟨rfl,rfl,rfl⟩|⟨_,k2,k3⟩
   ·rw[Aj]at hL';cases hL';rcases hb with⟨_,hb⟩|⟨_,hn,hb⟩
    ·exact(l5 i1 j1 b hb).2 hLb
    ·exact hn (hφ.dis _ _ _ _ _ _ _ hb (l4 b hLb))
   ·have:=hβ _ _ hLg;rw[hL']at this;cases this;obtain⟨g2,i2,j2,hb⟩:=hsub g1 i1 j1 b hb;exact hφ.sep g2 i2 j2 b g' v' o _ hb hg hfz hLg hLb
   ·obtain⟨L0,e0,_⟩:=h.own g' v' o' k3;have:=hβ _ _ e0;rw[hL']at this;cases this;obtain⟨g2,i2,j2,hb⟩:=hsub g1 i1 j1 b hb;exact hφ.sep g2 i2 j2 b g' v' o' L' hb k3 hf' e0 hLb
  ·rintro g1 i1 j1 g2 i2 j2 b (⟨rfl,hb⟩|⟨hn1,hn,hb⟩) (⟨rfl,hb'⟩|⟨hn2,hn',hb'⟩)
   ·exact⟨rfl,l6 i1 j1 i2 j2 b hb hb'⟩
   ·exact(hn' (hφ.dis _ _ _ _ _ _ _ hb' (l5 i1 j1 b hb).1)).elim
   ·exact(hn (hφ.dis _ _ _ _ _ _ _ hb (l5 i2 j2 b hb').1)).elim
   ·exact hφ.dis _ _ _ _ _ _ _ hb hb'
theorem NA (h:Sim N w0 F0 M B0 σ F β a w) {nv t:Nat} (hnv:β nv=none) {g v i off s ty:Nat} {es:List D} {o:Own} (hg:σ.go g=some (v,o)) (hr:Ac g=true) (hfz:o.fz=false) (hi:i<o.es.length)
  (hrow:(cells (o.es.getD i .top))[off]? =some (.row s ty es)) (hne:g≠4096+t) (m:Nat) :
  ∃ L,Sim N w0 F0 M B0 ⟨σ.e,(4096+t,some (nv,⟨false,false,s,ty,es⟩))::(g,some (v,{ o with es:=o.es.set i (Qu (o.es.getD i .top) off [.hole (4096+t) nv es.length]) }))::σ.o,m⟩ F (upB β nv L) a w:=by
 obtain⟨Lg,hLg,_,hk⟩:=h.own g v o hg;obtain⟨e1,e2,e3,e4,e5,e6⟩:=hk hfz;obtain⟨bg,hbg⟩:∃ bg,Lg.b=some bg:=by
  cases hb:Lg.b with
  | some b=>exact⟨b,rfl⟩
  | none =>
   rw[hb]at e6;omega
 let a':Act:={ a with tmps:=a.tmps++Array.replicate (t+1) undef }
 have h':Sim (N+(t+1)) w0 F0 M B0 σ F β a' w:=by
  refine{ nam:=h.nam,size:=by simp[a',h.size],defers:=h.defers,env:=λq=>?_,own:=h.own,dist:=h.dist,sep:=h.sep,Ac:=h.Ac,frz:=h.frz,fin:=h.fin,step:=h.step }
  have:a'.tmps.getD q undef=a.tmps.getD q undef:=by
   simp only[a',aAD]
   by_cases hq:q<a.tmps.size
   ·rw[Array.getElem?_append_left hq]
   ·rw[Array.getElem?_append_right (by omega),Array.getElem?_eq_none (by omega:a.tmps.size<=q)]
    by_cases hq2:q-a.tmps.size<t+1
    ·simp[hq2]
    ·simp[hq2]
  rw[this];exact h.env q
 obtain⟨b,L,x,_,_,z⟩:=JO h' hnv (by omega:t<N+(t+1)) hg hr hfz hi hrow hne (px:=.pointer (some ⟨bg,i*Lg.s+off,none⟩)) ⟨Lg,bg,hLg,hbg,rfl⟩ True
 refine⟨L,{ nam:=h.nam.trans (AZ (β:=β) (nv:=nv) L hnv),size:=h.size,defers:=h.defers,env:=λq=>(h.env q).mono (Ag.refl _) (AZ (β:=β) (nv:=nv) L hnv),own:=z.own,dist:=z.dist,sep:=z.sep,Ac:=?_,frz:=h.frz,fin:=h.fin,step:=h.step }⟩
 obtain⟨φ,hφ⟩:=z.Ac;exact⟨φ,hφ.congr λ_=>rfl⟩
theorem Nw (h:Sim N w0 F0 M B0 σ F β a w) {g v i off nm u m:Nat} {o:Own} (hg:σ.go g=some (v,o)) (hr:Ac g=true) (hfz:o.fz=false) (hi:i<o.es.length)
  (hrow:(cells (o.es.getD i .top))[off]? =some (.hole nm u m)) {px:Value} (hpx:Val F β (.optr g v i off) px) :
  ∃ b x,px= .pointer (some ⟨b,i*o.s+off,none⟩)/\w.cell? ⟨b,i*o.s+off,none⟩=some x/\Ref F β (.osl nm u 0 m) x:=by
 obtain⟨Lg,bg,hLg,hbg,rfl⟩:=hpx;obtain⟨Lg',hLg',_,hk⟩:=h.own g v o hg;rw[hLg]at hLg';cases hLg';obtain⟨e1,e2,e3,e4,e5,e6⟩:=hk hfz;rw[hbg]at e6;obtain⟨C,hC,hCs,hcell⟩:=e6;have hget:o.es[i]? =some (o.es.getD i .top):=by simp[hi]
 obtain⟨x,x1,x2,_⟩:=hcell i off _ _ hget hrow;obtain⟨φ,hφ⟩:=h.Ac;exact⟨bg,x,by rw[e1],by simp[aAx,hC,x1],hφ.hole g v o Lg bg C i off _ x nm u m hr hg hfz hLg hbg hC hget hrow x1⟩
theorem Ol (h:Sim N w0 F0 M B0 σ F β a w) {nv t:Nat} (hnv:β nv=none) {g v i off s ty:Nat} {es:List D} {o:Own} (hg:σ.go g=some (v,o)) (hr:Ac g=true) (hfz:o.fz=false) (hvar:o.var=true) (hi:i<o.es.length)
  (hrow:(cells (o.es.getD i .top))[off]? =some (.row s ty es)) (hne:g≠4096+t) (m:Nat) :
  ∃ L,Sim N w0 F0 M B0 ⟨σ.e,(4096+t,some (nv,⟨false,false,s,ty,es⟩))::(g,some (v,{ o with es:=o.es.set i (Qu (o.es.getD i .top) off [.osl (4096+t) nv 0 es.length]) }))::σ.o,m⟩ F (upB β nv L) a w:=by
 obtain⟨Lg,hLg,_,hk⟩:=h.own g v o hg;have hokg:=hk hfz;obtain⟨e1,e2,e3,e4,e5,e6⟩:=hokg;obtain⟨bg,hbg⟩:∃ bg,Lg.b=some bg:=by
  cases hb:Lg.b with
  | some b=>exact⟨b,rfl⟩
  | none =>
   rw[hb]at e6;omega
 rw[hbg]at e6;obtain⟨C,hC,hCs,hcell⟩:=e6;have hget:o.es[i]? =some (o.es.getD i .top):=by simp[hi]
 obtain⟨x,x1,x2,_⟩:=hcell i off _ _ hget hrow;obtain⟨φ,hφ⟩:=h.Ac;have hrat:=hφ.row g v o Lg bg C i off _ x s ty es hr hg hfz hLg hbg hC hget hrow x1;have hoff:off<(cells (o.es.getD i .top)).length:=(aAC.1 hrow).1;obtain⟨s1,s2,s3⟩:=h.sep g v o Lg bg hg hfz hLg hbg;have hloc:∃ (L:Loc) (fp:Nat->Nat->Nat->Prop),L.s=s/\x= .slice (L.b.map λb=>⟨b,0,none⟩) es.length L.cap/\Ax F (upB β nv L) w L ⟨false,false,s,ty,es⟩/\(∀ b,L.b=some b->φ g i off b) /\
   (∀ i' j' b,fp i' j' b->φ g i off b/\L.b≠some b)/\(∀ i j i' j' b,fp i j b->fp i' j' b->i=i'/\j=j') /\
   (∀ b C (i' j':Nat) e y s' ty' es',L.b=some b->w.heap[b]? =some (.cells C ty (0,0))->es[i']? =some e->(cells e)[j']? =some (.row s' ty' es')->C[i'*s+j']? =some y->Bp F w (fp i' j') s' ty' es' y) /\
   (∀ (i' j':Nat) e nm u n,es[i']? =some e->(cells e)[j']? ≠some (.hole nm u n)):=by
  cases hrat with
  | nil _ _ _ hs=>exact⟨⟨none,0,s⟩,λ_ _ _=>False,rfl,rfl,⟨rfl,hs,by simp,by simp,λe he=>(by cases he),rfl,rfl⟩,λb hb=>(by cases hb),λ_ _ _ h=>h.elim,λ_ _ _ _ _ h=>h.elim,λb C i' j' e y s' ty' es' hb=>(by cases hb),λi' j' e nm u n he=>by simp at he⟩
  | row _ _ _ _ b cap C1 fp xf hs hc hm hl hC1 hC1s hb hx hrr hh hfp hd =>
   refine⟨⟨some b,cap,s⟩,fp,rfl,rfl,⟨rfl,hs,hc,by simpa using hm,hl,C1,hC1,hC1s,λi' j' e d he hd'=>?_⟩,λb' hb'=>(by cases hb';exact hb),λi' j' b' hb'=>⟨(hfp i' j' b' hb').1,λe=>by cases e;exact(hfp i' j' _ hb').2 rfl⟩,hd,λb' C2 i' j' e y s' ty' es' hb' hC2 he hj hy=>?_,hh⟩
   ·obtain⟨y1,y2,y3⟩:=hx i' j' e d he hd';exact⟨_,y1,y2,by simpa using y3⟩
   ·cases hb';rw[hC1]at hC2;cases hC2;obtain⟨y1,_,_⟩:=hx i' j' e _ he hj;rw[y1]at hy;cases hy;exact hrr i' j' e s' ty' es' he hj
 obtain⟨L,fp,l1,l2,l3,l4,l5,l6,l7,l8⟩:=hloc;have hβ:=AZ (β:=β) (nv:=nv) L hnv;refine⟨L,?_⟩;have href:Ref F (upB β nv L) (.osl (4096+t) nv 0 es.length) x:=by
  refine⟨L,_,Aj _ _ _,l2,?_,λ_=>rfl,λhp=>?_⟩
  ·have:=l3.2.2.1;simpa using this
  ·cases hLb:L.b with
   | none =>
    obtain⟨_,_,k3,_,_,k6⟩:=l3;rw[hLb]at k6;simp only at k3;omega
   | some b=>exact⟨b,rfl,by simp⟩
 obtain⟨og,hog⟩:∃ og:Own,og={ o with es:=o.es.set i (Qu (o.es.getD i .top) off [.osl (4096+t) nv 0 es.length]) }:=⟨_,rfl⟩
 obtain⟨og1,og2,og3,og4⟩:og.fz=false/\og.var=o.var/\og.s=o.s/\og.ty=o.ty:=by subst hog;exact⟨hfz,rfl,rfl,rfl⟩
 have hogc:∀ (i' j':Nat) e d,og.es[i']? =some e->(cells e)[j']? =some d->(i'=i/\j'=off/\d= .osl (4096+t) nv 0 es.length)\/(¬ (i'=i/\j'=off)/\∃ e',o.es[i']? =some e'/\(cells e')[j']? =some d):=by
  intro i' j' e d he hd;subst hog;simp only at he
  by_cases hii:i'=i
  ·subst hii;rw[aAQ hi]at he;cases he;obtain⟨_,q2⟩:=BV (d:=.osl (4096+t) nv 0 es.length) hoff rfl j';rw[q2]at hd
   by_cases hj:j'=off
   ·rw[if_pos hj]at hd;cases hd;exact .inl ⟨rfl,hj,rfl⟩
   ·rw[if_neg hj]at hd;exact .inr ⟨λe=>hj e.2,_,hget,hd⟩
  ·rw[aAk (λe=>hii e.symm)]at he
   exact .inr ⟨λe=>hii e.1,e,he,hd⟩
 have hogok:Ax F (upB β nv L) w Lg og:=by
  refine⟨by rw[og3];exact e1,by rw[og3];exact e2,by subst hog;simpa using e3,by rw[og2];exact e4,λe he=>?_,?_⟩
  ·subst hog;simp only at he ⊢;rcases aAV he with hm|hm
   ·exact e5 e hm
   ·subst hm;rw[(BV (d:=.osl (4096+t) nv 0 es.length) hoff rfl 0).1];exact e5 _ (aAB hget)
  ·rw[hbg];refine⟨C,by rw[og4];exact hC,by rw[og3];exact hCs,λi' j' e d he hd=>?_⟩
   rw[og3,og2];rcases hogc i' j' e d he hd with⟨rfl,rfl,rfl⟩|⟨_,e',k1,k2⟩
   ·refine⟨x,x1,x2,?_⟩;rw[if_pos hvar];exact Cel.CL href
   ·obtain⟨y,y1,y2,y3⟩:=hcell i' j' e' d k1 k2;refine⟨y,y1,y2,?_⟩;rw[if_pos hvar]at y3 ⊢;exact y3.mono (Ag.refl _) hβ
 rw[<- hog];have hgo:∀ g' v' o',(S.mk σ.e ((4096+t,some (nv,⟨false,false,s,ty,es⟩))::(g,some (v,og))::σ.o) m).go g'=some (v',o') ->
   (g'=4096+t/\v'=nv/\o'=⟨false,false,s,ty,es⟩)\/(g'=g/\v'=v/\o'=og)\/(g'≠4096+t/\g'≠g/\σ.go g'=some (v',o')):=by
  intro g' v' o' hg';rw[CB]at hg';split at hg'
  ·rename_i h1;cases hg';exact .inl ⟨h1,rfl,rfl⟩
  ·rename_i h1;rw[CB]at hg';split at hg'
   ·rename_i h2;cases hg';exact .inr (.inl ⟨h2,rfl,rfl⟩)
   ·rename_i h2;exact .inr (.inr ⟨h1,h2,hg'⟩)
 have hnb:∀ b,L.b=some b->b≠bg:=by
  rintro b hb rfl;exact hφ.sep g i off b g v o Lg (l4 b hb) hg hfz hLg hbg
 have hother:∀ g' v' o' L' b,g'≠g->σ.go g'=some (v',o')->o'.fz=false->β v'=some L'->L'.b=some b->¬ (b=bg\/L.b=some b):=by
  rintro g' v' o' L' b hn hg' hf' hL' hb' (rfl|hb)
  ·exact hn (h.dist g' g v' v o' o L' Lg b hg' hg hf' hfz hL' hLg hb' hbg)
  ·exact hφ.sep g i off b g' v' o' L' (l4 b hb) hg' hf' hL' hb'
 refine h.change (row:=λb=>b=bg\/L.b=some b) rfl rfl rfl (aAF _) (λ_ _ _=>rfl) ?_ (Ag.refl _) (λ_ _ _ _=>rfl) h.frz h.fin hβ h.size h.defers
  (λt'=>(h.env t').mono (Ag.refl _) hβ) ?_ ?_ ?_
 ·rintro b (rfl|hb)
  ·exact s3.imp id And.left
  ·exact hφ.new g i off b (l4 b hb)
 ·intro g' v' o' hg';rcases hgo g' v' o' hg' with⟨rfl,rfl,rfl⟩|⟨rfl,rfl,rfl⟩|⟨k1,k2,k3⟩
  ·refine .inr ⟨L,Aj _ _ _,rfl,l3,λb hb=>⟨hφ.none_ g i off b (l4 b hb),hφ.lt g i off b (l4 b hb),(hφ.new g i off b (l4 b hb)).imp id (λz=>⟨z,by simp[Ac]⟩),.inl (.inr hb)⟩⟩
  ·refine .inr ⟨Lg,hβ _ _ hLg,og1,hogok,λb hb=>?_⟩
   rw[hbg]at hb;cases hb;exact⟨s1,s2,s3,.inl (.inl rfl)⟩
  ·exact .inl ⟨k3,λL' b hf hL' hb=>hother g' v' o' L' b k2 k3 hf hL' hb⟩
 ·intro g1 g2 v1 v2 o1 o2 L1 L2 b hg1 hg2 hf1 hf2 hL1 hL2 hb1 hb2 hrow';have hrow':b=bg\/L.b=some b:=by
   rcases hrow' with h1|h1
   ·exact h1
   ·exfalso;rcases hgo g1 v1 o1 hg1 with⟨_,rfl,rfl⟩|⟨_,rfl,rfl⟩|⟨_,k2,k3⟩
    ·rw[Aj]at hL1;cases hL1;have:=hφ.lt g i off b (l4 b hb1);omega
    ·have:=hβ _ _ hLg;rw[hL1]at this;cases this;rw[hbg]at hb1;cases hb1;omega
    ·obtain⟨L0,e0,_⟩:=h.own g1 v1 o1 k3;have:=hβ _ _ e0;rw[hL1]at this;cases this;have:=(h.sep g1 v1 o1 L1 b k3 hf1 e0 hb1).2.1;omega
  have key:∀ g' v' o' L',(S.mk σ.e ((4096+t,some (nv,⟨false,false,s,ty,es⟩))::(g,some (v,og))::σ.o) m).go g'=some (v',o')->o'.fz=false->upB β nv L v'=some L'->L'.b=some b->(g'=g/\b=bg)\/(g'=4096+t/\L.b=some b):=by
   intro g' v' o' L' hg' hf' hL' hb';rcases hgo g' v' o' hg' with⟨rfl,rfl,rfl⟩|⟨rfl,rfl,rfl⟩|⟨_,k2,k3⟩
   ·rw[Aj]at hL';cases hL';exact .inr ⟨rfl,hb'⟩
   ·have:=hβ _ _ hLg;rw[hL']at this;cases this;rw[hbg]at hb';cases hb';exact .inl ⟨rfl,rfl⟩
   ·obtain⟨L0,e0,_⟩:=h.own g' v' o' k3;have:=hβ _ _ e0;rw[hL']at this;cases this;exact(hother g' v' o' L' b k2 k3 hf' e0 hb' hrow').elim
  rcases key g1 v1 o1 L1 hg1 hf1 hL1 hb1 with⟨k1,k2⟩|⟨k1,k2⟩
  ·rcases key g2 v2 o2 L2 hg2 hf2 hL2 hb2 with⟨k3,_⟩|⟨_,k4⟩
   ·rw[k1,k3]
   ·exact(hnb b k4 k2).elim
  ·rcases key g2 v2 o2 L2 hg2 hf2 hL2 hb2 with⟨_,k4⟩|⟨k3,_⟩
   ·exact(hnb b k2 k4).elim
   ·rw[k1,k3]
 ·intro _ _
  let φ':Nat->Nat->Nat->Nat->Prop:=λg1 i1 j1 b=>(g1=4096+t/\fp i1 j1 b)\/(g1≠4096+t/\¬ (g1=g/\i1=i/\j1=off)/\φ g1 i1 j1 b)
  have hsub:∀ g1 i1 j1 b,φ' g1 i1 j1 b->∃ g2 i2 j2,φ g2 i2 j2 b:=by
   rintro g1 i1 j1 b (⟨_,hb⟩|⟨_,_,hb⟩)
   ·exact⟨g,i,off,(l5 i1 j1 b hb).1⟩
   ·exact⟨g1,i1,j1,hb⟩
  refine⟨φ',?_,?_,λg1 i1 j1 b hb=>?_,λg1 i1 j1 b hb=>?_,λg1 i1 j1 b hb=>?_,λg1 i1 j1 b g' v' o' L' hb hg' hf' hL' hLb=>?_,?_⟩
  ·intro g' v' o' L' b C' i' j' e y s' ty' es' hr' hg' hf' hL' hb' hC' he hj hy;rcases hgo g' v' o' hg' with⟨rfl,rfl,rfl⟩|⟨rfl,rfl,rfl⟩|⟨k1,k2,k3⟩
   ·rw[Aj]at hL';cases hL';exact(l7 b C' i' j' e y s' ty' es' hb' hC' he hj hy).keep (Ag.refl _) (λ_ _=>rfl) (λb hb=>.inl ⟨rfl,hb⟩)
   ·have:=hβ _ _ hLg;rw[hL']at this;cases this;rw[hbg]at hb';cases hb';rw[og4]at hC';rw[og3]at hy;rcases hogc i' j' e _ he hj with⟨_,_,k⟩|⟨kn,e',k1,k2⟩
    ·cases k
    ·exact(hφ.row g' v' o _ bg C' i' j' e' y s' ty' es' hr' hg hfz hLg hbg hC' k1 k2 hy).keep (Ag.refl _) (λ_ _=>rfl) (λb hb=>.inr ⟨hne,λe=>kn ⟨e.2.1,e.2.2⟩,hb⟩)
   ·obtain⟨L0,e0,_⟩:=h.own g' v' o' k3;have:=hβ _ _ e0;rw[hL']at this;cases this;exact(hφ.row g' v' o' L' b C' i' j' e y s' ty' es' hr' k3 hf' e0 hb' hC' he hj hy).keep (Ag.refl _) (λ_ _=>rfl) (λb hb=>.inr ⟨k1,λe=>k2 e.1,hb⟩)
  ·intro g' v' o' L' b C' i' j' e y nm u n hr' hg' hf' hL' hb' hC' he hj hy;rcases hgo g' v' o' hg' with⟨rfl,rfl,rfl⟩|⟨rfl,rfl,rfl⟩|⟨k1,k2,k3⟩
   ·exact(l8 i' j' e _ u n he hj).elim
   ·have:=hβ _ _ hLg;rw[hL']at this;cases this;rw[hbg]at hb';cases hb';rw[og4]at hC';rw[og3]at hy;rcases hogc i' j' e _ he hj with⟨rfl,rfl,k⟩|⟨kn,e',k1,k2⟩
    ·cases k
    ·exact(hφ.hole g' v' o _ bg C' i' j' e' y _ u n hr' hg hfz hLg hbg hC' k1 k2 hy).mono (Ag.refl _) hβ
   ·obtain⟨L0,e0,_⟩:=h.own g' v' o' k3;have:=hβ _ _ e0;rw[hL']at this;cases this;exact(hφ.hole g' v' o' L' b C' i' j' e y _ u n hr' k3 hf' e0 hb' hC' he hj hy).mono (Ag.refl _) hβ
  ·obtain⟨g2,i2,j2,hb⟩:=hsub g1 i1 j1 b hb;exact hφ.none_ _ _ _ _ hb
  ·obtain⟨g2,i2,j2,hb⟩:=hsub g1 i1 j1 b hb;exact hφ.lt _ _ _ _ hb
  ·obtain⟨g2,i2,j2,hb⟩:=hsub g1 i1 j1 b hb;exact hφ.new _ _ _ _ hb
  ·rcases hgo g' v' o' hg' with⟨rfl,rfl,rfl⟩|⟨rfl,rfl,rfl⟩|⟨_,k2,k3⟩
   ·rw[Aj]at hL';cases hL';rcases hb with⟨_,hb⟩|⟨_,hn,hb⟩
    ·exact(l5 i1 j1 b hb).2 hLb
    ·exact hn (hφ.dis _ _ _ _ _ _ _ hb (l4 b hLb))
   ·have:=hβ _ _ hLg;rw[hL']at this;cases this;obtain⟨g2,i2,j2,hb⟩:=hsub g1 i1 j1 b hb;exact hφ.sep g2 i2 j2 b g' v' o _ hb hg hfz hLg hLb
   ·obtain⟨L0,e0,_⟩:=h.own g' v' o' k3;have:=hβ _ _ e0;rw[hL']at this;cases this;obtain⟨g2,i2,j2,hb⟩:=hsub g1 i1 j1 b hb;exact hφ.sep g2 i2 j2 b g' v' o' L' hb k3 hf' e0 hLb
  ·rintro g1 i1 j1 g2 i2 j2 b (⟨rfl,hb⟩|⟨hn1,hn,hb⟩) (⟨rfl,hb'⟩|⟨hn2,hn',hb'⟩)
   ·exact⟨rfl,l6 i1 j1 i2 j2 b hb hb'⟩
   ·exact(hn' (hφ.dis _ _ _ _ _ _ _ hb' (l5 i1 j1 b hb).1)).elim
   ·exact(hn (hφ.dis _ _ _ _ _ _ _ hb (l5 i2 j2 b hb').1)).elim
   ·exact hφ.dis _ _ _ _ _ _ _ hb hb'
theorem LF {L:Loc} {o:Own} (hok:Ax F β w L o) (hvar:o.var=false) {g v n:Nat} {x:Value} (hx:Ref F β (.osl g v 0 n) x) (hL:β v=some L) (hn:n<=o.es.length) (hp:∀ e∈o.es,Az e=true):Bp F w (λb=>L.b=some b) o.s o.ty (o.es.take n) x:=by
 obtain⟨L',A,hL',rfl,hcap,hA,_⟩:=hx;rw[hL]at hL';cases hL';obtain⟨e1,e2,e3,e4,e5,e6⟩:=hok;have hA:=hA rfl;subst hA;cases hb:L.b with
 | none =>
  rw[hb]at e6;have hn0:n=0:=by omega
  subst hn0;have hc0:L.cap-0=0:=by omega
  rw[hc0];simp only[Option.map_none,List.take_zero];exact .nil _ _ _ e2
 | some b =>
  rw[hb]at e6;obtain⟨C,hC,hCs,hcell⟩:=e6;have hlen:(o.es.take n).length=n:=by simp;omega
  have hidx:∀ (k:Nat) e,(o.es.take n)[k]? =some e->o.es[k]? =some e:=by
   intro k e he;rw[List.getElem?_take]at he;split at he
   ·exact he
   ·cases he
  have:=Bp.row (F:=F) (w:=w) (λb'=>some b=some b') o.s o.ty (o.es.take n) b L.cap C (λ_ _ _=>False) (λi j=>(C[i*o.s+j]?).getD undef) e2 (by rw[hlen];omega) (by simpa[hvar]using e4) (λe he=>e5 e (aAl he)) hC hCs rfl
   (λi j e d he hd=>by
    obtain⟨y,y1,y2,y3⟩:=hcell i j e d (hidx i e he) hd;rw[hvar]at y3;rw[y1]
    exact⟨rfl,y2,by simpa using y3⟩)
   (λi j e s' ty' es' he hj=>by
    have:=aAK.1 (hp e (aAB (hidx i e he))) _ (aAB hj)
    cases this)
   (λi j e nm u n' he hj=>by
    have:=aAK.1 (hp e (aAB (hidx i e he))) _ (aAB hj)
    cases this)
   (λ_ _ _ h=>h.elim) (λ_ _ _ _ _ h=>h.elim)
  rw[hlen]at this;simpa using this
theorem Nj (h:Sim N w0 F0 M B0 σ F β a w) {var:Bool} {d:D} {x:Value} (hx:Cel F β d x) (hc:((Bs var d).run σ).1) :
  cells ((Bs var d).run σ).2.1=[((Bs var d).run σ).2.1]/\(if var then Cel F β ((Bs var d).run σ).2.1 x else Fro F ((Bs var d).run σ).2.1 x)/\(∀ nm u n,((Bs var d).run σ).2.1≠ .hole nm u n) /\
   ((((Bs var d).run σ).2.2=[]/\∀ s ty es,((Bs var d).run σ).2.1≠ .row s ty es)\/∃ g v o L,((Bs var d).run σ).2.2=[(g,none)]/\σ.go g=some (v,o)/\o.fz=false/\β v=some L/\∀ s ty es,((Bs var d).run σ).2.1= .row s ty es->Bp F w (λb=>L.b=some b) s ty es x):=by
 have easy:∀ d:D,Bs var d= .ret (True,d,[])->cells d=[d]->(∀ nm u n,d≠ .hole nm u n)->(∀ s ty es,d≠ .row s ty es)->Cel F β d x->Fro F d x->cells ((Bs var d).run σ).2.1=[((Bs var d).run σ).2.1]/\(if var then Cel F β ((Bs var d).run σ).2.1 x else Fro F ((Bs var d).run σ).2.1 x)/\(∀ nm u n,((Bs var d).run σ).2.1≠ .hole nm u n) /\
   ((((Bs var d).run σ).2.2=[]/\∀ s ty es,((Bs var d).run σ).2.1≠ .row s ty es)\/∃ g v o L,((Bs var d).run σ).2.2=[(g,none)]/\σ.go g=some (v,o)/\o.fz=false/\β v=some L/\∀ s ty es,((Bs var d).run σ).2.1= .row s ty es->Bp F w (λb=>L.b=some b) s ty es x):=by
  intro d e1 e2 e3 e4 e5 e6;rw[e1];refine⟨e2,?_,e3,.inl ⟨rfl,e4⟩⟩;split
  ·exact e5
  ·exact e6
 cases d with
 | osl g v i n =>
  cases i with
  | succ i=>exact hc.elim
  | zero =>
   simp only[Bs,R.run]at hc ⊢;cases hg:σ.go g with
   | none=>rw[hg]at hc;exact hc.elim
   | some p =>
    obtain⟨v',o⟩:=p;rw[hg]at hc;simp only at hc ⊢;have hx':Ref F β (.osl g v 0 n) x:=hx;obtain⟨L,A,hL,hxe,hcap,hA,hpos⟩:=hx
    by_cases hfz:o.fz=true
    ·rw[if_pos hfz]at hc ⊢;simp only[R.run]at hc ⊢;obtain⟨rfl,hvar,hn⟩:=hc;obtain⟨L',hL',hz,_⟩:=h.own g v o hg;rw[hL]at hL';cases hL';have:=GB (hz hfz) (i:=0) (n:=n) (c:=L.cap-0) (a:=A) (by simpa using hn) (by simpa using hcap) (by simpa using hpos) (by omega)
     rw[hxe];have hf:Fro F (.sl (o.es.take n)) (.slice A n (L.cap-0)):=by simpa using this
     refine⟨rfl,?_,λnm u n e=>(by cases e),.inl ⟨trivial,λs ty es e=>by cases e⟩⟩
     split
     ·exact Cel.Ae hf
     ·exact hf
    ·have hfz':o.fz=false:=by simpa using hfz
     rw[if_neg hfz]at hc ⊢;simp only[R.run]at hc ⊢;obtain⟨rfl,hvar,hn,hp⟩:=hc;obtain⟨L',hL',_,hk⟩:=h.own g v o hg;rw[hL]at hL';cases hL';refine⟨rfl,?_,λnm u n e=>(by cases e),.inr ⟨g,v,o,L,rfl,hg,hfz',hL,λs ty es e=>?_⟩⟩
     ·split
      ·exact Cel.Ae (.row _ _ _ _)
      ·exact .row _ _ _ _
     ·cases e;exact LF (hk hfz') hvar hx' hL hn hp
 | top=>exact hc.elim
 | row=>exact hc.elim
 | hole=>exact hc.elim
 | when=>exact hc.elim
 | vsl=>exact hc.elim
 | tup=>exact hc.elim
 | agg=>exact hc.elim
 | optr g v i off =>
  have hv:var=true:=hc;subst hv;exact⟨rfl,hx,λnm u n e=>(by cases e),.inl ⟨rfl,λs ty es e=>by cases e⟩⟩
 | mref g v =>
  have hv:var=true:=hc;subst hv;exact⟨rfl,hx,λnm u n e=>(by cases e),.inl ⟨rfl,λs ty es e=>by cases e⟩⟩
 | clo f caps =>
  have hv:var=true:=hc;subst hv;exact⟨rfl,hx,λnm u n e=>(by cases e),.inl ⟨rfl,λs ty es e=>by cases e⟩⟩
 | int k n=>exact easy _ rfl rfl (λ_ _ _ e=>by cases e) (λ_ _ _ e=>by cases e) hx hx
 | bool b=>exact easy _ rfl rfl (λ_ _ _ e=>by cases e) (λ_ _ _ e=>by cases e) hx hx
 | str b=>exact easy _ rfl rfl (λ_ _ _ e=>by cases e) (λ_ _ _ e=>by cases e) hx hx
 | sl b=>exact easy _ rfl rfl (λ_ _ _ e=>by cases e) (λ_ _ _ e=>by cases e) hx hx
 | nils=>exact easy _ rfl rfl (λ_ _ _ e=>by cases e) (λ_ _ _ e=>by cases e) hx hx
 | fptr b off=>exact easy _ rfl rfl (λ_ _ _ e=>by cases e) (λ_ _ _ e=>by cases e) hx hx
 | nilf=>exact easy _ rfl rfl (λ_ _ _ e=>by cases e) (λ_ _ _ e=>by cases e) hx hx
 | ifc t d=>exact easy _ rfl rfl (λ_ _ _ e=>by cases e) (λ_ _ _ e=>by cases e) hx hx
 | nilp=>exact easy _ rfl rfl (λ_ _ _ e=>by cases e) (λ_ _ _ e=>by cases e) hx hx
theorem IF (h:Sim N w0 F0 M B0 σ F β a w) {var:Bool}:∀ (cs:List D) (X:Nat->Option Value),(∀ (j:Nat) c,cs[j]? =some c->∃ x,X j=some x/\x.oneCell'=true/\Cel F β c x)->((AF var cs).run σ).1 ->
  ((AF var cs).run σ).2.1.length=cs.length/\(∀ c'∈((AF var cs).run σ).2.1,cells c'=[c'])/\(∀ p∈((AF var cs).run σ).2.2,p.2=none) /\
   (∀ (j:Nat) c',((AF var cs).run σ).2.1[j]? =some c'->∃ x,X j=some x/\x.oneCell'=true/\(if var then Cel F β c' x else Fro F c' x))/\(∀ (j nm u n:Nat),((AF var cs).run σ).2.1[j]? ≠some (.hole nm u n)) /\
   ∃ G:Nat->Option Nat,(∀ j g',G j=some g'->(g',none)∈((AF var cs).run σ).2.2/\∃ v' o' L',σ.go g'=some (v',o')/\o'.fz=false/\β v'=some L')/\(∀ j j' g',G j=some g'->G j'=some g'->j=j') /\
    (∀ (j s ty:Nat) es,((AF var cs).run σ).2.1[j]? =some (.row s ty es)->∀ x,X j=some x->∃ g' v' o' L',G j=some g'/\σ.go g'=some (v',o')/\o'.fz=false/\β v'=some L'/\Bp F w (λb=>L'.b=some b) s ty es x)
 | [],X,_,_=>by
  refine⟨rfl,λc' hc'=>by simp[AF]at hc',λp hp=>by simp[AF]at hp,λj c' hj=>by simp[AF]at hj,λj nm u n hj=>by simp[AF]at hj,λ_=>none,λj g' e=>(by cases e),λj j' g' e=>(by cases e),λj s ty es hj=>by simp[AF]at hj⟩
 | d::cs,X,hX,hc=>by
  simp only[AF,R.run_bind,R.run_pure]at hc ⊢;obtain⟨c1,c2,c3⟩:=hc;obtain⟨x,x1,x2,x3⟩:=hX 0 d rfl;obtain⟨k1,k2,k3,k4⟩:=Nj h x3 c1;obtain⟨q1,q2,q3,q4,q5,G,q6,q7,q8⟩:=IF h cs (λj=>X (j+1)) (λj c hj=>hX (j+1) c (by simpa using hj)) c2
  have hnone:∀ p∈((Bs var d).run σ).2.2,p.2=none:=by
   intro p hp;rcases k4 with⟨k4,_⟩|⟨g,v,o,L,k4,_⟩
   ·rw[k4]at hp;cases hp
   ·rw[k4]at hp;simp at hp;subst hp;rfl
  refine⟨by simp[q1],λc' hc'=>?_,λp hp=>?_,λj c' hj=>?_,λj nm u n hj=>?_,?_⟩
  ·rcases List.mem_cons.1 hc' with rfl|hc'
   ·exact k1
   ·exact q2 c' hc'
  ·rcases aAJ.1 hp with hp|hp
   ·exact hnone p hp
   ·exact q3 p hp
  ·rcases j with _|j
   ·simp only[aAM,Option.some.injEq]at hj;subst hj;exact⟨x,x1,x2,k2⟩
   ·simp only[aAP]at hj;exact q4 j c' hj
  ·rcases j with _|j
   ·simp only[aAM,Option.some.injEq]at hj;exact k3 nm u n hj
   ·simp only[aAP]at hj;exact q5 j nm u n hj
  ·rcases k4 with⟨k4,k5⟩|⟨g,v,o,L,k4,k5,k6,k7,k8⟩
   ·refine⟨λj=>match j with|0=>none|j+1=>G j,λj g' hj=>?_,λj j' g' hj hj'=>?_,λj s ty es hj y hy=>?_⟩
    ·rcases j with _|j
     ·cases hj
     ·obtain⟨z1,z2⟩:=q6 j g' hj;exact⟨aAJ.2 (.inr z1),z2⟩
    ·rcases j with _|j
     ·cases hj
     ·rcases j' with _|j'
      ·cases hj'
      ·rw[q7 j j' g' hj hj']
    ·rcases j with _|j
     ·simp only[aAM,Option.some.injEq]at hj;exact(k5 s ty es hj).elim
     ·simp only[aAP]at hj;exact q8 j s ty es hj y hy
   ·have hdis:∀ j,G j≠some g:=by
     intro j hj;obtain⟨z1,_⟩:=q6 j g hj;have:=aAK.1 c3 _ z1;rw[k4]at this;simp at this
    refine⟨λj=>match j with|0=>some g|j+1=>G j,λj g' hj=>?_,λj j' g' hj hj'=>?_,λj s ty es hj y hy=>?_⟩
    ·rcases j with _|j
     ·cases hj;exact⟨aAJ.2 (.inl (by rw[k4];simp)),v,o,L,k5,k6,k7⟩
     ·obtain⟨z1,z2⟩:=q6 j g' hj;exact⟨aAJ.2 (.inr z1),z2⟩
    ·rcases j with _|j
     ·rcases j' with _|j'
      ·rfl
      ·cases hj;exact(hdis j' hj').elim
     ·rcases j' with _|j'
      ·cases hj';exact(hdis j hj).elim
      ·rw[q7 j j' g' hj hj']
    ·rcases j with _|j
     ·simp only[aAM,Option.some.injEq]at hj;rw[x1]at hy;cases hy;exact⟨g,v,o,L,rfl,k5,k6,k7,k8 s ty es hj⟩
     ·simp only[aAP]at hj;exact q8 j s ty es hj y hy
theorem KN (h:Sim N w0 F0 M B0 σ F β a w) {g v i off n:Nat} {o:Own} (hg:σ.go g=some (v,o)) (hr:Ac g=true) (hfz:o.fz=false) (hi:i<o.es.length) {d:D} {x px:Value}
  (hpx:Val F β (.optr g v i off) px) (hx:Val F β d x) (hk:known d=true) (hc:((AF o.var (cells d)).run σ).1) (hn:(cells d).length=n) (hle:off+n<=(cells (o.es.getD i .top)).length) (hng:((AF o.var (cells d)).run σ).2.2.all (λx=>x.1 != g)=true)
  (t:TypeId) (hti:P.info? t≠none) (htn:n=P.cellsOf t) (hnpos:0<n) (c:Prop) :
  ∃ w',(Instr.storeAt t px x).run P w= .ok () w'/\Sim N w0 F0 M B0 (σ.app ⟨c,[],(g,some (v,{ o with es:=o.es.set i (Qu (o.es.getD i .top) off ((AF o.var (cells d)).run σ).2.1) }))::((AF o.var (cells d)).run σ).2.2⟩) F β a w':=by
 obtain⟨x1,x2,x3⟩:=CT hx hk;obtain⟨q1,q2,q3,q4,q5,G,q6,q7,q8⟩:=IF h (cells d) (λj=>x.cells[j]?) x3 hc
 generalize((AF o.var (cells d)).run σ).2.1=cs at *;generalize((AF o.var (cells d)).run σ).2.2=ws at *;refine Im h hg hfz hi hpx (by rw[x1,hn]) x2 (by rw[q1,hn]) q2 q4 hle t hti htn hnpos c q3 λφ L b C C' hφ hL hb hLs hC hCz hC1 hC2=>?_
 have hget:o.es[i]? =some (o.es.getD i .top):=by simp[hi]
 have hcl:cs.length=n:=by rw[q1,hn]
 have hsetE:=ED (e:=o.es.getD i .top) (off:=off) (new:=cs) (by rw[hcl];exact hle) q2 (.inl (by omega))
 obtain⟨sa1,sa2⟩:=Ea cs (cells (o.es.getD i .top)) off;obtain⟨og,hog⟩:∃ og:Own,og={ o with es:=o.es.set i (Qu (o.es.getD i .top) off cs) }:=⟨_,rfl⟩
 obtain⟨og1,og2,og3,og4⟩:og.fz=false/\og.var=o.var/\og.s=o.s/\og.ty=o.ty:=by subst hog;exact⟨hfz,rfl,rfl,rfl⟩
 obtain⟨L',hL',_,hkk⟩:=h.own g v o hg;rw[hL]at hL';cases hL';obtain⟨e1,e2,e3,e4,e5,e6⟩:=hkk hfz;have hogc:∀ (i' j':Nat) e d',og.es[i']? =some e->(cells e)[j']? =some d'->(i'=i/\off<=j'/\j'<off+n/\cs[j'-off]? =some d')\/(¬ (i'=i/\off<=j'/\j'<off+n)/\j'<o.s/\∃ e',o.es[i']? =some e'/\(cells e')[j']? =some d'):=by
  intro i' j' e d' he hd;subst hog;simp only at he
  by_cases hii:i'=i
  ·subst hii;rw[aAQ hi]at he;cases he;rw[hsetE,sa2,hcl]at hd;split at hd
   ·rename_i hcond;exact .inl ⟨rfl,hcond.1,hcond.2.1,hd⟩
   ·rename_i hcond;have hlt:=(aAC.1 hd).1;exact .inr ⟨λe=>hcond ⟨e.2.1,e.2.2,hlt⟩,by rw[<- e5 _ (aAB hget)];exact hlt,_,hget,hd⟩
  ·rw[aAk (λe=>hii e.symm)]at he
   exact .inr ⟨λe=>hii e.1,by rw[<- e5 e (aAB he)];exact(aAC.1 hd).1,e,he,hd⟩
 have hnew:∀ j',off<=j'->j'<off+n->C'[i*o.s+j']? =x.cells[j'-off]?:=by
  intro j' h1 h2;rw[<- hC1 (j'-off) (by omega)]
  congr 1;omega
 have hoff:off+n<=o.s:=by rw[<- e5 _ (aAB hget)];exact hle
 have hold:∀ i' j',j'<o.s->¬ (i'=i/\off<=j'/\j'<off+n)->C'[i'*o.s+j']? =C[i'*o.s+j']?:=by
  intro i' j' hj hn';refine hC2 _ ?_;rcases aAq i' i with h1|h1|h1
  ·have:(i'+1)*o.s<=i*o.s:=aAW _ h1;rw[Nat.add_mul]at this;omega
  ·subst h1;omega
  ·have:(i+1)*o.s<=i'*o.s:=aAW _ h1;rw[Nat.add_mul]at this;omega
 have hsz:(w.setRow b C').heap.size=w.heap.size:=by simp[World.setRow]
 rw[<- hog];have hgo:∀ g' v' o',(σ.app ⟨c,[],(g,some (v,og))::ws⟩).go g'=some (v',o')->(g'=g/\v'=v/\o'=og)\/(g'≠g/\σ.go g'=some (v',o')/\∀ y,(g',y)∉ws):=by
  intro g' v' o' hg';rw[S.Cs]at hg';simp only[look]at hg'
  by_cases h1:g'=g
  ·rw[if_pos h1]at hg';cases hg';exact .inl ⟨h1,rfl,rfl⟩
  ·rw[if_neg h1]at hg';cases hl:look ws g' with
   | some y =>
    rw[hl]at hg';have:=q3 _ (Bi hl);simp only at this hg';rw[this]at hg';cases hg'
   | none =>
    rw[hl]at hg';exact .inr ⟨h1,hg',Fu hl⟩
 let K:Nat->Nat->Prop:=λj b'=>∃ g' v' o' L',G j=some g'/\σ.go g'=some (v',o')/\o'.fz=false/\β v'=some L'/\L'.b=some b'
 have hGg:∀ j,G j≠some g:=by
  intro j hj;obtain⟨z1,_⟩:=q6 j g hj;have:=aAK.1 hng _ z1;simp at this
 have hKb:∀ j b',K j b'->b'≠b:=by
  rintro j b' ⟨g',v',o',L',k1,k2,k3,k4,k5⟩ rfl;have:=h.dist g' g v' v o' o L' L b' k2 hg k3 hfz k4 hL k5 hb;subst this;exact hGg j k1
 let φ':Nat->Nat->Nat->Nat->Prop:=λg1 i1 j1 b'=>(g1=g/\i1=i/\off<=j1/\j1<off+n/\K (j1-off) b')\/(¬ (g1=g/\i1=i/\off<=j1/\j1<off+n)/\φ g1 i1 j1 b')
 have hφb:∀ g1 i1 j1 b',φ g1 i1 j1 b'->b'≠b:=by
  rintro g1 i1 j1 b' hb' rfl;exact hφ.sep g1 i1 j1 b' g v o L hb' hg hfz hL hb
 refine⟨φ',?_,?_,?_,?_,?_,?_,?_⟩
 ·intro g' v' o' L' b' C'' i' j' e y s' ty' es' hr' hg' hf' hL' hb' hC'' he hj hy;rcases hgo g' v' o' hg' with⟨rfl,rfl,rfl⟩|⟨k1,k2,_⟩
  ·rw[hL]at hL';cases hL';rw[hb]at hb';cases hb';have:C''=C':=by
    have h1:=setRow_heap w b C C' o.ty (0,0) hC;rw[og4]at hC'';rw[h1]at hC'';cases hC'';rfl
   subst this;rw[og3]at hy;rcases hogc i' j' e _ he hj with⟨rfl,z1,z2,z3⟩|⟨z0,z1,e',z2,z3⟩
   ·rw[hnew j' z1 z2]at hy;obtain⟨g2,v2,o2,L2,y1,y2,y3,y4,y5⟩:=q8 _ s' ty' es' z3 y hy;refine y5.keep (Ag.refl _) (λb2 hb2=>setRow_other w b b2 C'' (hKb _ b2 ⟨g2,v2,o2,L2,y1,y2,y3,y4,hb2⟩)) (λb2 hb2=>.inl ⟨rfl,rfl,z1,z2,g2,v2,o2,L2,y1,y2,y3,y4,hb2⟩)
   ·rw[hold i' j' z1 z0]at hy;exact(hφ.row g' v' o L b C i' j' e' y s' ty' es' hr' hg hfz hL hb hC z2 z3 hy).keep (Ag.refl _) (λb2 hb2=>setRow_other w b b2 C'' (hφb _ _ _ b2 hb2)) (λb2 hb2=>.inr ⟨λe=>z0 e.2,hb2⟩)
  ·have hbb:b'≠b:=by
    rintro rfl;exact k1 (h.dist g' g v' v o' o L' L b' k2 hg hf' hfz hL' hL hb' hb)
   rw[setRow_other w b b' C' hbb]at hC'';exact(hφ.row g' v' o' L' b' C'' i' j' e y s' ty' es' hr' k2 hf' hL' hb' hC'' he hj hy).keep (Ag.refl _) (λb2 hb2=>setRow_other w b b2 C' (hφb _ _ _ b2 hb2)) (λb2 hb2=>.inr ⟨λe=>k1 e.1,hb2⟩)
 ·intro g' v' o' L' b' C'' i' j' e y nm u n' hr' hg' hf' hL' hb' hC'' he hj hy;rcases hgo g' v' o' hg' with⟨rfl,rfl,rfl⟩|⟨k1,k2,_⟩
  ·rw[hL]at hL';cases hL';rw[hb]at hb';cases hb';have:C''=C':=by
    have h1:=setRow_heap w b C C' o.ty (0,0) hC;rw[og4]at hC'';rw[h1]at hC'';cases hC'';rfl
   subst this;rw[og3]at hy;rcases hogc i' j' e _ he hj with⟨rfl,z1,z2,z3⟩|⟨z0,z1,e',z2,z3⟩
   ·exact(q5 _ _ u n' z3).elim
   ·rw[hold i' j' z1 z0]at hy;exact hφ.hole g' v' o L b C i' j' e' y _ u n' hr' hg hfz hL hb hC z2 z3 hy
  ·have hbb:b'≠b:=by
    rintro rfl;exact k1 (h.dist g' g v' v o' o L' L b' k2 hg hf' hfz hL' hL hb' hb)
   rw[setRow_other w b b' C' hbb]at hC'';exact hφ.hole g' v' o' L' b' C'' i' j' e y _ u n' hr' k2 hf' hL' hb' hC'' he hj hy
 ·rintro g1 i1 j1 b' (⟨_,_,_,_,g',v',o',L',_,k2,k3,k4,k5⟩|⟨_,hb'⟩)
  ·exact(h.sep g' v' o' L' b' k2 k3 k4 k5).1
  ·exact hφ.none_ g1 i1 j1 b' hb'
 ·rintro g1 i1 j1 b' (⟨_,_,_,_,g',v',o',L',_,k2,k3,k4,k5⟩|⟨_,hb'⟩)
  ·rw[hsz];exact(h.sep g' v' o' L' b' k2 k3 k4 k5).2.1
  ·rw[hsz];exact hφ.lt g1 i1 j1 b' hb'
 ·rintro g1 i1 j1 b' (⟨_,_,_,_,g',v',o',L',_,k2,k3,k4,k5⟩|⟨_,hb'⟩)
  ·exact(h.sep g' v' o' L' b' k2 k3 k4 k5).2.2.imp id And.left
  ·exact hφ.new g1 i1 j1 b' hb'
 ·intro g1 i1 j1 b' g2 v2 o2 L2 hb' hg2 hf2 hL2 hLb;rcases hgo g2 v2 o2 hg2 with⟨rfl,rfl,rfl⟩|⟨k1,k2,k3⟩
  ·rw[hL]at hL2;cases hL2;rw[hb]at hLb;cases hLb;rcases hb' with⟨_,_,_,_,hK⟩|⟨_,hb'⟩
   ·exact hKb _ _ hK rfl
   ·exact hφb _ _ _ _ hb' rfl
  ·rcases hb' with⟨_,_,_,_,g',v',o',L',y1,y2,y3,y4,y5⟩|⟨_,hb'⟩
   ·have:=h.dist g' g2 v' v2 o' o2 L' L2 b' y2 k2 y3 hf2 y4 hL2 y5 hLb;subst this;exact k3 _ (q6 _ _ y1).1
   ·exact hφ.sep g1 i1 j1 b' g2 v2 o2 L2 hb' k2 hf2 hL2 hLb
 ·rintro g1 i1 j1 g2 i2 j2 b' (⟨rfl,rfl,z1,z2,g',v',o',L',y1,y2,y3,y4,y5⟩|⟨n1,h1⟩) (⟨rfl,rfl,z1',z2',g'',v'',o'',L'',y1',y2',y3',y4',y5'⟩|⟨n2,h2⟩)
  ·have:=h.dist g' g'' v' v'' o' o'' L' L'' b' y2 y2' y3 y3' y4 y4' y5 y5';subst this;have:=q7 _ _ _ y1 y1';exact⟨rfl,rfl,by omega⟩
  ·exact(hφ.sep g2 i2 j2 b' g' v' o' L' h2 y2 y3 y4 y5).elim
  ·exact(hφ.sep g1 i1 j1 b' g'' v'' o'' L'' h1 y2' y3' y4' y5').elim
  ·exact hφ.dis g1 i1 j1 g2 i2 j2 b' h1 h2
end
section
variable {N:Nat} {w0:World} {F0:Fz} {M:Nat->Prop} {B0:Bt} {σ:S} {F:Fz} {β:Bt} {a:Act} {w:World} {P:Program}
theorem DA {t:TypeId} {d:TypeDesc} (h:P.underlying t=some d):P.info? t≠none:=by
 grind [Program.underlying]
theorem Fb {t:TypeId} (h:0<P.cellsOf t):P.info? t≠none:=by
 grind [aAL]
theorem DU {t:TypeId} (h:CG P t=true):(P.underlying t).isSome=true:=by
 grind [CG]
theorem NO {Γ:Aq} (h:Sim N w0 F0 M B0 σ F β a w) {nv:Nat} (hnv:β nv=none) {o:Oper} {t:Nat} (hdst:o.dst=some t) (ht:t<N) (htr:Ac t=false) {e:TypeId} (ho:o.op= .alloc e) {z:D} (hz:Cf P e=some z) (hs:0<P.cellsOf e) :
  Snd P N w0 F0 M B0 σ β a w o nv ((evalOp Γ nv o.dst (.new z (P.cellsOf e) e)).run σ):=by
 obtain⟨i,zv,hi,hzv,hone,hsz,rfl⟩:=Cy hz;obtain⟨c1,c2,c3⟩:=Cz (F:=F) zv hone;intro K Q hK;have hrun:(execOp a.eval o).run P w= .ok (.value (.pointer (some ⟨w.heap.size,0,none⟩))) (w.alloc (.cells zv.cells e)):=by
  simp_all[execOp,Instr.alloc,zeroValue,typeInfo,newVar,newRow]
 unfold Oper.wp;rw[hrun];simp only[evalOp,R.run,Oper.upon,hdst,aAE]at hK ⊢;refine hK _ _ _ _ (h.alloc (nv:=nv) (t:=t) (tt:=t) hnv ht (C:=zv.cells) (o:=⟨false,true,P.cellsOf e,e,[Bo zv]⟩) (cap:=1) (d:=.optr t nv 0 0) (v:=.pointer (some ⟨w.heap.size,0,none⟩)) (w1:=w) rfl rfl rfl rfl rfl (λhr=>by simp_all) ?_ ?_) (AZ _ hnv) (λv hv=>Ca _ _ hv)
 ·exact Ax.HO (w1:=w) hs hsz (by rw[c1,hsz]) (λj c hj=>by
   obtain⟨x,x1,x2,x3⟩:=c3 j c hj
   grind [Cel.Ae])
 ·exact⟨_,w.heap.size,Aj _ _ _,rfl,by simp⟩
theorem NL {Γ:Aq} (h:Sim N w0 F0 M B0 σ F β a w) {nv:Nat} (hnv:β nv=none) {o:Oper} {t:Nat} (hdst:o.dst=some t) (ht:t<N) (htr:Ac t=false) {e:TypeId} {x:Operand} (ho:o.op= .box e x) {y:Arg} (hy:Ai x=some y) (hs:0<P.cellsOf e)
  (hc:((evalOp Γ nv o.dst (.box y (P.cellsOf e) e)).run σ).c):Snd P N w0 F0 M B0 σ β a w o nv ((evalOp Γ nv o.dst (.box y (P.cellsOf e) e)).run σ):=by
 have hv:=λhp=>At h hy hp
 simp only[evalOp,R.run_bind,R.run_pure,hdst,aAE]at hc ⊢;generalize((rdA y).run σ).2=d at *;generalize((rdA y).run σ).1=p at *;obtain⟨hp,hk,hl⟩:=hc;have hvx:=hv hp;obtain⟨x1,x2,x3⟩:=CT hvx hk;intro K Q hK;have hrun:(execOp a.eval o).run P w= .ok (.value (.pointer (some ⟨w.heap.size,0,none⟩))) (w.alloc (.cells (a.eval x).cells e)):=by
  simp_all[execOp,Instr.box,newVar,newRow]
 unfold Oper.wp;rw[hrun];simp only[Oper.upon,hdst]at hK ⊢;refine hK _ _ _ _ (h.alloc (nv:=nv) (t:=t) (tt:=t) hnv ht (C:=(a.eval x).cells) (o:=⟨false,true,P.cellsOf e,e,[d]⟩) (cap:=1) (d:=.optr t nv 0 0) (v:=.pointer (some ⟨w.heap.size,0,none⟩)) (w1:=w) rfl rfl rfl rfl rfl (λhr=>by simp_all) ?_ ?_) (AZ _ hnv) (λv hv=>Ca _ _ hv)
 ·exact Ax.HO (w1:=w) hs (by rw[x1,hl]) hl (λj c hj=>by
   obtain⟨v,v1,v2,v3⟩:=x3 j c hj
   exact⟨v,by simp_all,v2,v3.mono (Ag.refl _) (AZ _ hnv)⟩)
 ·exact⟨_,w.heap.size,Aj _ _ _,rfl,by simp⟩
theorem NN {Γ:Aq} (h:Sim N w0 F0 M B0 σ F β a w) {nv:Nat} (hnv:β nv=none) {o:Oper} {t:Nat} (hdst:o.dst=some t) (ht:t<N) (htr:Ac t=false) {tt e:TypeId} {xl xc:Operand} (ho:o.op= .makeSlice tt xl xc) (hu:P.underlying tt=some (.slice e)) {z:D} (hz:Cf P e=some z) (hs:0<P.cellsOf e)
  {yl yc:Arg} (hyl:Ai xl=some yl) (hyc:Ai xc=some yc)
  (hc:((evalOp Γ nv o.dst (.mkS (P.cellsOf e) e (P.bytesOf e) (GJ z) yl yc)).run σ).c):Snd P N w0 F0 M B0 σ β a w o nv ((evalOp Γ nv o.dst (.mkS (P.cellsOf e) e (P.bytesOf e) (GJ z) yl yc)).run σ):=by
 obtain⟨i,zv,hi,hzv,hone,hsz,rfl⟩:=Cy hz;have hraw:GJ (Bo zv)=Bo zv\/GJ (Bo zv)=nrm (Bo zv):=by grind [GJ]
 have hbi:P.bytesOf e=i.bytes:=by grind [Program.bytesOf]
 have hsi:P.cellsOf e=i.size:=by grind [aAL]
 have hvl:=λhp=>At h hyl hp
 have hvc:=λhp=>At h hyc hp
 simp only[evalOp,R.run_bind,hdst,aAE]at hc ⊢;generalize((rdA yl).run σ).2=dl at *;generalize((rdA yl).run σ).1=pl at *;generalize((rdA yc).run σ).2=dc at *;generalize((rdA yc).run σ).1=pc at *;split at hc
 ·rename_i kl l kc c;simp only[R.run_pure]at hc ⊢;obtain⟨h1,h2,h3,h4,h5,h6⟩:=hc;have e1:=AE (hvl h1);have e2:=AE (hvc h2);have hbytes:(i.bytes:Int)*c<=281474976710656:=by
   have:i.bytes*c.toNat<=65536*16777216:=Nat.mul_le_mul (by omega) (by omega)
   grind
  have hmk:=run_make (P:=P) w tt e i zv hu hi hzv kl kc l c h3 h4 hbytes (by omega)
  intro K Q hK;have hrun:(execOp a.eval o).run P w= .ok (.value (.slice (some ⟨w.heap.size,0,none⟩) l.toNat c.toNat)) (w.alloc (.cells (madeCells zv.cells (c.toNat*i.size)) e)):=by
   simp_all[execOp]
  unfold Oper.wp;rw[hrun];simp only[Oper.upon,hdst]at hK ⊢;refine hK _ _ _ _ (h.alloc (nv:=nv) (t:=t) (tt:=t) hnv ht (C:=madeCells zv.cells (c.toNat*i.size)) (o:=⟨false,false,P.cellsOf e,e,aAX l.toNat (GJ (Bo zv))⟩) (cap:=c.toNat) (d:=.osl t nv 0 l.toNat) (v:=.slice (some ⟨w.heap.size,0,none⟩) l.toNat c.toNat) (w1:=w) rfl rfl rfl rfl rfl (λhr=>by simp_all) ?_ ?_) (AZ _ hnv) (λv hv=>Ca _ _ hv)
  ·refine Ax.JY (w1:=w) hs (by rw[size_madeCells,hsi]) (by simp;omega) (by simp only[maxLen];omega) (λq hq=>?_) ?_
   ·rw[List.mem_replicate]at hq;rcases hraw with e|e
    ·rw[hq.2,e,(Cz (F:=F) zv hone).1,hsz]
    grind [El]
   ·rcases hraw with e|e
    ·rw[e];exact GQ hone hsz hs (by rw[hsi];exact aAW _ (by omega))
    ·rw[e];exact Ip hone hsz hs (by rw[hsi];exact aAW _ (by omega))
  ·exact⟨_,_,Aj _ _ _,rfl,by simp;omega,λ_=>rfl,λ_=>⟨_,rfl,by simp⟩⟩
 simp_all
theorem Mv {Γ:Aq} (h:Sim N w0 F0 M B0 σ F β a w) {nv:Nat} (hnv:β nv=none) {o:Oper} {t:Nat} (hdst:o.dst=some t) (ht:t<N) (htr:Ac t=false) {tt e:TypeId} {len:Nat} {parts:Array (Nat×Operand)} (ho:o.op= .buildSlice tt len parts) (hu:P.underlying tt=some (.slice e)) {z:D} (hz:Cf P e=some z) (hs:0<P.cellsOf e) (hlen:len*P.cellsOf e<=16777216)
  {ps:List (Nat×Arg)} (hps:Ej parts.toList=some ps)
  (hc:((evalOp Γ nv o.dst (.bldS (P.cellsOf e) e (nrm z) len ps)).run σ).c):Snd P N w0 F0 M B0 σ β a w o nv ((evalOp Γ nv o.dst (.bldS (P.cellsOf e) e (nrm z) len ps)).run σ):=by
 obtain⟨i,zv,hi,hzv,hone,hsz,rfl⟩:=Cy hz;have hsi:P.cellsOf e=i.size:=by grind [aAL]
 have hel:=λhc=>Hn h parts.toList ps hps hc
 simp only[evalOp,R.run_bind,R.run_pure,hdst,aAE]at hc ⊢;generalize((AV ps).run σ).2.1=rs at *;generalize((AV ps).run σ).2.2=ws at *;obtain⟨h1,h2⟩:=hc;obtain⟨f1,l1,r1⟩:=hel h1;obtain⟨F1,hF1,hS1,_⟩:=h.freeze f1;have hp:=r1 ws F1 f1 (λ_ hp=>hp) hF1 hS1
 obtain⟨C',g1,g2,g3,g4,g5⟩:=IJ (F:=F1) hs (parts.toList.map λp=>(p.1,a.eval p.2)) rs (aAX len (nrm (Bo zv))) (madeCells zv.cells (len*P.cellsOf e))
  (by simp[size_madeCells]) (λq hq=>by grind [El]) (Ip hone hsz hs (aAF _))
  (λp hp=>by grind) (by simp[l1]) hp
 rw[size_madeCells]at g2;simp only[aAj]at g3;intro K Q hK;have hrun:(execOp a.eval o).run P w= .ok (.value (.slice (some ⟨w.heap.size,0,none⟩) len len)) (w.alloc (.cells C' e)):=by
  unfold execOp;rw[ho];have hmap:(parts.map λ(i,x)=>(i,a.eval x)).toList=parts.toList.map λp=>(p.1,a.eval p.2):=by simp
  by_cases h0:len*i.size=0
  ·have hnot:¬ 16777216<len*i.size:=by omega
   have hmade:madeCells zv.cells (len*P.cellsOf e)= #[]:=by grind [madeCells]
   rw[hmade,hsi]at g1;have hpl:∀ p∈rs,False:=by
    intro p hp';have:=(h2 p hp').2.2;have:len=0:=by
     rcases Nat.eq_zero_or_pos len with hl|hl
     ·exact hl
     ·have:=Nat.mul_pos hl (by omega:0<i.size)
      omega
    omega
   have hrs:rs=[]:=aAR.2 hpl;have hparts:parts= #[]:=by
    grind
   subst hparts;simp only[List.map_nil,Instr.fill,Option.some.injEq]at g1;subst g1;simp[Instr.buildSlice,run_underlying hu,sizeOf,typeInfo,hi,h0,Instr.fill,newRow,Array.range_zero']
  ·have hb:=run_buildSlice (P:=P) w tt e len (parts.map λ(i,x)=>(i,a.eval x)) C' i zv hu hi hzv (by grind) h0 (by rw[hmap,<- hsi];exact g1)
   simp only[Sem.run_bind,hb,Result.andThen_ok];rfl
 unfold Oper.wp;rw[hrun];simp only[Oper.upon,hdst]at hK ⊢;have hA:=hS1.alloc (nv:=nv) (t:=t) (tt:=t) hnv ht (c:=((AV ps).run σ).1/\∀ p∈rs,known p.2=true/\(cells p.2).length=P.cellsOf e/\p.1<len) (C:=C') (o:=⟨false,false,P.cellsOf e,e,Aav (aAX len (nrm (Bo zv))) rs⟩) (cap:=len) (d:=.osl t nv 0 len) (v:=.slice (some ⟨w.heap.size,0,none⟩) len len) (w1:=w) rfl rfl rfl rfl rfl (λhr=>by grind)
  (Ax.JY (w1:=w) hs g2 (by omega) (by
   have:len<=len*P.cellsOf e:=Nat.le_mul_of_pos_right _ hs
   simp only[maxLen];omega) g4 g5) ⟨_,_,Aj _ _ _,rfl,by simp,λ_=>rfl,λ_=>⟨_,rfl,by simp⟩⟩
 refine hK _ _ F1 (upB β nv ⟨some w.heap.size,len,P.cellsOf e⟩) ?_ (AZ _ hnv) (λv hv=>Ca _ _ hv)
 have e':(σ.app ⟨((AV ps).run σ).1/\∀ p∈rs,known p.2=true/\(cells p.2).length=P.cellsOf e/\p.1<len,Ad (some t) (.osl t nv 0 len),AB (some t) (some (nv,⟨false,false,P.cellsOf e,e,Aav (aAX len (nrm (Bo zv))) rs⟩))++ws⟩)=(S.mk σ.e (ws++σ.o) σ.n).app ⟨((AV ps).run σ).1/\∀ p∈rs,known p.2=true/\(cells p.2).length=P.cellsOf e/\p.1<len,Ad (some t) (.osl t nv 0 len),AB (some t) (some (nv,⟨false,false,P.cellsOf e,e,Aav (aAX len (nrm (Bo zv))) rs⟩))⟩:=by
  simp[S.app]
 grind
theorem NJ {Γ:Aq} (h:Sim N w0 F0 M B0 σ F β a w) {nv:Nat} (hnv:β nv=none) {o:Oper} {t:Nat} (hdst:o.dst=some t) (ht:t<N) (htr:Ac t=false) {tt e:TypeId} {x y:Operand} (ho:o.op= .call { callee:=.builtin .append,args:=#[x,y],argTypes:=#[tt,tt] })
  (hu:P.underlying tt=some (.slice e)) {i:TypeInfo} (hi:P.info? e=some i) {z:D} (hz:Cf P e=some z) (hs:0<P.cellsOf e) (hby:i.bytes<=65536) {ax ay:Arg} (hx:Ai x=some ax) (hy:Ai y=some ay)
  (hc:((evalOp Γ nv o.dst (.app (P.cellsOf e) e i.bytes ax ay)).run σ).c):Snd P N w0 F0 M B0 σ β a w o nv ((evalOp Γ nv o.dst (.app (P.cellsOf e) e i.bytes ax ay)).run σ):=by
 obtain⟨i',zv,hi',hzv,hone,hsz,rfl⟩:=Cy hz;rw[hi]at hi';cases hi';have hsi:P.cellsOf e=i.size:=by grind [aAL]
 have hvx:=λhp=>At h hx hp
 have hvy:=λhp=>At h hy hp
 simp only[evalOp,source,R.run_bind,R.run_pure,hdst,aAE]at hc ⊢;generalize((rdA ax).run σ).2=dx at *;generalize((rdA ax).run σ).1=px at *;generalize((rdA ay).run σ).2=dy at *;generalize((rdA ay).run σ).1=py at *;have hc':=hc;obtain⟨h1,h2,h3,h4,h5,h6,h7,h8⟩:=hc;obtain⟨v',w',β',r1,r2,r3,r4⟩:=KX (P:=P) h hnv ht htr (hvx h1) (hvy h2) (ty:=o.type) hu hi hzv hsi.symm hsz hs hby h3 h4 h5 h7 h8 (px=true/\py=true/\((view dy).run σ).1/\((target (P.cellsOf e) e dx).run σ).1/\((target (P.cellsOf e) e dx).run σ).2.1.length+((view dy).run σ).2.length<=16777216/\i.bytes<=65536/\(∀ q∈((view dy).run σ).2,(cells q).length=P.cellsOf e)/\(((target (P.cellsOf e) e dx).run σ).2.2.2=true->∀ q∈((target (P.cellsOf e) e dx).run σ).2.1++((view dy).run σ).2,Az q=true));intro K Q hK;have hrun:(execOp a.eval o).run P w= .ok (.value v') w':=by
  simp_all[execOp,resolve,invoke,builtin]
 grind [Oper.wp,Oper.upon]
theorem IH {es new:List D} {i n:Nat} (h:i+n<=es.length) (q:Nat):(Aic es i n new)[q]? =if i<=q/\q<i+aAf n new.length then new[q-i]? else es[q]?:=by
 have hm1:aAf n new.length<=n:=Nat.min_le_left _ _;have hi:(es.take i).length=i:=by simp;omega
 have hn:(new.take n).length=aAf n new.length:=by simp_all
 unfold Aic
 grind
theorem Gz {es new:List D} {i n:Nat} {e:D} (h:e∈Aic es i n new):e∈es++new:=by
 grind [Aic]
theorem NM {Γ:Aq} (h:Sim N w0 F0 M B0 σ F β a w) {nv:Nat} {o:Oper} (hd:∀ t,o.dst=some t->t<N) {t u e:TypeId} {x y:Operand} (ho:o.op= .call { callee:=.builtin .copy,args:=#[x,y],argTypes:=#[t,u] })
  (hu:P.underlying t=some (.slice e)) (hi:(P.info? e).map (·.size)=some 1) {ax ay:Arg} (hx:Ai x=some ax) (hy:Ai y=some ay)
  (hc:((evalOp Γ nv o.dst (.cpy ax ay)).run σ).c):Snd P N w0 F0 M B0 σ β a w o nv ((evalOp Γ nv o.dst (.cpy ax ay)).run σ):=by
 have hvx:=λhp=>At h hx hp
 have hvy:=λhp=>At h hy hp
 simp only[evalOp,source,R.run_bind]at hc ⊢;generalize((rdA ax).run σ).2=dx at *;generalize((rdA ax).run σ).1=px at *;generalize((rdA ay).run σ).2=dy at *;generalize((rdA ay).run σ).1=py at *;have hview:=λh1 h2 h3=>HP h (d:=dy) (x:=a.eval y) (hvy h1) h2 (s:=1) h3
 generalize((view dy).run σ).2=new at *;generalize((view dy).run σ).1=cv at *;cases dx<;>try exact hc.elim
 case osl g v i n =>
  simp only[R.Bm]at hc ⊢;cases hg:σ.go g with
  | none=>simp_all
  | some p =>
   obtain⟨v',ow⟩:=p;rw[hg]at hc;simp only[R.AM]at hc ⊢;obtain⟨h1,h2,h3,rfl,h4,h5,h6,h7,h8,h9⟩:=hc;obtain⟨L,A,hL,hxv,hcap,_,hpos⟩:=hvx h1;obtain⟨B,cap2,hyv,hsrc⟩:=hview h2 h3 h8;obtain⟨L',hL',_,hkk⟩:=h.own g v ow hg;rw[hL]at hL';cases hL';have hown:=hkk h4;have hm1:aAf n new.length<=n:=Nat.min_le_left _ _;have hm2:aAf n new.length<=new.length:=Nat.min_le_right _ _;have hpl:Ac g=true->∀ q∈Aic ow.es i n new,Az q=true:=λhr q hq=>h9 hr q (Gz hq)
   have hlen:=Js ow.es i n new;have fin:∀ w',(Builtin.copy_ #[t,u] o.type #[a.eval x,a.eval y]).run P w= .ok (goInt (aAf n new.length:Nat)) w'->w'.os=w.os->w'.tape=w.tape->w'.output=w.output->w.heap.size<=w'.heap.size->(∀ b,b<w.heap.size->L.b≠some b->w'.heap[b]? =w.heap[b]?)->Ax F β w' L { ow with es:=Aic ow.es i n new } ->
     Snd P N w0 F0 M B0 σ β a w o nv ⟨px=true/\py=true/\cv/\v=v/\ow.fz=false/\ow.var=false/\ow.s=1/\i+n<=ow.es.length/\(∀ e∈new,(cells e).length=1)/\(Ac g=true->∀ e∈ow.es++new,Az e=true),Ad o.dst (.int .i64 (aAf n new.length:Nat)),[(g,some (v,{ ow with es:=Aic ow.es i n new }))]⟩:=by
    intro w' hr k1 k2 k3 k4 k5 k6 K Q hK;have hrun:(execOp a.eval o).run P w= .ok (.value (.int .i64 (aAf n new.length:Nat))) w':=by
     simp_all[execOp,goInt,resolve,invoke,builtin]
    unfold Oper.wp;rw[hrun];exact hK _ _ _ _ (h.wrote hg h4 hL k1 k2 k3 k4 k5 k6 hpl hd (Env.Ae (.int _ _))) (Aw.refl _) (λ_ _=>rfl)
   obtain⟨o1,o2,o3,o4,o5,o6⟩:=hown
   by_cases hm:aAf n new.length=0
   ·have hes:Aic ow.es i n new=ow.es:=by
     refine aAr λq=>?_
     rw[IH h7,if_neg (by omega)]
    refine fin w ?_ rfl rfl rfl (aAF _) (λ_ _ _=>rfl) (by rw[hes];exact⟨o1,o2,o3,o4,o5,o6⟩)
    grind [run_copy_none]
   ·obtain⟨b,hb,rfl⟩:=hpos (by omega)
    obtain⟨b2,p2,rfl,hcell⟩:=hsrc (by omega)
    rw[hb]at o6;obtain⟨C,hC,hCs,hCx⟩:=o6;have hs:L.s=1:=o1.trans h6;have htk:∀ (q:Nat) z,(new.take n)[q]? =some z->new[q]? =some z:=by
     grind
    obtain⟨news,n1,n2,n3,n4⟩:=JN (w:=w) (F:=F) (es:=new.take n) (s:=1) (b:=b2) (o:=p2) (λq hq=>h8 q (aAl hq)) (λi' j e' c' he hj=>hcell i' j e' c' (htk _ _ he) hj)
    have hnl:news.length=aAf n new.length:=by grind
    have hfit:i*L.s+news.length<=C.size:=by
     grind
    have hrun:=run_copy_row (P:=P) w t u o.type e b (i*L.s) n (L.cap-i) ⟨b2,p2,none⟩ new.length cap2 C ow.ty news hu hi hC (hnl.trans (Nat.min_comm n new.length)) n2 hfit n3;obtain⟨C',hC'⟩:∃ C',C'=(C.toList.take (i*L.s)++news++C.toList.drop (i*L.s+news.length)).toArray:=⟨_,rfl⟩;rw[<- hC',hnl]at hrun;have hsp:=λq=>Hr C news (i*L.s) hfit q
    rw[<- hC',hnl,hs,aAo]at hsp;have hCz:C'.size=C.size:=by
     grind
    refine fin (w.setRow b C') (by grind) rfl rfl rfl (by simp[World.setRow]) (λb' _ hne=>setRow_other w b b' C' λe=>hne (by rw[hb,e])) ?_
    refine⟨o1,o2,by grind,o4,λq hq=>?_,?_⟩
    ·rcases aAJ.1 (Gz hq)with hq|hq
     all_goals grind
    ·rw[hb];refine⟨C',setRow_heap w b C _ ow.ty _ hC,by rw[hCz];exact hCs,λp j q d hq hj=>?_⟩
     simp only at hq ⊢;have hj0:j=0:=by
      have h10:(cells q).length=1:=by
       rcases aAJ.1 (Gz (aAB hq))with hq|hq
       ·rw[<- h6];exact o5 q hq
       ·exact h8 q hq
      have:=(aAC.1 hj).1;omega
     subst hj0;rw[IH h7]at hq;rw[h6,aAo,aAd,hsp];split at hq
     ·rename_i hp;rw[if_pos hp];have hq':(new.take n)[p-i]? =some q:=by rw[List.getElem?_take,if_pos (by omega)];exact hq
      obtain⟨y',y1,y2,y3⟩:=n4 _ 0 _ _ hq' hj;rw[aAo,aAd]at y1;refine⟨y',y1,y2,?_⟩;rw[h5];exact y3
     ·rename_i hp;rw[if_neg hp];have:=hCx p 0 q d hq hj;rwa[h6,aAo,aAd]at this
theorem Mw {Γ:Aq} (h:Sim N w0 F0 M B0 σ F β a w) {nv:Nat} (hnv:β nv=none) {o:Oper} {t:Nat} (hdst:o.dst=some t) (ht:t<N) (htr:Ac t=false) {tt e:TypeId} {len:Nat} {parts:Array (Nat×Operand)} (ho:o.op= .buildSlice tt len parts) (hu:P.underlying tt=some (.slice e)) (hz:Cf P e=some .nilf) (hl0:0<len) (hl1:len<=4096)
  {ps:List (Nat×Nat×Arg)} (hps:CW (λi=>some (i*P.cellsOf e,P.cellsOf e)) parts.toList=some ps)
  (hc:((evalOp Γ nv o.dst (.bldV e len ps)).run σ).c):Snd P N w0 F0 M B0 σ β a w o nv ((evalOp Γ nv o.dst (.bldV e len ps)).run σ):=by
 obtain⟨i,zv,hi,hzv,hone,hsz,hzd⟩:=Cy hz;have hsi:P.cellsOf e=i.size:=by grind [aAL]
 obtain⟨c1,_,_⟩:=Cz (F:=F) zv hone;rw[<- hzd]at c1;have hs1:P.cellsOf e=1:=by rw[<- hsz,<- c1];rfl
 obtain⟨l,r⟩:=EL h parts.toList ps hps;simp only[evalOp,R.run_bind,R.run_pure,hdst,aAE]at hc ⊢;generalize(BN ps).run σ=rs at *;obtain⟨hfo,hlp⟩:=hc;have hval:∀ (n:Nat) (rs:List (Nat×Nat×D)),CY n rs->∀ p∈rs,known p.2.2=true:=by
  intro n rs
  induction rs with
  | nil=>simp_all
  | cons q rs ih =>
   intro hf p hp;obtain⟨f1,_,_,f4⟩:=hf
   grind
 have hzs:=GQ (F:=F) (z:=zv) (s:=1) (n:=len) (m:=len*P.cellsOf e) hone (by omega) (by omega) (by simp_all)
 rw[<- hzd]at hzs;have hmz:(madeCells zv.cells (len*P.cellsOf e)).size=len:=by rw[size_madeCells,hs1,aAo]
 have hcell:∀ j,j<len->∃ x,(madeCells zv.cells (len*P.cellsOf e))[j]? =some x/\x.oneCell'=true/\Fro F .nilf x:=by
  intro j hj;obtain⟨x,x1,x2,x3⟩:=hzs j 0 .nilf .nilf (by simp_all) rfl
  grind
 obtain⟨C',f1,f2,f3,f4,f5⟩:=HF (F:=F) (β:=β) (places:=λi=>some (i*P.cellsOf e,P.cellsOf e)) (parts.toList.map λp=>(p.1,a.eval p.2)) rs (aAX len .nilf) (madeCells zv.cells (len*P.cellsOf e)) (by simp_all) (λj c hj=>by
   grind [Cel.Ae]) (λx hx=>by
   rw[Array.mem_iff_getElem?]at hx;obtain⟨j,hj⟩:=hx;have hjl:j<len:=by rw[<- hmz];exact(aAp.1 hj).1
   obtain⟨y,y1,y2,_⟩:=hcell j hjl
   rw[hj]at y1;cases y1;exact y2) (by rw[aAj];exact hfo) (by simp[l]) (λq i x off s d hq hd'=>by
   obtain⟨r1,r2⟩:=r q i x off s d hq hd';refine⟨r1,?_⟩;have hk:=hval _ rs hfo _ (aAB hd');simp only at hk
   cases d<;>first|exact r2|cases hk)
 rw[hmz]at f2;rw[aAj]at f3;intro K Q hK;have hrun:(execOp a.eval o).run P w= .ok (.value (.slice (some ⟨w.heap.size,0,none⟩) len len)) (w.alloc (.cells C' e)):=by
  unfold execOp;rw[ho];have hmap:(parts.map λ(i,x)=>(i,a.eval x)).toList=parts.toList.map λp=>(p.1,a.eval p.2):=by simp
  have h0:len*i.size≠0:=by rw[<- hsi,hs1];omega
  have hb:=run_buildSlice (P:=P) w tt e len (parts.map λ(i,x)=>(i,a.eval x)) C' i zv hu hi hzv (by grind) h0 (by rw[hmap,<- hsi];exact f1)
  simp only[Sem.run_bind,hb,Result.andThen_ok];rfl
 unfold Oper.wp;rw[hrun];simp only[Oper.upon,hdst]at hK ⊢;refine hK _ _ _ _ (h.alloc (nv:=nv) (t:=t) (tt:=t) hnv ht (C:=C') (o:=⟨false,true,len,e,[.agg (Dn (aAX len .nilf) rs)]⟩) (cap:=1) (d:=.vsl t nv len) (v:=.slice (some ⟨w.heap.size,0,none⟩) len len) (w1:=w) rfl rfl rfl rfl rfl (λhr=>by simp_all) ?_ ?_) (AZ _ hnv) (λv hv=>Ca _ _ hv)
 ·exact Ax.HO (w1:=w) hl0 f2 f3 (λj c hj=>by
   obtain⟨x,x1,x2,x3⟩:=f4 j c hj
   exact⟨x,x1,x2,x3.mono (Ag.refl _) (AZ _ hnv)⟩)
 ·exact⟨_,w.heap.size,Aj _ _ _,rfl,rfl⟩
theorem Ov {Γ:Aq} (h:Sim N w0 F0 M B0 σ F β a w) {nv:Nat} {o:Oper} (hdst:o.dst=none) {tt:TypeId} {xa xv:Operand} (ho:o.op= .store tt xa xv) {aa av:Arg} (ha:Ai xa=some aa) (hv:Ai xv=some av) (hs:0<P.cellsOf tt)
  (hc:((evalOp Γ nv o.dst (.st (P.cellsOf tt) aa av)).run σ).c):Snd P N w0 F0 M B0 σ β a w o nv ((evalOp Γ nv o.dst (.st (P.cellsOf tt) aa av)).run σ):=by
 have hti:=Fb hs;have hva:=λhp=>At h ha hp
 have hvv:=λhp=>At h hv hp
 simp only[evalOp,R.run_bind]at hc ⊢;generalize((rdA aa).run σ).2=da at *;generalize((rdA aa).run σ).1=pa at *;generalize((rdA av).run σ).2=d at *;generalize((rdA av).run σ).1=pv at *;cases da<;>try exact hc.elim
 case optr g v i off =>
  simp only[R.run]at hc ⊢;cases hg:σ.go g with
  | none=>simp_all
  | some p =>
   obtain⟨v',ow⟩:=p;rw[hg]at hc;simp only at hc ⊢;have fin:∀ {σ1:S} {F1:Fz} (hF1:Ag F F1) (_:Sim N w0 F0 M B0 σ1 F1 β a w) (u:Out) (w':World),(Instr.storeAt tt (a.eval xa) (a.eval xv)).run P w= .ok () w'->Sim N w0 F0 M B0 (σ.app u) F1 β a w'->Snd P N w0 F0 M B0 σ β a w o nv u:=by
    intro σ1 F1 _ _ u w' hr hS K Q hK;have hrun:(execOp a.eval o).run P w= .ok .skip w':=by
     simp_all[execOp]
    unfold Oper.wp;rw[hrun];simp only[Oper.upon];have:a.put o.dst undef=a:=by rw[hdst];rfl
    grind [Aw.refl]
   by_cases hrg:Ac g=true
   ·rw[if_pos hrg]at hc ⊢;simp only[R.run_bind,R.AM]at hc ⊢;obtain⟨h1,h2,h3,rfl,h4,h5,h6,h7,h8,h9⟩:=hc;obtain⟨w',r1,r2⟩:=KN (P:=P) h hg hrg h4 h5 (hva h1) (hvv h2) h6 h3 h7 h8 h9 tt hti rfl hs True
    grind [Ag.refl]
   rw[if_neg hrg]at hc ⊢;have hng:Ac g=false:=by simp_all
   by_cases hvar:ow.var=true
   ·rw[if_pos hvar]at hc ⊢;simp only[R.run]at hc ⊢;obtain⟨h1,h2,rfl,h4,h5,h6,h7,h8⟩:=hc;obtain⟨w',r1,r2⟩:=Jk (P:=P) h hg hng h4 h5 (hva h1) (hvv h2) (λe=>by simp_all) h6 h7 h8 tt hti rfl hs (pa=true/\pv=true/\v=v/\ow.fz=false/\i<ow.es.length/\known d=true/\(cells d).length=P.cellsOf tt/\off+P.cellsOf tt<=(cells (ow.es.getD i .top)).length)
    grind [Ag.refl]
   ·rw[if_neg hvar]at hc ⊢;have hvar':ow.var=false:=by simp_all
    simp only[R.run_bind,R.run_pure]at hc ⊢;have hres:=λhx hc=>Fy h d (x:=a.eval xv) hx hc
    generalize((res d).run σ).2.1=d' at *;generalize((res d).run σ).2.2=ws at *;obtain⟨h1,h2,h3,rfl,h4,h5,h6,h7,h8,h9⟩:=hc;obtain⟨f1,r1⟩:=hres (hvv h2) h3;obtain⟨F1,hF1,hS1,_⟩:=h.freeze f1;have hfro:=r1 ws F1 f1 (λ_ hp=>hp) hF1 hS1
    have hgo:(S.mk σ.e (ws++σ.o) σ.n).go g=some (v,ow):=by
     rcases f1.go g with⟨v2,o2,_,_,k3,_⟩|⟨_,k2⟩
     all_goals grind
    obtain⟨w',q1,q2⟩:=Jk (P:=P) hS1 hgo hng h4 h5 (d:=d') (x:=a.eval xv) ((hva h1).mono hF1 (Aw.refl _)) (Val.Ae hfro) (λ_=>hfro) h6 h7 h8 tt hti rfl hs True
    refine fin hF1 hS1 _ w' q1 ?_
    grind [S.app]
theorem Ou {Γ:Aq} (h:Sim N w0 F0 M B0 σ F β a w) {nv:Nat} (hnv:β nv=none) {o:Oper} (hd:∀ t,o.dst=some t->t<N) {t:TypeId} {x:Operand} (ho:o.op= .load t x) {n:Nat} {agg:Bool} {y:Arg} (hy:Ai x=some y)
  (h1:CG P t=agg) (h2:(P.underlying t).isSome=true) (h3:agg=true->P.info? t≠none/\n=P.cellsOf t) (h4:agg=false->n=1)
  (hc:((evalOp Γ nv o.dst (.ld n agg y)).run σ).c):Snd P N w0 F0 M B0 σ β a w o nv ((evalOp Γ nv o.dst (.ld n agg y)).run σ):=by
 have hv:=λhp=>At h hy hp
 simp only[evalOp,R.run_bind]at hc ⊢;generalize((rdA y).run σ).2=d at *;generalize((rdA y).run σ).1=p at *;have old:∀ (c:Prop),p=true->((PI d).run σ).1->((PI d).run σ).2.2+n<=(cells ((PI d).run σ).2.1).length->Snd P N w0 F0 M B0 σ β a w o nv ⟨c,Ad o.dst (PD (cells ((PI d).run σ).2.1) ((PI d).run σ).2.2 n agg),[]⟩:=by
  intro c q1 q2 q3;obtain⟨v,r1,r2⟩:=JM (P:=P) h (hv q1) q2 t n agg h1 h2 h3 h4 q3;exact Snd.pure' h hd (v:=v) (by simp_all[execOp]) (Env.Ah r2)
 by_cases hptr:∃ g v i off,d= .optr g v i off
 ·obtain⟨g,v,i,off,rfl⟩:=hptr;simp only[R.run]at hc ⊢;cases hg:σ.go g with
  | none=>simp_all
  | some q =>
   obtain⟨v',ow⟩:=q;rw[hg]at hc;simp only at hc ⊢;have old':∀ (c:Prop),p=true->(v=v'/\i<ow.es.length)->off+n<=(cells (ow.es.getD i .top)).length->Snd P N w0 F0 M B0 σ β a w o nv ⟨c,Ad o.dst (PD (cells (ow.es.getD i .top)) off n agg),[]⟩:=by
    grind [PI,R.run]
   split at hc
   ·
    rename_i s ty es hr hp;simp only[R.run]at hc ⊢;obtain⟨q1,⟨rfl,q2⟩,q3,q4,q5,rfl,rfl,q6⟩:=hc;obtain⟨t',ht'⟩:=aAI.1 q5;rw[ht']at q6;simp only[aAE]at q6;have hrow:(cells (ow.es.getD i .top))[off]? =some (.row s ty es):=by
     have hlt:off<(cells (ow.es.getD i .top)).length:=by omega
     simp only[PD,aAU,if_false]at hp;simp_all
    obtain⟨b,L,xv,e1,e2,e3⟩:=JO h hnv (hd t' ht') hg hr q4 q2 hrow q6 (hv q1) True;intro K Q hK;have hagg:=FC (P:=P) h2 w;rw[h1]at hagg;have hrun:(execOp a.eval o).run P w= .ok (.value xv) w:=by
     simp_all[execOp,Instr.loadAt,aAg,loadVar]
    grind [Oper.wp,Oper.upon,AZ,Ca]
   ·rename_i nm u m hr hp;simp only[R.run]at hc ⊢;obtain⟨q1,⟨rfl,q2⟩,q3,q4,rfl,rfl⟩:=hc;have hrow:(cells (ow.es.getD i .top))[off]? =some (.hole nm u m):=by
     have hlt:off<(cells (ow.es.getD i .top)).length:=by omega
     simp only[PD,aAU,if_false]at hp;simp_all
    obtain⟨b,xv,e1,e2,e3⟩:=Nw h hg hr q4 q2 hrow (hv q1);have hagg:=FC (P:=P) h2 w;rw[h1]at hagg;refine Snd.pure' h hd (v:=xv) ?_ (Env.Ah (Val.Am (Cel.CL e3)));simp_all[execOp,Instr.loadAt,aAg,loadVar]
   grind [R.run]
 simp_all
end
section
variable {N:Nat} {w0:World} {F0:Fz} {M:Nat->Prop} {B0:Bt} {σ:S} {F:Fz} {β:Bt} {a:Act} {w:World} {P:Program}
theorem FU {f:Int->Int->Int} {d e:D} {x y:Value} (hx:Val F β d x) (hy:Val F β e y) (hc:(DP f d e).1):∃ k m n,x= .int k m/\y= .int k n/\(DP f d e).2= .int k (f m n):=by
 cases d<;>try exact hc.elim
 cases e<;>try exact hc.elim
 rename_i k m k' n;obtain rfl:k=k':=hc;exact⟨k,m,n,AE hx,AE hy,rfl⟩
theorem Jp (h:Sim N w0 F0 M B0 σ F β a w) {as:List Operand} {ys:List Arg} (hy:CM as=some ys) {x y:D} (hds:(AJ ys).run σ=[x,y]) :
  ∃ p q,as=[p,q]/\Env F β x (a.eval p)/\Env F β y (a.eval q):=by
 obtain⟨l,r⟩:=Di h hy;rw[hds]at l r
 match as,l with
 | [p,q],_=>exact⟨p,q,rfl,r 0 _ _ rfl rfl,r 1 _ _ rfl rfl⟩
theorem KO (h:Sim N w0 F0 M B0 σ F β a w) {as:List Operand} {ys:List Arg} (hy:CM as=some ys) {x y z:D} (hds:(AJ ys).run σ=[x,y,z]) :
  ∃ p q r,as=[p,q,r]/\Env F β x (a.eval p)/\Env F β y (a.eval q)/\Env F β z (a.eval r):=by
 obtain⟨l,r⟩:=Di h hy;rw[hds]at l r
 match as,l with
 | [p,q,u],_=>exact⟨p,q,u,rfl,r 0 _ _ rfl rfl,r 1 _ _ rfl rfl,r 2 _ _ rfl rfl⟩
theorem foldl_push (ns:List Int):∀ r:List UInt8,ns.foldl (λr n=>r.push (UInt8.ofNat n.toNat)) (⟨r.toArray⟩:ByteArray)=⟨(r++ns.map λn=>UInt8.ofNat n.toNat).toArray⟩:=by
 induction ns with
 | nil=>simp_all
 | cons n ns ih =>
  simp_all
theorem ID {es:List D} {A:Option Addr} {cap:Nat} (hb:∀ e∈es,∃ n,e= .int .u8 n)
  (hA:0<es.length->∃ b o,A=some ⟨b,o,none⟩/\∀ (i j:Nat) e c,es[i]? =some e->(cells e)[j]? =some c->∃ y,w.cell? ⟨b,o+(i*1+j),none⟩=some y/\y.oneCell'=true/\Fro F c y) :
  (Conv.bytesToString (.slice A es.length cap)).run P w= .ok (.string ⟨(es.map GY).toArray⟩) w:=by
 have hns:es=(es.map λe=>match e with| .int _ n=>n|_=>0).map (D.int .u8):=by
  rw[List.map_map]
  conv=>lhs;rw[<- List.map_id es]
  grind [List.map_congr_left]
 generalize(es.map λe=>match e with| .int _ n=>n|_=>0)=ns at hns
 subst hns;have hbd:(ns.map (D.int .u8)).map GY=ns.map λn=>UInt8.ofNat n.toNat:=by simp[GY]
 rw[hbd];cases ns with
 | nil =>
  cases A with
  | none=>simp[Conv.bytesToString,Sem.run_pure];rfl
  | some q =>
   exact run_bytesToString (P:=P) w q 0 cap [] (by simpa using run_loadCells_list (P:=P) w q [] (λj v hj=>by simp at hj))
 | cons n ns =>
  obtain⟨b,o,rfl,hc⟩:=hA (by simp)
  have hl:(loadCells ⟨b,o,none⟩ ((n::ns).map (D.int .u8)).length).run P w= .ok ((n::ns).map (Value.int .u8)).toArray w:=by
   have:=run_loadCells_list (P:=P) w ⟨b,o,none⟩ ((n::ns).map (Value.int .u8)) (λj v hj=>by
    rw[aAN]at hj;obtain⟨m,hm,rfl⟩:=aAH.1 hj;obtain⟨y,hy,_,hf⟩:=hc j 0 (.int .u8 m) (.int .u8 m) (by grind) rfl
    cases hf
    grind [Addr.add])
   simp_all
  have:=run_bytesToString (P:=P) w ⟨b,o,none⟩ _ cap (n::ns) hl;rw[this];have e:=foldl_push (n::ns) [];simp only[aAu]at e;exact congrArg (λz=>Result.ok (Value.string z) w) e
theorem KY (h:Sim N w0 F0 M B0 σ F β a w) {g v:Nat} {x:Value} (hx:Val F β (.mref g v) x) (hc:(bAt g v).run σ):∃ b,x= .pointer (some ⟨b,0,none⟩):=by
 obtain⟨L,hL,_,hx⟩:=hx;simp only[bAt,R.run]at hc;cases hg:σ.go g with
 | none=>simp_all
 | some p =>
  obtain⟨v',o⟩:=p;rw[hg]at hc;simp only[R.run]at hc;obtain⟨rfl,hf,h0,h2⟩:=hc;obtain⟨L',hL',hz,_⟩:=h.own g v o hg;rw[hL]at hL';cases hL';rcases hz hf with hz|hz
  ·simp_all
  ·have:=hz.2.2.1;omega
theorem Lr {g k:Nat} (hG:Afr P F) (h:JL P g=some k) (j:Nat):Fro F (.fptr (.agg (Kz k)) j) (.pointer (some ⟨g,0+j,none⟩)):=by
 have h1:=List.mem_of_find?_eq_some h;have h2:=List.find?_some h;simp only[decide_eq_true_eq]at h2;rw[aAa]at h1;have hm:DF.getD k ("",[])∈DF:=by
  simp_all
 have key:=hG _ hm g h2.2;refine .fptr _ g 0 j (λj=>(F g j).getD undef) (λj d hd=>?_) (λj d hd=>?_) λj d hd=>?_
 all_goals
  obtain⟨x,h1,h2,h3⟩:=key j d hd;simp only[aAb,h1,aAE]
 all_goals omega
theorem Mi {Γ:Aq} (hΓ:∀ k sp,Γ k=some sp->BB P F0 (k % 4096) sp) (h:Sim N w0 F0 M B0 σ F β a w) {o:Oper} {dop:DOp} (hop:cOp P o.type o.op=some dop) (hdst:CN N o.dst dop=true) (hm:Dr dop=false) {nv:Nat} (hnv:β nv=none)
  (hc:((evalOp Γ nv o.dst dop).run σ).c):Snd P N w0 F0 M B0 σ β a w o nv ((evalOp Γ nv o.dst dop).run σ):=by
 have hd:=DN hdst;have hdr:=Md hdst;cases ho:o.op with
 | move x =>
  simp only[ho,cOp,aAA,aA]at hop;obtain⟨y,hy,he⟩:=hop;cases he;simp only[evalOp,R.run_bind,R.run_pure];exact Snd.pure' h hd (by simp_all[execOp]) (CI h hy)
 | assign x =>
  grind [cOp,aA,CO,NK]
 | pick c x y =>
  simp only[ho,cOp,aAA,aA]at hop;obtain⟨ac,hac,ax,hax,ay,hay,he⟩:=hop;cases he;have h1:=λhp=>At h hac hp
  have h2:=λhp=>At h hax hp
  have h3:=λhp=>At h hay hp
  simp only[evalOp,R.run_bind]at hc ⊢;generalize((rdA ac).run σ).2=dc at *;generalize((rdA ac).run σ).1=pc at *;generalize((rdA ax).run σ).2=dx at *;generalize((rdA ax).run σ).1=px at *;generalize((rdA ay).run σ).2=dy at *;generalize((rdA ay).run σ).1=py at *;split at hc
  ·rename_i bc bx by';simp only[R.run_pure]at hc ⊢;obtain⟨q1,q2,q3⟩:=hc;have e1:=BL (h1 q1);cases bc with
   | true =>
    have e2:=BL (h2 (q2 rfl));refine Snd.pure' h hd (v:=.bool bx) (by simp_all[execOp,asBool]) (Env.Ae (by simpa using .bool bx))
   | false =>
    have e3:=BL (h3 (q3 rfl));refine Snd.pure' h hd (v:=.bool by') (by simp_all[execOp,asBool]) (Env.Ae (by simpa using .bool by'))
  simp_all
 | alloc e =>
  simp only[ho,cOp]at hop;split at hop
  ·cases hop;cases hm
  grind [aA,CO,NO]
 | box e x =>
  simp only[ho,cOp]at hop;split at hop
  ·simp only[aAA,aA]at hop;obtain⟨_,_,he⟩:=hop;cases he;cases hm
  grind [aA,CO,NL]
 | build t parts =>
  simp only[ho,cOp,aAA,aA]at hop;obtain⟨z,hz,he⟩:=hop;obtain⟨i,zv,hi,hzv,hone,hsz,hzd⟩:=Cy hz;obtain⟨c1,c2,c3⟩:=Cz (F:=F) zv hone;have fin:∀ (cs:List D) (places:Nat->Option (Nat×Nat)) (ps:List (Nat×Nat×Arg)),z= .agg cs->CW places parts.toList=some ps->dop= .bld cs ps ->
    (∀ C,Instr.fill places zv.cells (parts.toList.map λp=>(p.1,a.eval p.2))=some C->(Instr.build t (parts.map λ(i,x)=>(i,a.eval x))).run P w= .ok (.agg C) w) ->
    Snd P N w0 F0 M B0 σ β a w o nv ((evalOp Γ nv o.dst dop).run σ):=by
   rintro cs places ps rfl hps rfl hrun;obtain⟨l,r⟩:=EL h parts.toList ps hps;simp only[evalOp,R.run_bind,R.run_pure]at hc ⊢;generalize(BN ps).run σ=rs at *;have hcs:cells (Bo zv)=cs:=by rw[<- hzd];rfl
   rw[hcs]at c1 c3;have hval:∀ (n:Nat) (rs:List (Nat×Nat×D)),CY n rs->∀ p∈rs,known p.2.2=true:=by
    intro n rs
    induction rs with
    | nil=>simp_all
    | cons q rs ih =>
     intro hf p hp;obtain⟨f1,_,_,f4⟩:=hf
     grind
   obtain⟨C',f1,f2,f3,f4,f5⟩:=HF (F:=F) (β:=β) (places:=places) (parts.toList.map λp=>(p.1,a.eval p.2)) rs cs zv.cells c1 (λj c hj=>by
     obtain⟨x,x1,x2,x3⟩:=c3 j c hj
     grind [Cel.Ae]) c2 hc (by simp[l]) (λq i x off s d hq hd'=>by
     obtain⟨r1,r2⟩:=r q i x off s d hq hd';refine⟨r1,?_⟩;have hk:=hval _ rs hc _ (aAB hd');simp only at hk
     cases d<;>first|exact r2|cases hk)
   refine Snd.pure' h hd (v:=.agg C') (by simp_all[execOp]) ?_
   refine⟨C'.toList,by simp,by simp_all,λv hv=>f5 v (by simp_all),λj c v hc' hv=>?_⟩
   obtain⟨x,x1,x2,x3⟩:=f4 j c hc';simp_all
  split at he
  ·rename_i cs fs hu;simp only[aA]at he;obtain⟨ps,hps,he⟩:=he;split at he
   ·rename_i hall;cases he;refine fin _ _ ps rfl hps rfl (λC hC=>run_build w t _ C ?_)
    have hmap:(parts.map λ(i,x)=>(i,a.eval x)).toList=parts.toList.map λp=>(p.1,a.eval p.2):=by simp
    have hplaces:fs.toList.mapM (λf=>(P.info? f.type).map λi=>(f.offset,i.size))=some (fs.toList.map λf=>(f.offset,P.cellsOf f.type)):=by
     generalize fs.toList=l at hall
     induction l with
     | nil=>rfl
     | cons f l ih =>
      simp only[List.all_cons,aAS]at hall
      grind [aAI,aAL]
    simp_all[Program.built]
   ·cases he
  ·rename_i cs n e hu;simp only[aA]at he;obtain⟨ps,hps,he⟩:=he;split at he
   ·rename_i hie;cases he;obtain⟨ie,hie⟩:=aAI.1 hie;refine fin _ _ ps rfl hps rfl (λC hC=>run_build w t _ C ?_)
    simp_all[Program.built,aAL]
   ·cases he
  ·cases he
 | buildSlice t len parts =>
  simp only[ho,cOp]at hop;split at hop
  ·rename_i e hu;simp only[aAA,aA]at hop;obtain⟨z,hz,he⟩:=hop;split at he
   ·rename_i hzn;simp only[aA]at he;obtain⟨ps,hps,he⟩:=he;split at he
    ·rename_i hs;cases he;obtain⟨t',ht,htN⟩:=CO hdst (by simp) (by simp)
     have hzn':z= .nilf:=by cases z<;>first|rfl|cases hzn
     grind [Mw]
    ·cases he
   grind [aA,CO,Mv]
  ·cases hop
 | load t x =>
  simp only[ho,cOp]at hop;have key:∀ (n:Nat) (agg:Bool) (y:Arg),Ai x=some y->dop= .ld n agg y->CG P t=agg->(P.underlying t).isSome=true->(agg=true->P.info? t≠none/\n=P.cellsOf t)->(agg=false->n=1)->Snd P N w0 F0 M B0 σ β a w o nv ((evalOp Γ nv o.dst dop).run σ):=by
   grind [Ou]
  grind [aA,DU,aAI,DA]
 | store t x y =>
  simp only[ho,cOp]at hop;split at hop
  ·rename_i hs;simp only[aAA,aA]at hop;obtain⟨ax,hax,ay,hay,he⟩:=hop;cases he;have hn:o.dst=none:=by
    unfold CN at hdst
    grind
   grind [Ov]
  ·cases hop
 | nilCheck x =>
  simp only[ho,cOp,aAA,aA]at hop;obtain⟨y,hy,he⟩:=hop;cases he;have hv:=λhp=>At h hy hp
  simp only[evalOp,R.run_bind]at hc ⊢;generalize((rdA y).run σ).2=d at *;generalize((rdA y).run σ).1=p at *;cases d<;>try exact hc.elim
  case optr g v i off =>
   have hx:=hv hc;obtain⟨L,b,h1,h2,h3⟩:=hx;exact Snd.pure' h hd (v:=a.eval x) (by simp_all[execOp]) ⟨L,b,h1,h2,h3⟩
  case fptr e off =>
   have hx:=hv hc;have:∃ b o,a.eval x= .pointer (some ⟨b,o,none⟩):=by
    generalize a.eval x=xx at hx;cases hx with
    | fptr e b o off vf hF h1 hh=>simp_all
   obtain⟨b,o',hbo⟩:=this;exact Snd.pure' h hd (v:=a.eval x) (by simp_all[execOp]) hx
  case mref g v =>
   simp only[R.run_bind,R.run_pure]at hc ⊢;obtain⟨b,hbo⟩:=KY h (hv hc.1) hc.2;exact Snd.pure' h hd (v:=a.eval x) (by simp_all[execOp]) (Env.Ah (hv hc.1))
 | binOp op t x y t' =>
  have eqb:∀ (neg:Bool) (ax ay:Arg),op=(if neg then .neq else .eql)->P.underlying t=some .bool->Ai x=some ax->Ai y=some ay->dop= .eqB neg ax ay->Snd P N w0 F0 M B0 σ β a w o nv ((evalOp Γ nv o.dst dop).run σ):=by
   rintro neg ax ay hneg hu hax hay rfl;have h1:=λhp=>At h hax hp
   have h2:=λhp=>At h hay hp
   simp only[evalOp,R.run_bind]at hc ⊢;generalize((rdA ax).run σ).2=dx at *;generalize((rdA ax).run σ).1=px at *;generalize((rdA ay).run σ).2=dy at *;generalize((rdA ay).run σ).1=py at *;split at hc
   ·rename_i bx by';simp only[R.run_pure]at hc ⊢;have e1:=BL (h1 hc.1);have e2:=BL (h2 hc.2);have e3:=NV (P:=P) hu bx by' neg x y w;rw[<- hneg]at e3;exact Snd.pure' h hd (v:=.bool (if neg then !(bx==by')else(bx==by'))) (by unfold execOp;rw[ho];simp only[Sem.run_bind,e1,e2]at e3 ⊢;simp[e3]) (Env.Ae (.bool _))
   simp_all
  have eqa:∀ (n:Nat) (neg:Bool) (ax ay:Arg),op=(if neg then .neq else .eql)->Er P t=some n->Ai x=some ax->Ai y=some ay->dop= .eqA n neg ax ay->Snd P N w0 F0 M B0 σ β a w o nv ((evalOp Γ nv o.dst dop).run σ):=by
   rintro n neg ax ay hneg hu hax hay rfl;have h1:=λhp=>At h hax hp
   have h2:=λhp=>At h hay hp
   simp only[evalOp,R.run_bind]at hc ⊢;generalize((rdA ax).run σ).2=dx at *;generalize((rdA ax).run σ).1=px at *;generalize((rdA ay).run σ).2=dy at *;generalize((rdA ay).run σ).1=py at *;split at hc
   ·rename_i bx by';simp only[R.run_pure]at hc ⊢;have e3:=NU (P:=P) hu (h1 hc.1) (h2 hc.2.1) hc.2.2.1 hc.2.2.2 neg x y w;rw[<- hneg]at e3;exact Snd.pure' h hd (v:=.bool (if neg then !(eqL bx by').2 else(eqL bx by').2)) (by unfold execOp;rw[ho];simp only[Sem.run_bind]at e3 ⊢;simp[e3]) (Env.Ae (.bool _))
   simp_all
  have gen:(Ai x).bind (λax=>(Ai y).bind λay=>some (DOp.bin op ax ay))=some dop->Snd P N w0 F0 M B0 σ β a w o nv ((evalOp Γ nv o.dst dop).run σ):=by
   intro hop;simp only[aA]at hop;obtain⟨ax,hax,ay,hay,he⟩:=hop;cases he;have h1:=λhp=>At h hax hp
   have h2:=λhp=>At h hay hp
   simp only[evalOp,R.run_bind,R.run_pure,Bu]at hc ⊢;obtain⟨⟨q1,q2⟩,q3⟩:=hc;obtain⟨v,r1,r2⟩:=Ng (P:=P) (h1 q1) (h2 q2) q3 t x y w;exact Snd.pure' h hd (v:=v) (by unfold execOp;rw[ho];simp only[Sem.run_bind]at r1 ⊢;simp[r1]) (Env.Ah r2)
  simp only[ho,cOp]at hop;split at hop
  all_goals grind [aA]
 | unOp op t x =>
  simp only[ho,cOp,aAA,aA]at hop;obtain⟨ax,hax,he⟩:=hop;cases he;have h1:=λhp=>At h hax hp
  simp only[evalOp,R.run_bind,R.run_pure,Bu]at hc ⊢;obtain⟨q1,q3⟩:=hc;obtain⟨v,r1,r2⟩:=Oz (P:=P) (h1 q1) q3 w;exact Snd.pure' h hd (v:=v) (by simp_all[execOp]) (Env.Ah r2)
 | convert s t x =>
  simp only[ho,cOp]at hop;split at hop
  ·rename_i k hu;split at hop
   ·rename_i hs;simp only[aAA,aA]at hop;obtain⟨ax,hax,he⟩:=hop;cases he;have h1:=λhp=>At h hax hp
    simp only[evalOp,R.run_bind]at hc ⊢;generalize((rdA ax).run σ).2=d at *;generalize((rdA ax).run σ).1=p at *;cases d<;>try exact hc.elim
    case int k' n =>
     have e:=AE (h1 hc);obtain⟨ds,hds⟩:=aAI.1 hs;refine Snd.pure' h hd (v:=.int k (k.wrap n)) ?_ (Env.Ae (.int _ _));simp_all[execOp,convert,run_underlying,Conv.intToInt]
   ·cases hop
  ·rename_i hu;split at hop
   ·rename_i k0 hs;simp only[aAA,aA]at hop;obtain⟨ax,hax,he⟩:=hop;cases he;have h1:=λhp=>At h hax hp
    simp only[evalOp,R.run_bind]at hc ⊢;generalize((rdA ax).run σ).2=d at *;generalize((rdA ax).run σ).1=p at *;cases d<;>try exact hc.elim
    case int k' n =>
     have e:=AE (h1 hc);refine Snd.pure' h hd (v:=.string (Utf8.encode n)) ?_ (Env.Ae (.str _));simp_all[execOp,convert,run_underlying,Conv.intToString]
   ·rename_i e0 hs;split at hop
    ·rename_i he0;simp only[aAA,aA]at hop;obtain⟨ax,hax,he⟩:=hop;cases he;have h1:=λhp=>At h hax hp
     simp only[evalOp,R.run_bind]at hc ⊢;generalize((rdA ax).run σ).2=d at *;generalize((rdA ax).run σ).1=p at *;have hview:=λh1' h2 h3=>HP h (d:=d) (x:=a.eval x) (h1 h1') h2 (s:=1) h3
     generalize((view d).run σ).2=es at *;generalize((view d).run σ).1=cv at *;simp only[R.run_pure]at hc ⊢;obtain⟨q1,q2,q3⟩:=hc;obtain⟨A,cap,hx,hA⟩:=hview q1 q2 (λe he=>by obtain⟨n,rfl⟩:=q3 e he;rfl)
     refine Snd.pure' h hd (v:=.string ⟨(es.map GY).toArray⟩) ?_ (Env.Ae (.str _));unfold execOp;rw[ho];simp[hx,run_convert_bytes_string (P:=P) w s t e0 A es.length cap hs he0 hu,ID q3 hA]
    ·cases hop;exact hc.elim
   ·cases hop;exact hc.elim
  ·cases hop;exact hc.elim
 | makeSlice t xl xc =>
  simp only[ho,cOp]at hop;split at hop
  all_goals grind [aA,CO,NN]
 | slice t x lo hi mx =>
  cases mx with
  | some m =>
   simp only[ho,cOp,Option.some.injEq]at hop;subst hop;exact hc.elim
  | none =>
   simp only[ho,cOp]at hop;have hopt:∀ {x? :Option Operand} {y? :Option Arg} (n:Int),Fp x? =some y? ->(bound ((Br y?).run σ) n).1->(∀ d,(Br y?).run σ=some d->∃ x,x?.map a.eval=some x/\Val F β d x)/\((Br y?).run σ=none->x?.map a.eval=none):=by
    grind [Om,Lc]
   split at hop
   ·rename_i e hu;split at hop
    ·rename_i hie;obtain⟨hie,hpos⟩:=hie;have hie':P.info? e≠none:=by grind
     simp only[aAA,aA]at hop;obtain⟨ax,hax,alo,halo,ahi,hahi,he⟩:=hop;cases he;have h1:=λhp=>At h hax hp
     simp only[evalOp,R.run_bind,R.run_pure,Bu]at hc ⊢;generalize((rdA ax).run σ).2=d at *;generalize((rdA ax).run σ).1=p at *;obtain⟨⟨q1,q2⟩,q3⟩:=hc;have hb:∃ n:Int,(bound ((Br alo).run σ) 0).1/\(bound ((Br ahi).run σ) n).1:=by
      cases d<;>first|exact q3.elim|(exact⟨_,q3.1,q3.2.1⟩)|skip
     obtain⟨n,hb1,hb2⟩:=hb;obtain⟨l1,l2⟩:=hopt 0 halo hb1;obtain⟨m1,m2⟩:=hopt n hahi hb2
     obtain⟨v,r1,r2⟩:=Mu (P:=P) h hu hie' (h1 q1) (λg v i n L e1 e2 _=>by
       subst e1;simp only[fits,R.run]at q2;cases hg:σ.go g with
       | none=>simp_all
       | some pp =>
        obtain⟨v',ow⟩:=pp;rw[hg]at q2;obtain⟨_,rfl,q4⟩:=q2;obtain⟨L',e3,hz,hk⟩:=h.own g v ow hg;rw[e2]at e3;cases e3;rw[<- q4];cases hfz:ow.fz with
        | true=>exact(hz hfz).elim (λm=>by omega) λm=>m.2.1
        | false=>exact(hk hfz).1) (λes q e1 hq=>by
       subst e1
       exact q2.2 q hq) l1 l2 m1 m2 (λs e1=>by
       subst e1;have q2':P.cellsOf e=0:=q2
       omega) q3
     exact Snd.pure' h hd (v:=v) (by simp_all[execOp]) (Env.Ah r2)
    ·cases hop
   ·rename_i hu;simp only[aAA,aA]at hop;obtain⟨ax,hax,alo,halo,ahi,hahi,he⟩:=hop;cases he;have h1:=λhp=>At h hax hp
    simp only[evalOp,R.run_bind,R.run_pure,Bu]at hc ⊢;generalize((rdA ax).run σ).2=d at *;generalize((rdA ax).run σ).1=p at *;obtain⟨⟨q1,q2⟩,q3⟩:=hc;cases d<;>try exact q3.elim
    case str s =>
     obtain⟨l1,l2⟩:=hopt 0 halo q3.1;obtain⟨m1,m2⟩:=hopt s.length hahi q3.2.1;obtain⟨v,r1,r2⟩:=Ju (P:=P) hu (h1 q1) l1 l2 m1 m2 q3 w;exact Snd.pure' h hd (v:=v) (by simp_all[execOp]) (Env.Ah r2)
    all_goals grind [fits,R.run]
   ·cases hop
 | fieldAddr s x f =>
  simp only[ho,cOp]at hop;split at hop
  ·rename_i fs hu;simp only[aAA,aA]at hop;obtain⟨fd,hfd,hop⟩:=hop;split at hop
   ·rename_i hs;simp only[aA]at hop;obtain⟨ax,hax,he⟩:=hop;cases he;obtain⟨fi,hfi⟩:=Option.ne_none_iff_exists'.1 (Fb hs);have hsz:fi.size≠0:=by
     grind [aAL]
    have h1:=λhp=>At h hax hp
    have hrun:∀ b o',a.eval x= .pointer (some ⟨b,o',none⟩)->(execOp a.eval o).run P w= .ok (.value (.pointer (some ⟨b,o'+fd.offset,none⟩))) w:=by
     simp_all[execOp,Instr.fieldAt,run_underlying,aAg,fieldPlace,sizeOf,typeInfo,Bv]
    simp only[evalOp,R.run_bind]at hc ⊢;generalize((rdA ax).run σ).2=d at *;generalize((rdA ax).run σ).1=p at *;cases d<;>try exact hc.elim
    case optr g v i off =>
     obtain⟨L,b,k1,k2,k3⟩:=h1 hc;exact Snd.pure' h hd (hrun _ _ k3) ⟨L,b,k1,k2,by simp_all⟩
    case fptr e off =>
     have hx:=h1 hc;generalize hxx:a.eval x=xx at hx hrun;cases hx with
     | fptr e b o' off vf hF h1' hh =>
      refine Snd.pure' h hd (hrun _ _ rfl) (Env.Ae ?_);rw[Nat.add_assoc];exact .fptr e b o' (off+fd.offset) vf hF h1' hh
    case mref g v =>
     simp only[R.run_bind,R.run_pure]at hc ⊢;obtain⟨c1,c2,c3⟩:=hc;obtain⟨b,hbo⟩:=KY h (h1 c1) c3;have:=hrun _ _ hbo;rw[c2,aAd,<- hbo]at this
     grind [Snd.pure',Env.Ah]
   ·cases hop
  ·cases hop
 | field s x f =>
  simp only[ho,cOp]at hop;split at hop
  ·rename_i fs hu;simp only[aAA,aA]at hop;obtain⟨fd,hfd,hop⟩:=hop;have key:∀ (n:Nat) (agg:Bool) (y:Arg),Ai x=some y->dop= .fld fd.offset n agg y->CG P fd.type=agg->(P.underlying fd.type).isSome=true->(agg=true->P.info? fd.type≠none/\n=P.cellsOf fd.type)->(agg=false->n=1)->Snd P N w0 F0 M B0 σ β a w o nv ((evalOp Γ nv o.dst dop).run σ):=by
    rintro n agg y hy rfl g1 g2 g3 g4;have hv:=λhp=>At h hy hp
    simp only[evalOp,R.run_bind]at hc ⊢;generalize((rdA y).run σ).2=d at *;generalize((rdA y).run σ).1=p at *;cases d<;>try exact hc.elim
    case agg cs =>
     obtain⟨q1,q2⟩:=hc;obtain⟨vs,e1,hl,hone,hcel⟩:=hv q1;obtain⟨v,r1,r2⟩:=Ja (P:=P) hl hone hcel fd.type fd.offset n agg g1 g2 g3 g4 q2 w;exact Snd.pure' h hd (v:=v) (by simp_all[execOp,Instr.field,run_underlying,asAgg]) (Env.Ah r2)
   grind [aA,DU,aAI,DA]
  ·cases hop
 | indexAddr t x i =>
  simp only[ho,cOp]at hop;split at hop
  ·rename_i g;unfold Ks at hop;split at hop
   ·rename_i n e ds hu hds;split at hop
    ·rename_i hne;simp only[aAA,aA]at hop;obtain⟨ai,hai,he⟩:=hop;cases he;have h2:=λhp=>At h hai hp
     simp only[evalOp,R.run_bind]at hc ⊢;generalize((rdA ai).run σ).2=di at *;generalize((rdA ai).run σ).1=pi at *;split at hc
     ·rename_i k j;simp only[R.run_pure]at hc ⊢;obtain⟨q1,q2,q3,k0,sp0,q4⟩:=hc;have hG:=(hΓ k0 sp0 q4).2.2.2.2.mono h.step.sub;obtain⟨ie,hie⟩:∃ ie,P.info? e=some ie:=by
       cases hx:P.info? e with
       | none=>simp_all
       | some ie=>simp_all
      have hsz:P.cellsOf e=ie.size:=by grind [aAL]
      have e2:=AE (h2 q1);have hj:0<=j/\j<(n:Int):=⟨q2,q3⟩;refine Snd.pure' h hd (v:=.pointer (some ⟨g,0+j.toNat*P.cellsOf e,none⟩)) ?_ (Env.Ae (Lr hG hds (j.toNat*P.cellsOf e)));unfold execOp;rw[ho];have e1:a.eval (Operand.global g)= .pointer (some ⟨g,0,none⟩):=rfl;simp[Instr.indexAt,asIntOf,run_underlying hu,e1,e2,aAg,sizeOf,typeInfo,hie,hj,Bv,hsz]
     simp_all
    ·cases hop;exact hc.elim
   ·cases hop;exact hc.elim
  unfold Kr at hop;split at hop
  ·rename_i e hu;split at hop
   ·rename_i hie;have hie':P.info? e≠none:=by grind
    simp only[aAA,aA]at hop;obtain⟨ax,hax,ai,hai,he⟩:=hop;cases he;have h1:=λhp=>At h hax hp
    have h2:=λhp=>At h hai hp
    simp only[evalOp,R.run_bind]at hc ⊢;generalize((rdA ax).run σ).2=d at *;generalize((rdA ax).run σ).1=p at *;generalize((rdA ai).run σ).2=di at *;generalize((rdA ai).run σ).1=pi at *;split at hc
    ·rename_i g v i0 n k j;simp only[R.run]at hc ⊢;cases hg:σ.go g with
     | none=>simp_all
     | some pp =>
      obtain⟨v',ow⟩:=pp;rw[hg]at hc;simp only[R.run]at hc ⊢;obtain⟨q1,q2,q3,q4,q5,q6,q7⟩:=hc;have e2:=AE (h2 q2);obtain⟨y,r1,r2⟩:=(Lu (P:=P) h hu hie' (h1 q1) k j).1 g v i0 n v' ow rfl hg ⟨q3,q5⟩ q6 q7;exact Snd.pure' h hd (v:=y) (by simp_all[execOp]) (Env.Ah r2)
    ·rename_i es k j;simp only[R.run_pure]at hc ⊢;obtain⟨q1,q2,q3,q4,q5⟩:=hc;have e2:=AE (h2 q2);obtain⟨y,r1,r2⟩:=(Lu (P:=P) h hu hie' (h1 q1) k j).2 es rfl q3 q4 q5;exact Snd.pure' h hd (v:=y) (by simp_all[execOp]) (Env.Ah r2)
    ·rename_i g v n k j;simp only[R.run_pure]at hc ⊢;obtain⟨q1,q2,q3,q4,q5⟩:=hc;have e2:=AE (h2 q2);obtain⟨y,r1,r2⟩:=Oj (P:=P) (w:=w) hu hie' q5 (h1 q1) k j q3 q4;exact Snd.pure' h hd (v:=y) (by simp_all[execOp]) (Env.Ah r2)
    simp_all
   ·cases hop
  ·rename_i n e hu;split at hop
   ·rename_i hie;obtain⟨ie,hie⟩:=aAI.1 hie;simp only[aAA,aA]at hop;obtain⟨ax,hax,ai,hai,he⟩:=hop;cases he;have h1:=λhp=>At h hax hp
    have h2:=λhp=>At h hai hp
    have hsz:P.cellsOf e=ie.size:=by grind [aAL]
    have hrun:∀ b o' k j,a.eval x= .pointer (some ⟨b,o',none⟩)->a.eval i= .int k j->0<=j->j<(n:Int)->(execOp a.eval o).run P w= .ok (.value (.pointer (some ⟨b,o'+j.toNat*P.cellsOf e,none⟩))) w:=by
     intro b o' k j e1 e2 e3 e4;have hj:0<=j/\j<(n:Int):=⟨e3,e4⟩;unfold execOp;rw[ho];simp[Instr.indexAt,asIntOf,run_underlying hu,e1,e2,aAg,sizeOf,typeInfo,hie,hj,Bv,hsz]
    simp only[evalOp,R.run_bind]at hc ⊢;generalize((rdA ax).run σ).2=d at *;generalize((rdA ax).run σ).1=p at *;generalize((rdA ai).run σ).2=di at *;generalize((rdA ai).run σ).1=pi at *;split at hc
    ·rename_i g v i0 off k j;simp only[R.run_pure]at hc ⊢;obtain⟨q1,q2,q3,q4⟩:=hc;obtain⟨L,b,k1,k2,k3⟩:=h1 q1;exact Snd.pure' h hd (hrun _ _ k j k3 (AE (h2 q2)) q3 q4) ⟨L,b,k1,k2,by simp_all⟩
    ·rename_i e' off k j;simp only[R.run_pure]at hc ⊢;obtain⟨q1,q2,q3,q4⟩:=hc;have hx:=h1 q1;generalize hxx:a.eval x=xx at hx hrun;cases hx with
     | fptr e' b o' off vf hF h1' hh =>
      refine Snd.pure' h hd (hrun _ _ k j rfl (AE (h2 q2)) q3 q4) (Env.Ae ?_);rw[Nat.add_assoc];exact .fptr e' b o' _ vf hF h1' hh
    simp_all
   ·cases hop
  ·cases hop
 | index t x i =>
  simp only[ho,cOp]at hop;split at hop
  ·rename_i hu;simp only[aAA,aA]at hop;obtain⟨ax,hax,ai,hai,he⟩:=hop;cases he;have h1:=λhp=>At h hax hp
   have h2:=λhp=>At h hai hp
   simp only[evalOp,R.run_bind]at hc ⊢;generalize((rdA ax).run σ).2=d at *;generalize((rdA ax).run σ).1=p at *;generalize((rdA ai).run σ).2=di at *;generalize((rdA ai).run σ).1=pi at *;split at hc
   ·rename_i s k j;simp only[R.run_pure]at hc ⊢;obtain⟨q1,q2,q3,q4⟩:=hc;have e1:=Ci (h1 q1);have e2:=AE (h2 q2);have hlt:j.toNat<s.length:=by omega
    refine Snd.pure' h hd (v:=.int .u8 (s.getD j.toNat 0).toNat) ?_ (Env.Ae (.int _ _));unfold execOp;rw[ho];have e3:(⟨s.toArray⟩:ByteArray)[j.toNat]? =some (s.getD j.toNat 0):=by
     have hb:j.toNat<(⟨s.toArray⟩:ByteArray).size:=by grind [ByteArray.size]
     rw[getElem?_pos (⟨s.toArray⟩:ByteArray) j.toNat hb];have:(⟨s.toArray⟩:ByteArray)[j.toNat]'hb=s[j.toNat]:=rfl;simp_all
    simp_all[Instr.index,asIntOf,run_underlying]
   simp_all
  ·rename_i n e hu;split at hop
   ·rename_i hie;obtain⟨hie,hue⟩:=hie;obtain⟨ie,hie⟩:=aAI.1 hie;have hsz:P.cellsOf e=ie.size:=by grind [aAL]
    have key:∀ (s:Nat) (agg:Bool) (y yi:Arg),Ai x=some y->Ai i=some yi->dop= .ix s n agg y yi->CG P e=agg->s=P.cellsOf e->(agg=false->s=1)->Snd P N w0 F0 M B0 σ β a w o nv ((evalOp Γ nv o.dst dop).run σ):=by
     rintro s agg y yi hy hyi rfl g1 g2 g4;have h1:=λhp=>At h hy hp
     have h2:=λhp=>At h hyi hp
     simp only[evalOp,R.run_bind]at hc ⊢;generalize((rdA y).run σ).2=d at *;generalize((rdA y).run σ).1=p at *;generalize((rdA yi).run σ).2=di at *;generalize((rdA yi).run σ).1=pi at *;split at hc
     ·rename_i cs k j;simp only[R.run_pure]at hc ⊢;obtain⟨q1,q2,q3,q4,q5⟩:=hc;obtain⟨vs,e1,hl,hone,hcel⟩:=h1 q1;have e2:=AE (h2 q2);have hle:j.toNat*s+s<=cs.length:=by
       have:(j.toNat+1)*s<=n*s:=aAW _ (by omega)
       grind
      obtain⟨v,r1,r2⟩:=Ja (P:=P) hl hone hcel e (j.toNat*s) s agg g1 hue (λ_=>⟨by simp_all,g2⟩) g4 hle w
      have hj:0<=j/\j<(n:Int):=⟨q3,q4⟩;refine Snd.pure' h hd (v:=v) ?_ (Env.Ah r2);simp_all[execOp,Instr.index,asIntOf,run_underlying,sizeOf,typeInfo]
     simp_all
    grind [aA]
   ·cases hop
  ·cases hop
 | extract x i =>
  simp only[ho,cOp,aAA,aA]at hop;obtain⟨y,hy,he⟩:=hop;cases he;have h1:=λhp=>At h hy hp
  simp only[evalOp,R.run_bind]at hc ⊢;generalize((rdA y).run σ).2=d at *;generalize((rdA y).run σ).1=p at *;cases d<;>try exact hc.elim
  case tup ds =>
   obtain⟨q1,q2⟩:=hc;obtain⟨vs,e1,hl,hcel⟩:=h1 q1;have hlt:i<vs.length:=by omega
   refine Snd.pure' h hd (v:=vs[i]) (by simp_all[execOp,Instr.extract]) (Env.Ah (Val.Am ?_))
   refine hcel i _ _ ?_ (aAO hlt);simp[q2]
 | makeFunc fn first caps =>
  simp only[ho,cOp]at hop;split at hop
  ·rename_i f;split at hop
   ·rename_i hf4;have hblt:Nat.blt f 4096=true:=by simp_all
    split at hop
    ·rename_i hfirst;simp only[aAA,aA]at hop;obtain⟨ys,hy,he⟩:=hop;cases he;obtain⟨l,r⟩:=Di h hy;simp only[evalOp,R.run_bind,R.run_pure]at hc ⊢;have hf:first= #[]:=aAm hfirst
     refine Snd.pure' h hd (v:=fnV f (caps.toList.map a.eval)) ?_ ?_
     ·rw[Hf hblt];unfold execOp;rw[ho];have:(caps.toList.map a.eval).toArray=caps.map a.eval:=by grind
      simp_all[Instr.makeFunc]
     ·refine⟨caps.toList.map a.eval,rfl,by simp[l],λj c v hc' hv=>?_⟩
      have:=r j c v hc' hv;have hk:=hc c (aAB hc');cases c<;>first|exact this|cases hk
    ·split at hop
     ·rename_i hcaps;simp only[aAA,aA]at hop;obtain⟨ys,hy,he⟩:=hop;cases he;obtain⟨l,r⟩:=Di h hy;simp only[evalOp,R.run_bind,R.run_pure]at hc ⊢;have hf:caps= #[]:=aAm hcaps;refine Snd.pure' h hd (v:=fnV (4096+f) (first.toList.map a.eval)) ?_ ?_
      ·rw[JI];unfold execOp;rw[ho];have:(first.toList.map a.eval).toArray=first.map a.eval:=by grind
       simp_all[Instr.makeFunc]
      ·refine⟨first.toList.map a.eval,rfl,by simp[l],λj c v hc' hv=>?_⟩
       have:=r j c v hc' hv;have hk:=hc c (aAB hc');cases c<;>first|exact this|cases hk
     ·cases hop
   ·cases hop
  ·cases hop
 | call c =>
  simp only[ho,cOp]at hop;obtain⟨cal,as,ts⟩:=c;unfold GZ at hop;simp only at hop;split at hop
  ·grind [aA,Mx]
  ·rename_i x t has hts;have e1:as= #[x]:=by grind
   have e2:ts= #[t]:=by grind
   subst e1;subst e2;have fin:∀ (str:Bool) (y:Arg),Ai x=some y->dop= .len str y->(str=false->∃ e,P.underlying t=some (.slice e))->(str=true->P.underlying t=some .string)->Snd P N w0 F0 M B0 σ β a w o nv ((evalOp Γ nv o.dst dop).run σ):=by
    rintro str y hy rfl g1 g2;have hv:=λhp=>At h hy hp
    simp only[evalOp,R.run_bind]at hc ⊢;generalize((rdA y).run σ).2=d at *;generalize((rdA y).run σ).1=p at *;have hrun:∀ A n c,str=false->a.eval x= .slice A n c->(execOp a.eval o).run P w= .ok (.value (.int .i64 n)) w:=by
     intro A n c hs hx;obtain⟨e,hu⟩:=g1 hs;unfold execOp;rw[ho];simp[resolve,invoke,builtin,Builtin.len_,run_underlying hu,hx,goInt]
    cases d<;>try exact hc.elim
    case sl es =>
     obtain⟨q1,q2⟩:=hc;have hx:=hv q1;have:∃ A c,a.eval x= .slice A es.length c:=by
      generalize a.eval x=xx at hx;cases hx with
      | sl0 A c=>simp_all
      | sl es b o c s vf hc hs hF h1 hh=>simp_all
     obtain⟨A,c,hA⟩:=this;exact Snd.pure' h hd (hrun A _ c q2 hA) (Env.Ae (.int _ _))
    case osl g v i n =>
     obtain⟨q1,q2⟩:=hc;obtain⟨L,A,_,hA,_⟩:=hv q1;exact Snd.pure' h hd (hrun A _ _ q2 hA) (Env.Ae (.int _ _))
    case vsl g v n =>
     obtain⟨q1,q2⟩:=hc;obtain⟨L,b,_,_,hA⟩:=hv q1;exact Snd.pure' h hd (hrun _ _ _ q2 hA) (Env.Ae (.int _ _))
    case nils =>
     obtain⟨q1,q2⟩:=hc;exact Snd.pure' h hd (hrun none 0 0 q2 (EV (hv q1))) (Env.Ae (.int _ _))
    case str s =>
     obtain⟨q1,q2⟩:=hc;have e1:=Ci (hv q1);refine Snd.pure' h hd (v:=.int .i64 s.length) ?_ (Env.Ae (.int _ _));unfold execOp;rw[ho];have e3:(⟨s.toArray⟩:ByteArray).size=s.length:=by simp[ByteArray.size]
     simp[resolve,invoke,builtin,Builtin.len_,run_underlying (g2 q2),e1,goInt,e3]
   grind [aA]
  ·rename_i x y t u has hts;have e1:as= #[x,y]:=by grind
   have e2:ts= #[t,u]:=by grind
   subst e1;subst e2;split at hop
   ·rename_i e e' hu hu';simp only[aAA,aA]at hop
    grind [aA,CO,NJ]
   ·cases hop
  ·rename_i x y t u has hts;have e1:as= #[x,y]:=by grind
   have e2:ts= #[t,u]:=by grind
   grind [aA,NM]
  ·exfalso;split at hop
   ·simp only[aAA,aA]at hop;obtain⟨_,_,_,_,he⟩:=hop;cases he;cases hm
   ·cases hop
  ·rename_i as' hcal has;simp only[aAA,aA]at hop;obtain⟨ys,hy,he⟩:=hop;cases he;simp only[evalOp,R.run_bind]at hc ⊢;generalize hds:(AJ ys).run σ=ds at *;split at hc
   ·rename_i x y;simp only[R.run_pure,Bu]at hc ⊢;obtain⟨⟨q1,q2⟩,q3⟩:=hc;obtain⟨p,q,has',e1,e2⟩:=Jp h hy hds;obtain⟨k,m,n,r1,r2,r3⟩:=FU (e1.strip q1) (e2.strip q2) q3;have hasA:as= #[p,q]:=by grind
    subst hasA;rw[r3];refine Snd.pure' h hd (v:=.int k (PJ m n)) ?_ (Env.Ae (.int _ _));simp_all[execOp,resolve,invoke,builtin,Builtin.max_,Builtin.max2,PJ]
   ·rename_i x y z;simp only[R.run_pure,Bu]at hc ⊢;obtain⟨⟨q1,q2,q3,q4⟩,q5⟩:=hc;obtain⟨p,q,r,has',e1,e2,e3⟩:=KO h hy hds;obtain⟨k,m,n,r1,r2,r3⟩:=FU (e1.strip q1) (e2.strip q2) q4;rw[r3]at q5 ⊢;obtain⟨k',m',n',r4,r5,r6⟩:=FU (F:=F) (β:=β) (x:=.int k (PJ m n)) ((Env.Ae (.int _ _)).strip rfl) (e3.strip q3) q5;injection r4 with i1 i2
    subst i1;subst i2;have r6:(DP PJ (.int k (PJ m n)) (strip z).2).2= .int k (PJ (PJ m n) n'):=r6;have hasA:as= #[p,q,r]:=by grind
    subst hasA;rw[r6];refine Snd.pure' h hd (v:=.int k (PJ (PJ m n) n')) ?_ (Env.Ae (.int _ _));unfold execOp;rw[ho];simp[resolve,invoke,builtin,Builtin.max_,Builtin.max2,r1,r2,r5,PJ];rfl
   simp_all
  ·rename_i as' hcal has;simp only[aAA,aA]at hop;obtain⟨ys,hy,he⟩:=hop;cases he;simp only[evalOp,R.run_bind]at hc ⊢;generalize hds:(AJ ys).run σ=ds at *;split at hc
   ·rename_i x y;simp only[R.run_pure,Bu]at hc ⊢;obtain⟨⟨q1,q2⟩,q3⟩:=hc;obtain⟨p,q,has',e1,e2⟩:=Jp h hy hds;obtain⟨k,m,n,r1,r2,r3⟩:=FU (e1.strip q1) (e2.strip q2) q3;have hasA:as= #[p,q]:=by grind
    subst hasA;rw[r3];refine Snd.pure' h hd (v:=.int k (RQ m n)) ?_ (Env.Ae (.int _ _));simp_all[execOp,resolve,invoke,builtin,Builtin.min_,Builtin.min2,RQ]
   simp_all
  ·cases hop;exact hc.elim
 | makeMap t r =>
  exfalso;cases r<;>simp only[ho,cOp,aAA,aA]at hop
  ·obtain⟨_,_,he⟩:=hop;cases he;cases hm
  ·cases hop;exact hc
 | lookup t x i b =>
  exfalso;cases b<;>simp only[ho,cOp,aAA,aA]at hop
  ·obtain⟨_,_,_,_,_,_,he⟩:=hop;cases he;cases hm
  ·cases hop;exact hc
 | mapUpdate t x i y =>
  exfalso;simp only[ho,cOp,aAA,aA]at hop;obtain⟨_,_,_,_,_,_,_,_,he⟩:=hop;cases he;cases hm
 | range t x =>
  exfalso;simp only[ho,cOp]at hop;split at hop
  ·simp only[aAA,aA]at hop;obtain⟨_,_,he⟩:=hop;cases he;cases hm
  ·cases hop;exact hc
 | next x b =>
  exfalso;cases b<;>simp only[ho,cOp,aAA,aA]at hop
  ·cases hop;exact hc
  ·obtain⟨_,_,he⟩:=hop;cases he;cases hm
 | makeInterface t x =>
  have key:∀ u ax,P.underlying t=some u->(∀ ms,u≠ .interface ms)->Ai x=some ax-> .mkI t ax=dop->Snd P N w0 F0 M B0 σ β a w o nv ((evalOp Γ nv o.dst dop).run σ):=by
   intro u ax hu hne hax he;subst he;have h1:=λhp=>At h hax hp
   simp only[evalOp,R.run_bind,R.run_pure]at hc ⊢;obtain⟨q1,q2⟩:=hc;refine Snd.pure' h hd (v:=.iface t (a.eval x)) ?_ (Env.Ae (.ifc _ _ _ (Hg q2 (h1 q1) F)));simp_all[execOp,Instr.makeInterface,run_underlying]
  simp only[ho,cOp]at hop;split at hop
  ·grind [aA]
  ·grind [aA]
  ·grind [aA]
  ·cases hop;exact hc.elim
 | typeAssert x xt t ok =>
  cases ok with
  | false =>
   simp only[ho,cOp,Option.some.injEq]at hop;subst hop;exact hc.elim
  | true =>
   simp only[ho,cOp]at hop;split at hop
   ·cases hop;exact hc.elim
   ·rename_i u z hne hu hz;split at hop
    ·rename_i hzg;simp only[aAA,aA]at hop;obtain⟨ax,hax,he⟩:=hop;cases he;obtain⟨i,zv,hi,hzv,hone,hsz,rfl⟩:=Cy hz;have h1:=λhp=>At h hax hp
     simp only[evalOp,R.run_bind]at hc ⊢;generalize((rdA ax).run σ).2=d at *;generalize((rdA ax).run σ).1=p at *;cases d<;>try exact hc.elim
     case ifc t' d' =>
      have hv:Fro F (.ifc t' d') (a.eval x):=h1 hc;generalize hxv:a.eval x=xv at hv;cases hv with
      | ifc _ _ v hv =>
       have fro2:∀ (c:D) (y:Value) (b:Bool),Fro F c y->Env F β (.tup [c,.bool b]) (.tuple #[y,.bool b]):=λc y b hcy =>
        Env.Ae (.tup [c,.bool b] [y,.bool b] rfl λj c' v' e1 e2=>by
         match j with
         | 0=>simp_all
         | 1=>cases e1;cases e2;exact .bool _
         | j+2=>simp at e1)
       by_cases ht:t'=t
       ·subst ht;simp only[show aAt t' t'=true from Nat.beq_refl t',cond_true]
        refine Snd.pure' h hd (v:=.tuple #[v,.bool true]) ?_ (fro2 _ _ _ hv);simp_all[execOp,Instr.typeAssert,run_underlying]
       ·simp only[show aAt t' t=false from Bool.eq_false_iff.2 λe=>ht (aAc e),cond_false]
        refine Snd.pure' h hd (v:=.tuple #[zv,.bool false]) ?_ (fro2 _ _ _ (GA zv hone));simp_all[execOp,Instr.typeAssert,run_underlying,zeroValue,typeInfo]
    ·cases hop;exact hc.elim
   ·cases hop;exact hc.elim
 | _ =>
  simp only[ho,cOp,Option.some.injEq]at hop;subst hop;exact hc.elim
end
section
variable {N:Nat} {w0:World} {F0:Fz} {M:Nat->Prop} {B0:Bt} {σ:S} {F:Fz} {β:Bt} {a:Act} {w:World} {P:Program}
theorem Sim.skip (h:Sim N w0 F0 M B0 σ F β a w) {dst:Option Nat} (hd:∀ t,dst=some t->t<N) (c:Prop) :
  Sim N w0 F0 M B0 (σ.app ⟨c,Ad dst (.when false (.bool false)),[]⟩) F β (a.put dst undef) w:=by
 have henv:∀ t,Env F β ((σ.app ⟨c,Ad dst (.when false (.bool false)),[]⟩).ge t) ((a.put dst undef).tmps.getD t undef):=by
  intro t;rw[GI]
  by_cases hdt:dst=some t
  ·rw[if_pos ⟨hdt,by rw[h.size];simp_all⟩]
   subst hdt;simp only[S.ge,S.app,Ad,List.cons_append,aAu,look,if_true,aAE];exact⟨λe=>(by cases e),λ_=>rfl⟩
  ·rw[if_neg (λe=>hdt e.1)]
   have:(σ.app ⟨c,Ad dst (.when false (.bool false)),[]⟩).ge t=σ.ge t:=by
    cases dst with
    | none=>rfl
    | some t' =>
     simp only[S.ge,S.app,Ad,List.cons_append,aAu,look]
     grind
   rw[this];exact h.env t
 exact{ nam:=h.nam,size:=by rw[BR];exact h.size,defers:=by rw[Bq];exact h.defers,env:=henv,own:=h.own,dist:=h.dist,sep:=h.sep,Ac:=(by obtain⟨φ,hφ⟩:=h.Ac;exact⟨φ,hφ.congr λ_=>rfl⟩),frz:=h.frz,fin:=h.fin,step:=h.step }
theorem IY {Γ:Aq} (h:Sim N w0 F0 M B0 σ F β a w) {ops:Array Oper} {draw:Bool} {i:Nat} {o:Oper} {o':As} (hop:Cl P N ops draw i o=some o') {nv:Nat}
  (hc:((Ar Γ nv o').run σ).c) (K:Act->World->Prop) (Q:Exit->Act->World->Prop)
  (hon:∀ dop,cOp P o.type o.op=some dop->CN N o.dst dop=true->o'.op=dop->((evalOp Γ nv o.dst dop).run σ).c->σ.app ((Ar Γ nv o').run σ)=σ.app ((evalOp Γ nv o.dst dop).run σ)->o.wp P a w K Q)
  (hoff:(∀ t,o.dst=some t->t<N)->σ.app ((Ar Γ nv o').run σ)=σ.app ⟨True,Ad o.dst (.when false (.bool false)),[]⟩->K (a.put o.dst undef) w) :
  if Region.wanted o (yielded ops a.tmps)then o.wp P a w K Q else K (a.put o.dst undef) w:=by
 unfold Cl at hop;simp only[aA]at hop;obtain⟨dop,hdop,g,hg,he⟩:=hop;split at he
 ·rename_i hcond;simp only[aAS]at hcond;obtain⟨hdst,_⟩:=hcond;cases he;cases hgd:o.guard with
  | none =>
   rw[hgd]at hg;simp only[Fo,Option.some.injEq]at hg;subst hg;rw[if_pos (by grind [Region.wanted])]
   exact hon dop hdop hdst rfl hc rfl
  | some p =>
   obtain⟨j,want⟩:=p;rw[hgd]at hg;simp only[Fo,aA]at hg;obtain⟨oj,hoj,t,ht,hg⟩:=hg;cases hg;simp only[Ar,R.Ji]at hc hon hoff;have hwant:Region.wanted o (yielded ops a.tmps)=(guardOf (σ.ge t) want).2:=by
    have hy:yielded ops a.tmps j=match a.tmps[t]? with|some (.bool b)=>some b|_=>none:=by
     grind [yielded]
    have henv:=h.env t;have hget:∀ b:Bool,a.tmps.getD t undef= .bool b->a.tmps[t]? =some (.bool b):=by
     intro b hb;rw[aAD]at hb;cases hh:a.tmps[t]? with
     | none=>rw[hh]at hb;cases hb
     | some v=>simp_all
    have hgc:(guardOf (σ.ge t) want).1:=by
     split at hc
     all_goals simp_all
    simp only[Region.wanted,hgd];rw[hy];generalize σ.ge t=d at henv hgc ⊢;cases d<;>try exact hgc.elim
    case bool b =>
     rw[hget b (BL (β:=β) (F:=F) henv)]
     grind [guardOf]
    case when p d =>
     cases d<;>try exact hgc.elim
     case bool b =>
      cases p with
      | true =>
       rw[hget b (BL (β:=β) (F:=F) (henv.1 rfl))];simp_all[guardOf]
      | false =>
       have hz:=henv.2 rfl;simp only[guardOf,Bool.false_and];have:∀ b:Bool,a.tmps[t]? ≠some (.bool b):=by
        intro b e;rw[aAD,e]at hz;cases hz
       simp_all
   rw[hwant];cases hq:(guardOf (σ.ge t) want).2 with
   | true =>
    simp only[hq,if_true,R.run_bind,R.run_pure]at hc hon hoff ⊢;exact hon dop hdop hdst rfl hc.2 rfl
   | false =>
    simp only[hq,aAU,if_false,R.AM]at hc hon hoff ⊢
    grind [DN]
 ·cases he
theorem KG {Γ:Aq} (hΓ:∀ k sp,Γ k=some sp->BB P F0 (k % 4096) sp) (h:Sim N w0 F0 M B0 σ F β a w) {ops:Array Oper} {draw:Bool} {i:Nat} {o:Oper} {o':As} (hop:Cl P N ops draw i o=some o') (hm:Dr o'.op=false) {nv:Nat} (hnv:β nv=none)
  (hc:((Ar Γ nv o').run σ).c) (K:Act->World->Prop) (Q:Exit->Act->World->Prop)
  (hK:∀ a' w' F' β',Sim N w0 F0 M B0 (σ.app ((Ar Γ nv o').run σ)) F' β' a' w'->Aw β β'->(∀ v,v≠nv->β' v=β v)->K a' w') :
  if Region.wanted o (yielded ops a.tmps)then o.wp P a w K Q else K (a.put o.dst undef) w :=
 IY h hop hc K Q (λ_ hdop hdst e hc' e'=>Mi hΓ h hdop hdst (by simp_all) hnv hc' K Q λa' w' F' β' hS=>hK a' w' F' β' (by simp_all))
  λhd e=>hK _ w F β (by rw[e];exact h.skip hd _) (Aw.refl _) λ_ _=>rfl
end
open Go.MapKept
variable {e tt:TypeId} {off nv t g v i ty:Nat} {d z:D} {s:ByteArray} {es es':List D} {o:Oper} {px x:Value} {L:Loc} {Γ:Aq} {parts:Array (Nat×Operand)} {as:List Operand} {ys:List Arg} {dop:DOp} {dst:Option Nat} {ops:Array Oper} {draw:Bool} {o':As} {wo:List (Nat×Ab)} {w1:World} {F1:Fz} {M1:Nat->Prop} {B1:Bt} {c:Prop} {rn:Nat->Nat}
theorem Hk:∀ {es:List D} {l:List MapEntry} {e:D} {m:MapEntry},CV es l->CV [e] [m]->CV (es++[e]) (l++[m])
 | [],[],_,_,_,k=>k
 | _::_,_::_,_,_,h,k=>⟨h.1,Hk h.2 k⟩
theorem DI {n:Int}:∀ {es:List D} {l:List MapEntry} (_:CV es l) (i:Nat),
  (aAi (.int .i64) (.int .i64 n) l i=some none/\(∀ z,Dd z n es=z)/\(∀ u,De n u es=es++[.agg [.int .i64 n,u]])/\Dc n es=es) \/
  ∃ j m u,aAi (.int .i64) (.int .i64 n) l i=some (some (i+j,m.val))/\l[j]? =some m/\m.key= .int .i64 n/\(∀ z,Dd z n es=u)/\AW u=true/\(∀ F,Fro F u m.val) /\
   (∀ u' m',m'.key= .int .i64 n->AW u'=true->(∀ F,Fro F u' m'.val)->CV (De n u' es) (l.set j m'))/\CV (Dc n es) (l.eraseIdx j)
 | [],[],_,i=>.inl ⟨rfl,λ_=>rfl,λ_=>rfl,rfl⟩
 | e::es,m::l,h,i=>by
  obtain⟨⟨k,u,rfl,h2,h3,h4⟩,h5⟩:=h
  by_cases e:k=n
  ·subst e;refine .inr ⟨0,m,u,?_,rfl,h2,λz=>by simp[Dd],h3,h4,λu' m' k1 k2 k3=>?_,?_⟩
   ·grind [aAi,aBA]
   ·simp only[De,if_true,List.set_cons_zero];exact⟨⟨k,u',rfl,k1,k2,k3⟩,h5⟩
   grind [Dc]
  ·have hs:aBA (.int .i64) (.int .i64 n) m.key=some false:=by
    grind [aBA]
   rcases DI (n:=n) h5 (i+1)with⟨g1,g2,g3,g4⟩|⟨j,m2,u2,g1,g2,g3,g4,g5,g6,g7,g8⟩
   ·grind [aAi,Dd,De,Dc]
   ·refine .inr ⟨j+1,m2,u2,by grind [aAi],by simp_all,g3,λz=>by grind [Dd],g5,g6,λu' m' k1 k2 k3=>?_,?_⟩
    ·simp only[De,if_neg e,List.set_cons_succ];exact⟨⟨k,u,rfl,h2,h3,h4⟩,g7 u' m' k1 k2 k3⟩
    ·simp only[Dc,if_neg e,List.eraseIdx_cons_succ];exact⟨⟨k,u,rfl,h2,h3,h4⟩,g8⟩
section
variable {P:Program} {w:World} {t:TypeId} {b:Nat} {es:List D}
theorem HG (h:EI P t=some z):∃ k e,P.underlying t=some (.map k e)/\P.underlying k=some (.int .i64)/\Cf P e=some z/\AW z=true:=by
 grind [EI]
theorem Lx (ht:EI P t=some z) {n:Int} (hm:DV w b es):∃ v,(aBB t (.map (some b)) (.int .i64 n) false).run P w= .ok v w/\∀ F,Fro F (Dd z n es) v:=by
 obtain⟨k,e,hu,hk,hz,_⟩:=HG ht;obtain⟨i,zv,hi,hzv,hone,_,rfl⟩:=Cy hz;obtain⟨ents,clock,hb,he⟩:=hm;have hkey:IsKey (.int .i64) (.int .i64 n):=rfl;rcases DI (n:=n) he 0 with⟨g1,g2,_⟩|⟨j,m,u,g1,_,_,g4,_,g6,_⟩
 ·refine⟨zv,?_,λF=>by grind [GA]⟩
  simp[aBB,run_underlying hu,MapKept.run_getObj_map hb,MapKept.run_checkKey hk hkey,MapKept.run_findKey hk g1,zeroValue,typeInfo,hi,hzv,Result.andThen]
 ·refine⟨m.val,?_,λF=>by simp_all⟩
  simp[aBB,run_underlying hu,MapKept.run_getObj_map hb,MapKept.run_checkKey hk hkey,MapKept.run_findKey hk g1,Result.andThen]
theorem LV (ht:EI P t=some z) {n:Int} (hm:DV w b es) {u:D} (hu1:AW u=true) (hux:∀ F,Fro F u x) :
  ∃ ents clock,(aAv t (.map (some b)) (.int .i64 n) x).run P w= .ok () { w with heap:=w.heap.setIfInBounds b (.map ents clock) }/\CV (De n u es) ents.toList:=by
 obtain⟨k,e,hu,hk,hz,_⟩:=HG ht;obtain⟨ents,clock,hb,he⟩:=hm;have hkey:IsKey (.int .i64) (.int .i64 n):=rfl;rcases DI (n:=n) he 0 with⟨g1,_,g3,_⟩|⟨j,m,u2,g1,g2,g3,_,_,_,g7,_⟩
 ·refine⟨ents.push { key:=.int .i64 n,val:=x,born:=clock },clock+1,?_,?_⟩
  ·simp[aAv,run_underlying hu,MapKept.run_getObj_map hb,MapKept.run_checkKey hk hkey,MapKept.run_findKey hk g1,MapKept.run_setObj_map _ hb,Result.andThen]
  ·rw[g3];simp only[Array.toList_push];exact Hk he ⟨⟨n,u,rfl,rfl,hu1,hux⟩,trivial⟩
 ·have hj:ents[j]? =some m:=by simp_all
  refine⟨ents.modify j (λe=>{ e with key:=.int .i64 n,val:=x }),clock,?_,?_⟩
  ·simp[aAv,run_underlying hu,MapKept.run_getObj_map hb,MapKept.run_checkKey hk hkey,MapKept.run_findKey hk g1,hj,g3,MapKept.run_keyThatStays hkey,MapKept.run_setObj_map _ hb,Result.andThen]
  ·have hl:=g7 u { m with key:=.int .i64 n,val:=x } rfl hu1 hux
   have:(ents.modify j (λe=>{ e with key:=.int .i64 n,val:=x })).toList=ents.toList.set j { m with key:=.int .i64 n,val:=x }:=by
    apply aAr
    grind
   simp_all
theorem Lb (ht:EI P t=some z) {n:Int} (hm:DV w b es) {ts:Array TypeId} (hts:ts[0]? =some t) (ty:TypeId) :
  ∃ ents clock,(Builtin.delete_ ts ty #[.map (some b),.int .i64 n]).run P w= .ok (.tuple #[]) { w with heap:=w.heap.setIfInBounds b (.map ents clock) }/\CV (Dc n es) ents.toList:=by
 obtain⟨k,e,hu,hk,hz,_⟩:=HG ht;obtain⟨ents,clock,hb,he⟩:=hm;have hkey:IsKey (.int .i64) (.int .i64 n):=rfl;rcases DI (n:=n) he 0 with⟨g1,_,_,g4⟩|⟨j,m,u2,g1,g2,g3,_,_,_,_,g8⟩
 ·refine⟨ents,clock,?_,by simp_all⟩
  simp[Builtin.delete_,hts,run_underlying hu,MapKept.run_getObj_map hb,MapKept.run_checkKey hk hkey,MapKept.run_findKey hk g1,MapKept.run_setObj_map _ hb,Result.andThen]
 ·refine⟨ents.eraseIdxIfInBounds j,clock,?_,?_⟩
  ·simp[Builtin.delete_,hts,run_underlying hu,MapKept.run_getObj_map hb,MapKept.run_checkKey hk hkey,MapKept.run_findKey hk g1,MapKept.run_setObj_map _ hb,Result.andThen]
  simp_all
end
def Ap (σ:S) (wo:List (Nat×Ab)):Prop:=∀ p∈wo,∀ v o,p.2=some (v,o)->o.fz=true->∃ o0,σ.go p.1=some (v,o0)/\o={ o0 with fz:=true }
theorem Ap.nil (σ:S):Ap σ []:=λp hp=>by cases hp
theorem Ap.append {σ:S} {a b:List (Nat×Ab)} (h:Ap σ a) (k:Ap σ b):Ap σ (a++b):=λp hp=>(aAJ.1 hp).elim (h p) (k p)
theorem Ap.cons {σ:S} {x:Ab} {b:List (Nat×Ab)} (h:∀ v o,x=some (v,o)->o.fz=false) (k:Ap σ b):Ap σ ((g,x)::b):=λp hp v o e hf=>by
 rcases List.mem_cons.1 hp with rfl|hp
 ·simp_all
 ·exact k p hp v o e hf
theorem Ap.AB {σ:S} {x:Ab} (h:∀ v o,x=some (v,o)->o.fz=false):Ap σ (Dw.AB dst x):=by
 cases dst
 ·exact Ap.nil σ
 ·exact Ap.cons h (Ap.nil σ)
theorem Ap.CH {σ:S} {r:Bool} {x:Ab} (h:∀ v o,x=some (v,o)->o.fz=false):Ap σ (Dw.CH r dst x):=by
 cases dst
 ·exact Ap.nil σ
 ·exact Ap.cons h (Ap.nil σ)
section
variable {σ:S}
theorem HK (d:D) (hc:((AK d).run σ).1):Ap σ ((AK d).run σ).2.2:=by
 cases d<;>first|exact Ap.nil σ|skip
 case osl g v i n =>
  simp only[AK,R.run]at hc ⊢;cases hg:σ.go g with
  | none=>simp_all
  | some p =>
   obtain⟨v',o⟩:=p;rw[hg]at hc;simp only[R.run]at hc ⊢;obtain⟨rfl,_,_⟩:=hc;intro p hp v1 o1 e _;simp_all
theorem Jf:∀ (ds:List D),((AY ds).run σ).1->Ap σ ((AY ds).run σ).2.2
 | [],_=>Ap.nil σ
 | d::r,hc=>by
  unfold AY at hc ⊢;simp only[R.run_bind,R.run_pure]at hc ⊢;exact(HK d hc.1).append (Jf r hc.2)
theorem Jh (d:D) (hc:((res d).run σ).1):Ap σ ((res d).run σ).2.2:=by
 cases d
 case agg cs =>
  obtain⟨c0,hc1,e⟩:=Ey σ cs
  grind [Jf]
 all_goals (simp only[res]at hc ⊢;exact HK _ hc)
theorem JP (r:Bool) (d:D) (hc:((EJ r d).run σ).1):Ap σ ((EJ r d).run σ).2.2:=by
 cases d
 case row=>exact Ap.nil σ
 case hole=>exact hc.elim
 all_goals (simp only[EJ]at hc ⊢;exact HK _ hc)
theorem Jc (r:Bool):∀ (ds:List D),((BM r ds).run σ).1->Ap σ ((BM r ds).run σ).2.2
 | [],_=>Ap.nil σ
 | d::l,hc=>by
  unfold BM at hc ⊢;simp only[R.run_bind,R.run_pure]at hc ⊢;exact(JP r d hc.1).append (Jc r l hc.2)
theorem On (r:Bool) (d:D) (hc:((pas r d).run σ).1):Ap σ ((pas r d).run σ).2.2:=by
 cases d
 case agg cs =>
  simp_all[JQ,Jc]
 all_goals (simp only[pas]at hc ⊢;exact JP r _ hc)
theorem Nk (var:Bool) (d:D):∀ p∈((Bs var d).run σ).2.2,p.2=none:=by
 intro p hp;cases d<;>first|(cases hp;done)|skip
 case osl g v i n =>
  cases i with
  | succ i=>cases hp
  | zero =>
   grind [Bs,R.run]
theorem IG (var:Bool):∀ (ds:List D),∀ p∈((AF var ds).run σ).2.2,p.2=none
 | [],p,hp=>by cases hp
 | d::l,p,hp=>by
  unfold AF at hp;simp only[R.run_bind,R.run_pure,aAJ]at hp;exact hp.elim (Nk var d p) (IG var l p)
theorem Ap.Nb (h:∀ p∈wo,p.2=none):Ap σ wo:=λp hp v o e=>by grind
theorem Ho:∀ (l:List (Nat×Arg)),((AV l).run σ).1->Ap σ ((AV l).run σ).2.2
 | [],_=>Ap.nil σ
 | (i,x)::r,hc=>by
  unfold AV at hc ⊢;simp only[R.run_bind,R.run_pure]at hc ⊢;exact(Jh _ hc.1).append (Ho r hc.2)
theorem LK (s ty:Nat) (d:D):∀ p∈((target s ty d).run σ).2.2.1,p.2=none:=by
 intro p hp;cases d<;>first|(cases hp;done)|skip
 grind [target,R.run]
def Dj (σ:S) (w:List (Nat×Ab)) (ps:List (Nat×Nat×Own)):Prop:=Ap σ w/\∀ p∈ps,p.2.2.fz=false
theorem Dj.append {w w':List (Nat×Ab)} {ps ps':List (Nat×Nat×Own)} (h:Dj σ w ps) (k:Dj σ w' ps'):Dj σ (w++w') (ps++ps') :=
 ⟨h.1.append k.1,λp hp=>(aAJ.1 hp).elim (h.2 p) (k.2 p)⟩
theorem LD (s ty:Nat) (d:D) (hc:((Cu s ty d).run σ).1):Dj σ ((Cu s ty d).run σ).2.2.1 ((Cu s ty d).run σ).2.2.2:=by
 cases d<;>first|exact hc.elim|skip
 case optr g v i off =>
  simp only[Cu,R.run]at hc ⊢;cases hg:σ.go g with
  | none=>simp_all
  | some q =>
   obtain⟨v',o⟩:=q;rw[hg]at hc;simp only[R.run_bind,R.run_pure]at hc ⊢;refine⟨On _ _ hc.2,λp hp=>?_⟩
   simp_all
theorem Gj (ptr:List (Nat×(Nat×Nat))) (j:Nat) (d:D) (hc:((AG ptr j d).run σ).1):Dj σ ((AG ptr j d).run σ).2.2.1 ((AG ptr j d).run σ).2.2.2:=by
 unfold AG at hc ⊢;split at hc
 ·grind [LD]
 ·simp only[R.run_bind,R.run_pure]at hc ⊢;exact⟨Jh d hc,λp hp=>by cases hp⟩
theorem Gb (ptr:List (Nat×(Nat×Nat))):∀ (j:Nat) (ds:List D),((Bd ptr j ds).run σ).1->Dj σ ((Bd ptr j ds).run σ).2.2.1 ((Bd ptr j ds).run σ).2.2.2
 | _,[],_=>⟨Ap.nil σ,λp hp=>by cases hp⟩
 | j,d::r,hc=>by
  unfold Bd at hc ⊢;simp only[R.run_bind,R.run_pure]at hc ⊢;exact(Gj ptr j d hc.1).append (Gb ptr (j+1) r hc.2.1)
theorem Kt (ptr:List (Nat×(Nat×Nat))) (j:Nat) (d:D) (hc:((BG ptr j d).run σ).1):Dj σ ((BG ptr j d).run σ).2.2.1 ((BG ptr j d).run σ).2.2.2:=by
 cases d
 case clo f caps =>
  unfold BG at hc ⊢;simp only at hc ⊢;split at hc
  all_goals simp_all[Gb]
 all_goals (simp only[BG]at hc ⊢;exact Gj ptr j _ hc)
theorem FZ (ptr:List (Nat×(Nat×Nat))):∀ (j:Nat) (ds:List D),((Af ptr j ds).run σ).1->Dj σ ((Af ptr j ds).run σ).2.2.1 ((Af ptr j ds).run σ).2.2.2
 | _,[],_=>⟨Ap.nil σ,λp hp=>by cases hp⟩
 | j,d::r,hc=>by
  unfold Af at hc ⊢;simp only[R.run_bind,R.run_pure]at hc ⊢;exact(Kt ptr j d hc.1).append (FZ ptr (j+1) r hc.2.1)
theorem Gg:∀ (ps:List (Nat×Nat×Own)) (ds:List D),(∀ p∈ps,p.2.2.fz=false)->Ap σ (Ak ps ds)
 | [],_,_=>Ap.nil σ
 | (g,v,o)::r,ds,h=>Ap.cons (λv' o' e=>by cases e;simp_all) (Gg r _ λp hp=>h p (List.mem_cons_of_mem _ hp))
theorem fresh {o:Own} (h:o.fz=false):∀ v o',some (nv,o)=some (v,o')->o'.fz=false:=λv o' e=>by simp_all
theorem Ku {sp:Spec} {p:Prop} {ds:List D} {w:List (Nat×Ab)} {ps:List (Nat×Nat×Own)} (h:Dj σ w ps):Ap σ (AX dst nv sp p ds w ps).wo:=by
 unfold AX;have hb:=(Gg ps (sp.eff ds) h.2).append h.1;split
 ·exact hb
 ·exact Ap.nil σ
 ·split
  ·rw[aAh];exact(Ap.AB (fresh rfl)).append hb
  grind [Ap.nil]
 ·split
  ·rw[aAh];exact(Ap.CH (fresh rfl)).append hb
  grind [Ap.nil]
 ·rw[aAh];exact(Ap.AB (fresh rfl)).append hb
 ·split
  ·rw[aAh];exact(Ap.AB (fresh rfl)).append hb
  grind [Ap.nil]
 all_goals grind [Ap.nil]
theorem Mg {q:Co} {ds:List D} (hc:((Cc dst q ds).run σ).c):Ap σ ((Cc dst q ds).run σ).wo:=by
 unfold Cc at hc ⊢
 grind [Ap.nil,R.run,Ap.cons]
theorem HU {op:DOp} (hm:Dr op=false) (hc:((evalOp Γ nv dst op).run σ).c):Ap σ ((evalOp Γ nv dst op).run σ).wo:=by
 cases op
 case asg x sl =>
  simp only[evalOp,R.run_bind]at hc ⊢;split at hc
  ·simp_all[Ap.AB]
  ·rename_i g v n p _;simp only[R.run]at hc ⊢;cases hg:σ.go g with
   | none=>simp_all
   | some q =>
    obtain⟨v',o⟩:=q;rw[hg]at hc;simp only at hc ⊢;split
    ·exact Ap.nil σ
    ·rename_i hf;split
     ·exact Ap.nil σ
     ·exact(Ap.CH (fresh (by simp_all))).append (Ap.cons (λ_ _ e=>by cases e) (Ap.nil σ))
  ·exact Ap.nil σ
 case new=>exact Ap.AB (fresh rfl)
 case box x s ty =>
  grind [evalOp,R.run_bind,R.run_pure,Ap.AB]
 case bldS s ty z len parts =>
  simp only[evalOp,R.run_bind,R.run_pure]at hc ⊢;exact(Ap.AB (fresh rfl)).append (Ho _ hc.1)
 case ld n agg a =>
  simp only[evalOp,R.run_bind]at hc ⊢;split at hc
  all_goals grind [R.run,Ap.nil,Ap.cons,R.run_bind,R.run_pure]
 case st n a x =>
  simp only[evalOp,R.run_bind]at hc ⊢;split at hc
  ·rename_i g v i off _;simp only[R.run]at hc ⊢;cases hg:σ.go g with
   | none=>simp_all
   | some q =>
    obtain⟨v',o⟩:=q;rw[hg]at hc;simp only at hc ⊢;split at hc
    ·rename_i hr;rw[if_pos hr];simp only[R.run_bind,R.AM]at hc ⊢;exact Ap.cons (fresh hc.2.2.2.2.1) (Ap.Nb (IG _ _))
    ·rename_i hr;rw[if_neg hr];split at hc
     all_goals simp_all[Ap.cons,Ap.nil,Jh]
  simp_all
 case mkS s ty bytes z len cap =>
  simp only[evalOp,R.run_bind];split
  all_goals simp_all[Ap.AB,Ap.nil]
 case call f args =>
  simp only[evalOp,R.run_bind]at hc ⊢;split at hc
  ·simp only[R.run_bind]at hc ⊢;split at hc
   ·grind [R.run_bind,R.run_pure,Ku,FZ,AX,Mg]
   simp_all
  simp_all
 case app s ty bytes x y =>
  simp only[evalOp,R.run_bind,R.run_pure];exact(Ap.CH (fresh rfl)).append (Ap.Nb (LK _ _ _))
 case bldV ty len parts =>
  grind [evalOp,R.run_bind,R.run_pure,Ap.AB]
 case cpy x y =>
  simp only[evalOp,R.run_bind]at hc ⊢
  grind [R.run,Ap.nil,Ap.cons]
 all_goals first
  | (cases hm;done)
  | (simp only[evalOp,R.run_bind,R.run_pure,Bu];(repeat' split)<;>first|exact Ap.nil σ|(simp only[R.run];split<;>exact Ap.nil σ)|grind [R.run_bind,R.run_pure,Ap.nil])
theorem Ap.look (h:Ap σ wo) {o:Own} (hl:Dw.look wo g=some (some (v,o))) (hf:o.fz=true):∃ o0,σ.go g=some (v,o0)/\o={ o0 with fz:=true } :=
 h (g,some (v,o)) (Bi hl) v o rfl hf
variable {N:Nat} {w0:World} {F0:Fz} {M:Nat->Prop} {B0:Bt} {F:Fz} {β:Bt} {a:Act} {w:World} {P:Program}
theorem Cp.app (h:Cp w0 M w1 F1 M1 B1 σ w) (hS:Sim N w1 F1 M1 B1 σ F β a w) {u:Out} (hu:Ap σ u.wo) {a':Act} {w':World} {F':Fz} {β':Bt} (hS':Sim N w1 F1 M1 B1 (σ.app u) F' β' a' w'):Cp w0 M w1 F1 M1 B1 (σ.app u) w':=by
 refine(h.later hS.step hS'.step).sub λg v o hg h0=>?_
 have hfz:o.fz=true:=by
  cases hf:o.fz with
  | true=>rfl
  | false=>exact(hS'.Hm hg hf h0).elim
 rw[S.Cs]at hg;cases hl:Dw.look u.wo g with
 | none=>simp_all
 | some x =>
  rw[hl]at hg;simp only at hg;subst hg;obtain⟨o0,k1,k2⟩:=hu.look hl hfz;have hs0:o0.s=0:=by simp_all
  have:=(h.at_ g v o0 k1 hs0).1;rw[k1,k2];cases o0;simp_all
theorem Nz {o:As} (hm:Dr o.op=false) (hc:((Ar Γ nv o).run σ).c):Ap σ ((Ar Γ nv o).run σ).wo:=by
 unfold Ar at hc ⊢;split
 ·grind [HU]
 ·rename_i t want hg;rw[hg]at hc;simp only[R.Ji]at hc ⊢;split
  all_goals simp_all[HU,Ap.nil]
end
section
variable {N:Nat} {w0:World} {F0:Fz} {M:Nat->Prop} {B0:Bt} {σ:S} {F:Fz} {β:Bt} {a:Act} {w:World} {P:Program}
theorem Sim.OK (h:Sim N w0 F0 M B0 σ F β a w) {o:Own} (hg:σ.go g=some (v,o)) (hf:o.fz=true) (hs:o.s=0) (es:List D) (hd:∀ t,dst=some t->t<N) (hx:Env F β d x) :
  Sim N w0 F0 M B0 (σ.app ⟨c,Ad dst d,[(g,some (v,{ o with es:=es }))]⟩) F β (a.put dst x) w:=by
 have h1:Sim N w0 F0 M B0 (σ.app ⟨c,Ad dst d,[]⟩) F β (a.put dst x) w:=h.put hd hx rfl rfl rfl rfl;have hgo:∀ k,(σ.app ⟨c,Ad dst d,[(g,some (v,{ o with es:=es }))]⟩).go k=if k=g then some (v,{ o with es:=es })else σ.go k:=by
  intro k;rw[S.Cs];simp only[look]
  grind
 have key:∀ k u q,(σ.app ⟨c,Ad dst d,[(g,some (v,{ o with es:=es }))]⟩).go k=some (u,q)->q.fz=false->σ.go k=some (u,q):=by
  grind
 refine{ size:=h1.size,defers:=h1.defers,env:=h1.env,own:=?_,dist:=λg g' v v' o o' L L' b k k' f f'=>h.dist g g' v v' o o' L L' b (key _ _ _ k f) (key _ _ _ k' f') f f',sep:=λg v o L b k f=>h.sep g v o L b (key _ _ _ k f) f,Ac:=?_,frz:=h.frz,fin:=h.fin,step:=h.step,nam:=h.nam }
 ·intro k u q hk;rw[hgo]at hk;split at hk
  ·cases hk;obtain⟨L,hL,hz,_⟩:=h.own g v o hg;refine⟨L,hL,λ_=>?_,λe=>by simp_all⟩
   rcases hz hf with hz|hz
   ·exact .inl hz
   ·have:=hz.2.2.1;omega
  ·exact h.own k u q hk
 ·obtain⟨φ,hφ⟩:=h.Ac
  exact⟨φ,λg v o L b C i j e x s ty es hr k f=>hφ.row g v o L b C i j e x s ty es hr (key _ _ _ k f) f,λg v o L b C i j e x nm u n hr k f=>hφ.hole g v o L b C i j e x nm u n hr (key _ _ _ k f) f,hφ.none_,hφ.lt,hφ.new,
   λg i j b g' v' o' L' hb k f=>hφ.sep g i j b g' v' o' L' hb (key _ _ _ k f) f,hφ.dis⟩
theorem Ay.Jj (hb:Dg w0 F0 M B0 w1 F1 M1 B1) (h:Sim N w1 F1 M1 B1 σ F β a w) (hm:Cp w0 M w1 F1 M1 B1 σ w) {o:Own} (hg:σ.go g=some (v,o)) (hs:o.s=0) {b:Nat} (hB:B1 v=some ⟨none,o.ty,b⟩) {ob:Obj} (he:∀ w':World,w'.heap[b]? =some ob->DW w' b o.ty es) (hlo:Lone ob) (hd:∀ t,dst=some t->t<N) (hx:Env F β d x) :
  Ay N w0 F0 M B0 (σ.app ⟨c,Ad dst d,[(g,some (v,{ o with es:=es }))]⟩) F β (a.put dst x) { w with heap:=w.heap.setIfInBounds b ob }:=by
 obtain⟨hf,b',k1,kb,k5⟩:=hm.at_ g v o hg hs;rw[hB]at k1;cases k1;obtain⟨k2,k3,k4,k6⟩:=kb b (.inl rfl);obtain⟨ob0,hw⟩:=k5.one;have hbw:b<w.heap.size:=(aAp.1 hw).1;have hne:∀ b',b'≠b->(w.heap.setIfInBounds b ob)[b']? =w.heap[b']?:=λb' hb'=>by grind
 refine⟨{ w1 with heap:=w1.heap.setIfInBounds b ob },F1,M1,B1,?_,(h.Oo k2 k3 k4 hw).OK hg hf hs es hd hx,?_⟩
 ·refine⟨⟨hb.stp.os,hb.stp.tape,hb.stp.output,by simpa using hb.stp.size,λb' hb' hM'=>?_,hb.stp.sub,hb.stp.old⟩,hb.new,hb.nam,hb.mark⟩
  have:b'≠b:=by grind
  simp only[aAT,Ne.symm this,if_false];exact hb.stp.block b' hb' hM'
 ·have hgo:∀ k,(σ.app ⟨c,Ad dst d,[(g,some (v,{ o with es:=es }))]⟩).go k=if k=g then some (v,{ o with es:=es })else σ.go k:=by
   intro k;rw[S.Cs];simp only[look]
   grind
  have key:∀ k u q,(σ.app ⟨c,Ad dst d,[(g,some (v,{ o with es:=es }))]⟩).go k=some (u,q)->q.s=0->∃ q0,σ.go k=some (u,q0)/\q0.s=0:=by
   grind
  constructor
  ·intro k u q hk hq;rw[hgo]at hk;split at hk
   ·cases hk;refine⟨hf,b,hB,λbb hbb=>?_,he _ (by simp[hbw])⟩
    obtain rfl:=hbb.lone (o:=ob) (by simp[hbw]) hlo
    simp_all
   ·rename_i hne';obtain⟨q1,b2,q2,q3,q6⟩:=hm.at_ k u q hk hq;have hbn:∀ bb,BP w b2 bb->bb≠b:=by
     rintro bb hbb rfl;exact hne' (hm.dis k g u v q o _ _ b2 bb bb hk hg hq hs q2 hB hbb (.inl rfl))
    refine⟨q1,b2,q2,λbb hbb=>?_,q6.keep λbb hbb=>hne bb (hbn bb hbb)⟩
    have:=q3 bb (hbb.of (hne b2 (hbn b2 (.inl rfl))));simp_all
  ·intro k k' u u' q q' c1 c2 b2 b3 bb hk hk' hq hq' e1 e2 z1 z2;obtain⟨p1,p2,p3⟩:=key k u q hk hq;obtain⟨p1',p2',p3'⟩:=key k' u' q' hk' hq';have old:∀ b2,BP { w with heap:=w.heap.setIfInBounds b ob } b2 bb->BP w b2 bb:=λb2 z=>by
    by_cases e:b2=b
    ·subst e;exact .inl (z.lone (o:=ob) (by simp[hbw]) hlo)
    ·exact z.of (hne b2 e)
   exact hm.dis k k' u u' p1 p1' c1 c2 b2 b3 bb p2 p2' p3 p3' e1 e2 (old _ z1) (old _ z2)
theorem Ay.Hl (h:Ay N w0 F0 M B0 σ F β a w) (hf:∀ v,σ.n<=v->β v=none) (ht:t<N) {ob:Obj} (hty:ty<=2) (hx0:(ty=0/\x= .map (some w.heap.size))\/(ty≠0/\x= .pointer (some ⟨w.heap.size,0,none⟩))) (hes:∀ w':World,w'.heap[w.heap.size]? =some ob->DW w' w.heap.size ty es) (hlo:Lone ob) :
  ∃ β',Ay N w0 F0 M B0 ⟨(t,.mref t σ.n)::σ.e,(t,some (σ.n,⟨true,false,0,ty,es⟩))::σ.o,σ.n+1⟩ F β' (a.put (some t) x) (w.alloc ob)/\∀ v,σ.n+1<=v->β' v=none:=by
 obtain⟨w1,F1,M1,B1,hb,hS,hm⟩:=h;have hnv:=hf σ.n (aAF _);have hβ:Aw β (upB β σ.n ⟨none,ty,w.heap.size⟩):=AZ _ hnv;have hsize:(w.alloc ob).heap.size=w.heap.size+1:=aAw _;have hblk:∀ b,b<w.heap.size->(w.alloc ob).heap[b]? =w.heap[b]?:=λb hb'=>heap_alloc_old w _ hb'
 have hgo:∀ k,(S.mk ((t,.mref t σ.n)::σ.e) ((t,some (σ.n,⟨true,false,0,ty,es⟩))::σ.o) (σ.n+1)).go k=if k=t then some (σ.n,⟨true,false,0,ty,es⟩)else σ.go k:=by
  intro k;simp only[S.go,look]
  grind
 have key:∀ k u q,(S.mk ((t,.mref t σ.n)::σ.e) ((t,some (σ.n,⟨true,false,0,ty,es⟩))::σ.o) (σ.n+1)).go k=some (u,q)->q.fz=false->σ.go k=some (u,q):=by
  grind
 have hst:Stp M1 w1 F1 (w.alloc ob) F:=⟨hS.step.os,hS.step.tape,hS.step.output,by rw[hsize];have:=hS.step.size;omega,λb hb' hM'=>(hblk b (Nat.lt_of_lt_of_le hb' hS.step.size)).trans (hS.step.block b hb' hM'),hS.step.sub,hS.step.old⟩
 have hup:∀ v L,v≠σ.n->upB β σ.n ⟨none,ty,w.heap.size⟩ v=some L->β v=some L:=λv L hv hL=>by grind [Ca]
 have hvn:∀ g v o,σ.go g=some (v,o)->v≠σ.n:=by
  rintro g v o hg rfl;obtain⟨L,hL,_⟩:=hS.own g _ o hg;simp_all
 obtain⟨wb,e1,e2,e3,e4,e5⟩:∃ wb:World,wb.heap=(w.alloc ob).heap/\wb.os=w.os/\wb.tape=w.tape/\wb.output=w.output/\wb.drawn=min w1.drawn w1.heap.size:=⟨{ w.alloc ob with drawn:=min w1.drawn w1.heap.size },rfl,rfl,rfl,rfl,rfl⟩
 have hws:wb.heap.size=w.heap.size+1:=by simp_all
 have hbt:=hb.then hst;refine⟨upB β σ.n ⟨none,ty,w.heap.size⟩,⟨wb,F,λb=>b<w.heap.size/\(M1 b\/w1.heap.size<=b),upB β σ.n ⟨none,ty,w.heap.size⟩,?_,?_,?_⟩,λv hv=>?_⟩
 ·refine⟨⟨e2.trans hbt.os,e3.trans hbt.tape,e4.trans hbt.output,by rw[e1];exact hbt.size,λb h1 h2=>by rw[e1];exact hbt.block b h1 h2,hbt.sub,hbt.old⟩,λb hb'=>?_,(hb.nam.trans hS.nam).trans hβ,by rw[e5];exact Nat.le_min.2 ⟨hb.mark,hb.stp.size⟩⟩
  rcases hb'.2 with e|e
  ·exact hb.new b e
  ·exact .inr (Nat.le_trans hb.stp.size e)
 ·have henv:∀ k,Env F (upB β σ.n ⟨none,ty,w.heap.size⟩) ((S.mk ((t,.mref t σ.n)::σ.e) ((t,some (σ.n,⟨true,false,0,ty,es⟩))::σ.o) (σ.n+1)).ge k) ((a.put (some t) x).tmps.getD k undef):=by
   have hx:Env F (upB β σ.n ⟨none,ty,w.heap.size⟩) (.mref t σ.n) x:=⟨⟨none,ty,w.heap.size⟩,Aj _ _ _,rfl,hx0⟩;intro k;exact hS.CA (Ag.refl _) hβ (c:=True) (dst:=some t) (d:=.mref t σ.n) (wo:=[]) (λt' e=>by simp_all) hx k
  refine{ size:=by rw[BR];exact hS.size,defers:=by rw[Bq];exact hS.defers,env:=henv,own:=?_,dist:=?_,sep:=?_,Ac:=?_,frz:=?_,fin:=λb i x hx=>?_,step:=⟨e2.symm,e3.symm,e4.symm,by omega,λb _ _=>by rw[e1],Ag.refl F,λ_ _ _ _=>rfl⟩,nam:=Aw.refl _ }
  ·intro k u q hk;rw[hgo]at hk;split at hk
   ·cases hk;exact⟨_,Aj _ _ _,λ_=>.inl ⟨rfl,⟨rfl,hty⟩,rfl,rfl⟩,λe=>by cases e⟩
   ·obtain⟨L,hL,hz,hk'⟩:=hS.own k u q hk;refine⟨L,hβ _ _ hL,hz,λhf'=>(hk' hf').keep (Ag.refl _) hβ λb hb'=>hblk b (hS.sep k u q L b hk hf' hL hb').2.1⟩
  ·intro g g' v v' o o' L L' b k k' f f' e e';have k:=key _ _ _ k f;have k':=key _ _ _ k' f';exact hS.dist g g' v v' o o' L L' b k k' f f' (hup _ _ (hvn _ _ _ k) e) (hup _ _ (hvn _ _ _ k') e')
  ·intro g v o L b k f e e';have k:=key _ _ _ k f;obtain⟨s1,s2,s3⟩:=hS.sep g v o L b k f (hup _ _ (hvn _ _ _ k) e) e'
   grind
  ·obtain⟨φ,hφ⟩:=hS.Ac;refine⟨φ,λg v o L b C i j e x s ty es hr k f hL hb' hC he hj hx=>?_,λg v o L b C i j e x nm u n hr k f hL hb' hC he hj hx=>?_,hφ.none_,λg i j b hb'=>by have:=hφ.lt g i j b hb';omega,λg i j b hb'=>.inr ?_,λg i j b g' v' o' L' hb' k f hL=>?_,hφ.dis⟩
   ·have k:=key _ _ _ k f;have hL:=hup _ _ (hvn _ _ _ k) hL;rw[hblk b (hS.sep g v o L b k f hL hb').2.1]at hC;exact(hφ.row g v o L b C i j e x s ty es hr k f hL hb' hC he hj hx).keep (Ag.refl _) (λb' hb''=>hblk b' (hφ.lt g i j b' hb'')) λ_ h=>h
   ·have k:=key _ _ _ k f;have hL:=hup _ _ (hvn _ _ _ k) hL;rw[hblk b (hS.sep g v o L b k f hL hb').2.1]at hC;exact(hφ.hole g v o L b C i j e x nm u n hr k f hL hb' hC he hj hx).mono (Ag.refl _) hβ
   ·exact⟨hφ.lt g i j b hb',(hφ.new g i j b hb').symm⟩
   ·have k:=key _ _ _ k f;exact hφ.sep g i j b g' v' o' L' hb' k f (hup _ _ (hvn _ _ _ k) hL)
  ·intro b i x hx;have hb':=hS.fin b i x hx;rw[World.cell?_of_block (w:=w) (hblk b hb')];exact hS.frz b i x hx
  ·have:=hS.fin b i x hx;omega
 ·have hF:∀ i,F w.heap.size i=none:=λi=>by
   cases hx:F w.heap.size i with
   | none=>rfl
   | some x=>have:=hS.fin _ _ _ hx;omega
  have hMn:∀ b,b<w1.heap.size->¬ M1 b->¬ (b<w.heap.size/\(M1 b\/w1.heap.size<=b)):=λb h1 h2 h3=>h3.2.elim h2 λe=>by omega
  have hold:∀ g v o,σ.go g=some (v,o)->o.s=0->∃ b,upB β σ.n ⟨none,ty,w.heap.size⟩ v=some ⟨none,o.ty,b⟩/\B1 v=some ⟨none,o.ty,b⟩/\b<w1.heap.size:=by
   intro g v o hg h0;obtain⟨_,b,q2,q3,_⟩:=hm.at_ g v o hg h0;exact⟨b,hβ _ _ (hS.nam _ _ q2),q2,(q3 b (.inl rfl)).1⟩
  have hnew:(w.alloc ob).heap[w.heap.size]? =some ob:=(MapKept.heap_alloc w _).1;constructor
  ·intro k u q hk hq;rw[hgo]at hk;split at hk
   ·cases hk;refine⟨rfl,w.heap.size,Aj _ _ _,λbb hbb=>?_,hes _ hnew⟩
    obtain rfl:=hbb.lone hnew hlo;exact⟨by omega,λe=>absurd e.1 (by omega),hF,.inl (Nat.le_trans hb.stp.size hS.step.size)⟩
   ·obtain⟨q1,b,q2,q3,q6⟩:=hm.at_ k u q hk hq;have:=hS.step.size;have hbs:=(q3 b (.inl rfl)).1;refine⟨q1,b,hβ _ _ (hS.nam _ _ q2),λbb hbb=>?_,q6.keep λbb hbb=>hblk bb (by grind)⟩
    obtain⟨r3,r4,r5,r7⟩:=q3 bb (hbb.of (hblk b (by omega)))
    exact⟨by omega,hMn bb r3 r4,λi=>(hS.step.old bb i r3 r4).trans (r5 i),r7⟩
  ·intro k k' u u' q q' c1 c2 b b' bb hk hk' hq hq' e1 e2 z1 z2;rw[hgo]at hk hk';have:=hS.step.size;have low:∀ k u q b,σ.go k=some (u,q)->q.s=0->B1 u=some ⟨none,q.ty,b⟩->BP (w.alloc ob) b bb->BP w b bb/\bb<w1.heap.size:=by
    intro k u q b hk hq e z;obtain⟨_,b2,q2,q3,_⟩:=hm.at_ k u q hk hq;rw[e]at q2;cases q2;have hbs:=(q3 b (.inl rfl)).1;have z:=z.of (hblk b (by omega))
    simp_all
   split at hk<;>split at hk'
   ·omega
   ·cases hk;obtain⟨b2,p1,p2,p3⟩:=hold _ _ _ hk' hq';rw[Aj]at e1;cases e1;rw[p1]at e2;cases e2;have:=(low _ _ _ _ hk' hq' p2 z2).2;have:=z1.lone hnew hlo;omega
   ·cases hk';obtain⟨b2,p1,p2,p3⟩:=hold _ _ _ hk hq;rw[Aj]at e2;cases e2;rw[p1]at e1;cases e1;have:=(low _ _ _ _ hk hq p2 z1).2;have:=z2.lone hnew hlo;omega
   ·obtain⟨b2,p1,p2,p3⟩:=hold _ _ _ hk hq;obtain⟨b3,p4,p5,p6⟩:=hold _ _ _ hk' hq';rw[p1]at e1;cases e1;rw[p4]at e2;cases e2;exact hm.dis k k' u u' q q' _ _ _ _ bb hk hk' hq hq' p2 p5 (low _ _ _ _ hk hq p2 z1).1 (low _ _ _ _ hk' hq' p5 z2).1
 grind [Ca]
theorem Ay.put (h:Ay N w0 F0 M B0 σ F β a w) {v:Value} (hd:∀ t,dst=some t->t<N) (hv:Env F β d v) {w':World} (hh:w'.heap=w.heap) (ho:w'.os=w.os) (ht:w'.tape=w.tape) (hu:w'.output=w.output):Ay N w0 F0 M B0 (σ.app ⟨c,Ad dst d,[]⟩) F β (a.put dst v) w':=by
 obtain⟨w1,F1,M1,B1,hb,hS,hm⟩:=h;have hS':=hS.put (c:=c) hd hv hh ho ht hu;exact⟨w1,F1,M1,B1,hb,hS',hm.app hS (Ap.nil σ) hS'⟩
theorem Ay.skip (h:Ay N w0 F0 M B0 σ F β a w) (hd:∀ t,dst=some t->t<N) (c:Prop):Ay N w0 F0 M B0 (σ.app ⟨c,Ad dst (.when false (.bool false)),[]⟩) F β (a.put dst undef) w:=by
 obtain⟨w1,F1,M1,B1,hb,hS,hm⟩:=h;have hS':=hS.skip hd c;exact⟨w1,F1,M1,B1,hb,hS',hm.app hS (Ap.nil σ) hS'⟩
theorem GF (hS:Sim N w1 F1 M1 B1 σ F β a w) (hm:Cp w0 M w1 F1 M1 B1 σ w) (hx:Val F β (.mref g v) x) (hc:((BW g v).run σ).1) :
  ∃ b,x= .map (some b)/\σ.go g=some (v,((BW g v).run σ).2)/\((BW g v).run σ).2.s=0/\((BW g v).run σ).2.ty=0/\B1 v=some ⟨none,((BW g v).run σ).2.ty,b⟩/\DV w b ((BW g v).run σ).2.es:=by
 obtain⟨L,hL,_,hx⟩:=hx;simp only[BW,R.run]at hc ⊢;cases hg:σ.go g with
 | none=>simp_all
 | some p =>
  obtain⟨v',o⟩:=p;rw[hg]at hc;simp only[R.run]at hc ⊢;obtain⟨rfl,h0,h1⟩:=hc;obtain⟨_,b,h2,_,h6⟩:=hm.at_ g v o hg h0;have:=hS.nam _ _ h2;rw[hL]at this;cases this;rw[h1]at h6 hx;exact⟨b,hx.elim (·.2) (λh=>absurd rfl h.1),rfl,h0,h1,h2,h6.elim (·.2) (λh=>h.elim (λh=>by cases h.1) λh=>by cases h.1)⟩
theorem Ny (hS:Sim N w1 F1 M1 B1 σ F β a w) (hm:Cp w0 M w1 F1 M1 B1 σ w) (hx:Val F β (.mref g v) x) (hc:((EH g v).run σ).1) :
  ∃ b,x= .pointer (some ⟨b,0,none⟩)/\σ.go g=some (v,((EH g v).run σ).2)/\((EH g v).run σ).2.s=0/\((EH g v).run σ).2.ty=1/\B1 v=some ⟨none,((EH g v).run σ).2.ty,b⟩/\KT w b ((EH g v).run σ).2.es:=by
 obtain⟨L,hL,_,hx⟩:=hx;simp only[EH,R.run]at hc ⊢;cases hg:σ.go g with
 | none=>simp_all
 | some p =>
  obtain⟨v',o⟩:=p;rw[hg]at hc;simp only[R.run]at hc ⊢;obtain⟨rfl,h0,h1⟩:=hc;obtain⟨_,b,h2,_,h6⟩:=hm.at_ g v o hg h0;have:=hS.nam _ _ h2;rw[hL]at this;cases this;rw[h1]at h6 hx;exact⟨b,hx.elim (λh=>by cases h.1) (·.2),rfl,h0,h1,h2,h6.elim (λh=>by cases h.1) λh=>h.elim (·.2) λh=>by cases h.1⟩
theorem Ih {ty:TypeId} {op:Op} (h:cOp P ty op=some dop) (h1:∀ t r,op≠ .makeMap t r) (h2:∀ t x i b,op≠ .lookup t x i b) (h3:∀ t x i y,op≠ .mapUpdate t x i y) (h4:∀ c,op≠ .call c) (h5:∀ t x,op≠ .range t x) (h6:∀ x b,op≠ .next x b) (h7:∀ e,op≠ .alloc e) (h8:∀ e x,op≠ .box e x):Dr dop=false:=by
 unfold cOp at h;split at h
 all_goals first
  | (exact absurd rfl (h1 _ _))
  | (exact absurd rfl (h2 _ _ _ _))
  | (exact absurd rfl (h3 _ _ _ _))
  | (exact absurd rfl (h4 _))
  | (exact absurd rfl (h5 _ _))
  | (exact absurd rfl (h6 _ _))
  | (exact absurd rfl (h7 _))
  | (exact absurd rfl (h8 _ _))
  | (cases h;done)
  | (revert h;(try unfold Kr Ks);(repeat' split)<;>simp[aA]<;>intros<;>subst_vars<;>first|rfl|(rename_i h;revert h;(repeat' split)<;>simp[aA]<;>intros<;>subst_vars<;>rfl))
theorem LB {b q:Nat} (hb:w.heap[b]? =some (.stringIter s q)) (h:q<s.size) (ty:TypeId):(aAz (.pointer (some ⟨b,0,none⟩)) true ty).run P w =
  .ok (.tuple #[.bool true,.int .i64 q,.int .i32 (Utf8.decode s q).1]) { w with heap:=w.heap.setIfInBounds b (.stringIter s (q+(Utf8.decode s q).2)) }:=by
 simp only[aAz,getObj,setObj,Sem.run_bind,Sem.run,hb,Result.andThen,h,if_true];simp[goInt]
theorem Mh {b q:Nat} (hb:w.heap[b]? =some (.stringIter s q)) (h:¬ q<s.size) (ty:TypeId):(aAz (.pointer (some ⟨b,0,none⟩)) true ty).run P w= .ok (.tuple #[.bool false]) w:=by
 simp[aAz,getObj,Sem.run,hb,h]
theorem LA (h:Ay N w0 F0 M B0 σ F β a w) (hop:cOp P o.type o.op=some dop) (hdst:CN N o.dst dop=true) (hm:Dr dop=true) (hc:((evalOp Γ nv o.dst dop).run σ).c) (K:Act->World->Prop) (Q:Exit->Act->World->Prop) (hK:∀ a' w',Ay N w0 F0 M B0 (σ.app ((evalOp Γ nv o.dst dop).run σ)) F β a' w'->K a' w'):o.wp P a w K Q:=by
 have hd:=DN hdst;have h0:=h;obtain⟨w1,F1,M1,B1,hb,hS,hmp⟩:=h;cases ho:o.op with
 | makeMap t r =>
  exfalso;cases r<;>simp only[ho,cOp,aAA,aA]at hop
  ·obtain⟨_,_,he⟩:=hop;cases he;exact hc
  ·cases hop;cases hm
 | box e x =>
  exfalso;simp only[ho,cOp]at hop;split at hop
  ·simp only[aAA,aA]at hop;obtain⟨_,_,he⟩:=hop;cases he;exact hc
  ·split at hop
   ·simp only[aAA,aA]at hop;obtain⟨_,_,he⟩:=hop;cases he;cases hm
   ·cases hop
 | alloc e =>
  exfalso;simp only[ho,cOp]at hop;split at hop
  ·cases hop;exact hc
  ·simp only[aAA,aA]at hop;obtain⟨_,_,he⟩:=hop;split at he
   ·cases he;cases hm
   ·cases he
 | range t x =>
  exfalso;simp only[ho,cOp]at hop;split at hop
  ·simp only[aAA,aA]at hop;obtain⟨_,_,he⟩:=hop;cases he;exact hc
  ·cases hop;cases hm
 | next x b =>
  cases b with
  | false=>simp only[ho,cOp]at hop;cases hop;cases hm
  | true =>
   simp only[ho,cOp,aAA,aA]at hop;obtain⟨ax,hax,he⟩:=hop;cases he;have h1:=λhp=>At hS hax hp
   simp only[evalOp,R.run_bind]at hc hK;generalize((rdA ax).run σ).2=d at *;generalize((rdA ax).run σ).1=p at *;split at hc
   ·rename_i g v;simp only[R.run_bind]at hc hK;split at hc
    ·rename_i s q hes;have hcc:p=true/\((EH g v).run σ).1:=by
      split at hc<;>exact hc
     obtain⟨c1,c2⟩:=hcc;obtain⟨b,e1,e2,e3,et,e4,s',q',e5,e6⟩:=Ny hS hmp (h1 c1) c2;rw[hes]at e6;cases e6;unfold Oper.wp
     by_cases hq:q<s.length
     ·have hrun:(execOp a.eval o).run P w= .ok (.value (.tuple #[.bool true,.int .i64 q,.int .i32 (Art s q).1])) { w with heap:=w.heap.setIfInBounds b (.stringIter ⟨s.toArray⟩ (q+(Art s q).2)) }:=by
       unfold execOp;rw[ho];have hsz:q<(⟨s.toArray⟩:ByteArray).size:=by grind [ByteArray.size]
       simp only[e1];simp[LB e5 hsz,Art]
      rw[hrun];refine hK _ _ ?_;simp only[hes,if_pos hq,R.run_pure];refine Ay.Jj hb hS hmp e2 e3 e4 (λw' hw'=>.inr (.inl ⟨et,s,_,hw',rfl⟩)) (λ_ _ _ _ _ e=>by cases e) hd (Env.Ae (.tup _ _ rfl λj c v hj hv=>?_))
      match j,hj,hv with
      | 0,hj,hv=>cases hj;cases hv;exact .bool _
      | 1,hj,hv=>cases hj;cases hv;exact .int _ _
      | 2,hj,hv=>cases hj;cases hv;exact .int _ _
     ·have hrun:(execOp a.eval o).run P w= .ok (.value (.tuple #[.bool false])) w:=by
       unfold execOp;rw[ho];have hsz:¬ q<(⟨s.toArray⟩:ByteArray).size:=by grind [ByteArray.size]
       simp only[e1];simp[Mh e5 hsz]
      rw[hrun];refine hK _ _ ?_;simp only[hes,if_neg hq,R.run_pure];refine h0.put hd (Env.Ae (.tup _ _ rfl λj c v hj hv=>?_)) rfl rfl rfl rfl
      match j,hj,hv with
      | 0,hj,hv=>cases hj;cases hv;exact .bool _
    simp_all
   simp_all
 | lookup t x i b =>
  cases b<;>simp only[ho,cOp,aAA,aA]at hop
  ·obtain⟨z,hz,ax,hax,ai,hai,he⟩:=hop;cases he;have h1:=λhp=>At hS hax hp
   have h2:=λhp=>At hS hai hp
   simp only[evalOp,R.run_bind]at hc hK;generalize((rdA ax).run σ).2=d at *;generalize((rdA ax).run σ).1=p at *;generalize((rdA ai).run σ).2=j at *;generalize((rdA ai).run σ).1=q at *;split at hc
   ·rename_i g v n;simp only[R.run_bind,R.run_pure]at hc hK;obtain⟨c1,c2,c3⟩:=hc;obtain⟨b,e1,_,_,_,_,e5⟩:=GF hS hmp (h1 c1) c3;obtain⟨y,r1,r2⟩:=Lx (P:=P) hz (n:=n) e5;have hrun:(execOp a.eval o).run P w= .ok (.value y) w:=by
     unfold execOp;rw[ho];simp[e1,AE (h2 c2),r1]
    unfold Oper.wp;rw[hrun];exact hK _ _ (h0.put hd (Env.Ae (r2 F)) rfl rfl rfl rfl)
   simp_all
  ·cases hop;cases hm
 | mapUpdate t x i y =>
  simp only[ho,cOp,aAA,aA]at hop;obtain⟨z,hz,ax,hax,ai,hai,ay,hay,he⟩:=hop;cases he;have h1:=λhp=>At hS hax hp
  have h2:=λhp=>At hS hai hp
  have h3:=λhp=>At hS hay hp
  simp only[evalOp,R.run_bind]at hc hK;generalize((rdA ax).run σ).2=d at *;generalize((rdA ax).run σ).1=p at *;generalize((rdA ai).run σ).2=j at *;generalize((rdA ai).run σ).1=q at *;generalize((rdA ay).run σ).2=u at *;generalize((rdA ay).run σ).1=r at *;split at hc
  ·rename_i g v n;simp only[R.run_bind,R.run_pure]at hc hK;obtain⟨c1,c2,c3,c4,c5⟩:=hc;obtain⟨b,e1,e2,e3,et,e4,e5⟩:=GF hS hmp (h1 c1) c5;obtain⟨ents,clock,r1,r2⟩:=LV (P:=P) hz (n:=n) e5 c4 (Hg c4 (h3 c3));have hdn:o.dst=none:=by
    cases hdd:o.dst with
    | none=>rfl
    | some t=>rw[hdd]at hdst;cases hdst
   have hrun:(execOp a.eval o).run P w= .ok .skip { w with heap:=w.heap.setIfInBounds b (.map ents clock) }:=by
    unfold execOp;rw[ho];simp[e1,AE (h2 c2),r1]
   unfold Oper.wp;rw[hrun];refine hK _ _ ?_;rw[hdn];exact Ay.Jj (dst:=none) (d:=.top) (x:=undef) hb hS hmp e2 e3 e4 (λw' hw'=>.inl ⟨et,ents,clock,hw',r2⟩) (λ_ _ _ _ _ e=>by cases e) (λt e=>by cases e) (Env.top _)
  simp_all
 | call c =>
  simp only[ho,cOp]at hop;obtain⟨cal,as,ts⟩:=c;unfold GZ at hop;simp only at hop;split at hop
  ·exfalso;simp only[aAA,aA]at hop;obtain⟨_,_,_,_,he⟩:=hop;cases he;cases hm
  ·exfalso;split at hop
   ·simp only[aAA,aA]at hop;obtain⟨_,_,he⟩:=hop;cases he;cases hm
   ·simp only[aAA,aA]at hop;obtain⟨_,_,he⟩:=hop;cases he;cases hm
   ·cases hop
  ·exfalso;split at hop
   ·simp only[aAA,aA]at hop;obtain⟨_,_,_,_,_,_,he⟩:=hop;split at he
    ·simp only[aA]at he;obtain⟨_,_,_,_,he⟩:=he;cases he;cases hm
    ·cases he
   ·cases hop
  ·exfalso;split at hop
   ·split at hop
    ·simp only[aAA,aA]at hop;obtain⟨_,_,_,_,he⟩:=hop;cases he;cases hm
    ·cases hop
   ·cases hop
  ·rename_i x i t ts' has hts;have ea:as= #[x,i]:=by grind
   subst ea;have ets:ts[0]? =some t:=by rw[<- Array.getElem?_toList,hts];rfl
   split at hop
   ·rename_i z hz;simp only[aAA,aA]at hop;obtain⟨ax,hax,ai,hai,he⟩:=hop;cases he;have h1:=λhp=>At hS hax hp
    have h2:=λhp=>At hS hai hp
    simp only[evalOp,R.run_bind]at hc hK;generalize((rdA ax).run σ).2=d at *;generalize((rdA ax).run σ).1=p at *;generalize((rdA ai).run σ).2=j at *;generalize((rdA ai).run σ).1=q at *;split at hc
    ·rename_i g v n;simp only[R.run_bind,R.run_pure]at hc hK;obtain⟨c1,c2,c3⟩:=hc;obtain⟨b,e1,e2,e3,et,e4,e5⟩:=GF hS hmp (h1 c1) c3;obtain⟨ents,clock,r1,r2⟩:=Lb (P:=P) hz (n:=n) e5 ets o.type;have hrun:(execOp a.eval o).run P w= .ok (.value (.tuple #[])) { w with heap:=w.heap.setIfInBounds b (.map ents clock) }:=by
      unfold execOp;rw[ho];simp[resolve,invoke,builtin,e1,AE (h2 c2),r1]
     unfold Oper.wp;rw[hrun];refine hK _ _ ?_;exact Ay.Jj hb hS hmp e2 e3 e4 (λw' hw'=>.inl ⟨et,ents,clock,hw',r2⟩) (λ_ _ _ _ _ e=>by cases e) hd (Env.Ae (.tup [] [] rfl λj c v hj=>by simp at hj))
    simp_all
   ·cases hop
  ·exfalso;simp only[aAA,aA]at hop;obtain⟨_,_,he⟩:=hop;cases he;cases hm
  ·exfalso;simp only[aAA,aA]at hop;obtain⟨_,_,he⟩:=hop;cases he;cases hm
  ·cases hop;cases hm
 | _ =>
  exfalso
  revert hop
  rw[ho];intro hop;have:Dr dop=false:=Ih hop (λ_ _ e=>by cases e) (λ_ _ _ _ e=>by cases e) (λ_ _ _ _ e=>by cases e) (λ_ e=>by cases e) (λ_ _ e=>by cases e) (λ_ _ e=>by cases e) (λ_ e=>by cases e) (λ_ _ e=>by cases e)
  rw[hm]at this;cases this
theorem Gh (hΓ:∀ k sp,Γ k=some sp->BB P F0 (k % 4096) sp) (h:Ay N w0 F0 M B0 σ F β a w) (hop:Cl P N ops draw i o=some o') (hnv:β nv=none) (hc:((Ar Γ nv o').run σ).c) (K:Act->World->Prop) (Q:Exit->Act->World->Prop) (hK:∀ a' w' F' β',Ay N w0 F0 M B0 (σ.app ((Ar Γ nv o').run σ)) F' β' a' w'->Aw β β'->(∀ v,v≠nv->β' v=β v)->K a' w') :
  if Region.wanted o (yielded ops a.tmps)then o.wp P a w K Q else K (a.put o.dst undef) w:=by
 cases hm:Dr o'.op with
 | false =>
  obtain⟨w1,F1,M1,B1,hb,hS,hmp⟩:=h;exact KG (λk sp hk=>(hΓ k sp hk).mono hb.stp.sub) hS hop hm hnv hc K Q λa' w' F' β' hS'=>hK a' w' F' β' ⟨w1,F1,M1,B1,hb,hS',hmp.app hS (Nz hm hc) hS'⟩
 | true =>
  exact IY h.sim hop hc K Q (λdop hdop hdst e hc' e'=>LA h hdop hdst (by simp_all) hc' K Q λa' w' hS=>hK a' w' F β (by simp_all) (Aw.refl _) λ_ _=>rfl)
   λhd e=>hK _ w F β (by rw[e];exact h.skip hd _) (Aw.refl _) λ_ _=>rfl
end
def S.get (σ:S):Key->D×Ab
 | .e t=>(σ.ge t,none)
 | .o g=>(.top,σ.go g)
theorem S.Mq (σ τ:S) (k:Key):σ.same τ k↔σ.get k=τ.get k:=by
 cases k<;>simp[S.same,S.get]
variable {σ':S}
def wrs (u:Out):List Key:=u.we.map (λx=>.e x.1)++u.wo.map (λx=>.o x.1)
theorem Et (σ:S) (u:Out) (k:Key) (h:k∉wrs u):(σ.app u).get k=σ.get k:=by
 cases k with
 | e t =>
  simp only[S.get,S.ge,S.app,BD];cases hl:look u.we t with
  | none=>rfl
  | some d=>exact absurd (List.mem_append_left _ (aAY.2 ⟨_,Bi hl,rfl⟩)) h
 | o g =>
  simp only[S.get,S.go,S.app,BD];cases hl:look u.wo g with
  | none=>rfl
  | some d=>exact absurd (List.mem_append_right _ (aAY.2 ⟨_,Bi hl,rfl⟩)) h
theorem Dx {α:Type} {l:List (Nat×α)} (h:∃ x,(t,x)∈l):∃ x,look l t=some x:=by
 obtain⟨x,hx⟩:=h;cases hl:look l t with
 | none=>grind [Fu]
 | some y=>simp_all
theorem Es (σ τ:S) (u:Out) (k:Key) (h:k∈wrs u):(σ.app u).get k=(τ.app u).get k:=by
 cases k with
 | e t =>
  have:∃ d,look u.we t=some d:=by
   rcases aAJ.1 h with h|h
   all_goals simp_all[Dx]
  grind [S.get,S.ge,S.app,BD]
 | o g =>
  have:∃ d,look u.wo g=some d:=by
   rcases aAJ.1 h with h|h
   all_goals simp_all[Dx]
  grind [S.get,S.go,S.app,BD]
def Bk (L:Nat->Bool):List Out->Nat->S->S
 | [],_,σ=>σ
 | u::r,i,σ=>Bk L r (i+1) (if L i then σ.app u else σ)
theorem EC (L L':Nat->Bool) (k:Key):∀ (us:List Out) (i:Nat) (σ σ':S),(∀ (j:Nat) u,us[j]? =some u->k∈wrs u->L (i+j)=L' (i+j))->σ.get k=σ'.get k->(Bk L us i σ).get k=(Bk L' us i σ').get k
 | [],_,_,_,_,h=>h
 | u::us,i,σ,σ',hL,h=>by
  simp only[Bk]
  refine EC L L' k us (i+1) _ _ (λj v hj hk=>by
   have:=hL (j+1) v (by simp_all) hk
   grind) ?_
  by_cases hm:k∈wrs u
  ·have h0:=hL 0 u rfl hm;simp only[aAd]at h0;rw[<- h0];cases L i with
   | true=>simp only[if_true];grind [Es]
   | false=>simp_all
  grind [Et]
section
variable {N:Nat} {w0:World} {F0:Fz} {M:Nat->Prop} {B0:Bt} {σ:S} {F:Fz} {β:Bt} {a:Act} {w:World} {P:Program}
theorem Sim.congr (h:Sim N w0 F0 M B0 σ F β a w) (hk:∀ k,σ'.get k=σ.get k):Sim N w0 F0 M B0 σ' F β a w:=by
 have he:∀ t,σ'.ge t=σ.ge t:=λt=>by have:=hk (.e t);grind [S.get]
 have ho:∀ g,σ'.go g=σ.go g:=λg=>by have:=hk (.o g);grind [S.get]
 refine{ nam:=h.nam,size:=h.size,defers:=h.defers,env:=λt=>by rw[he];exact h.env t,own:=?_,dist:=?_,sep:=?_,Ac:=(by obtain⟨φ,hφ⟩:=h.Ac;exact⟨φ,hφ.congr ho⟩),frz:=h.frz,fin:=h.fin,step:=h.step }
 ·intro g v o hg;rw[ho]at hg;exact h.own g v o hg
 ·intro g g' v v' o o' L L' b hg hg';rw[ho]at hg hg';exact h.dist g g' v v' o o' L L' b hg hg'
 ·intro g v o L b hg;rw[ho]at hg;exact h.sep g v o L b hg
theorem Ay.congr (h:Ay N w0 F0 M B0 σ F β a w) (hk:∀ k,σ'.get k=σ.get k):Ay N w0 F0 M B0 σ' F β a w:=by
 obtain⟨w1,F1,M1,B1,hb,hS,hm⟩:=h;have ho:∀ g,σ'.go g=σ.go g:=λg=>by have:=hk (.o g);grind [S.get]
 exact⟨w1,F1,M1,B1,hb,hS.congr hk,hm.sub λg v o hg _=>by simp_all⟩
def outs (Γ:Aq):List As->Nat->S->List Out
 | [],_,_=>[]
 | o::r,nv,σ=>(Ar Γ nv o).run σ::outs Γ r (nv+1) (σ.app ((Ar Γ nv o).run σ))
theorem Dy (Γ:Aq):∀ (ds:List As) (nv:Nat) (σ:S) (i:Nat) (L:Nat->Bool),(∀ j,L (i+j)=true) ->
  (outs Γ ds nv σ).length=ds.length/\(∀ K,Dw.wpOps Γ ds nv σ K->K (Bk L (outs Γ ds nv σ) i σ)/\∀ u∈outs Γ ds nv σ,u.c)
 | [],nv,σ,i,L,hL=>⟨rfl,λK hK=>⟨hK,λu hu=>by cases hu⟩⟩
 | o::ds,nv,σ,i,L,hL=>by
  obtain⟨h1,h2⟩:=Dy Γ ds (nv+1) (σ.app ((Ar Γ nv o).run σ)) (i+1) L (λj=>by have:=hL (j+1);grind)
  refine⟨by grind [outs],λK hK=>?_⟩
  obtain⟨k1,k2⟩:=hK;obtain⟨k3,k4⟩:=h2 K k2;have hi:L i=true:=by have:=hL 0;omega
  grind [outs,Bk]
theorem GH (Γ:Aq):∀ (ds:List As) (nv:Nat) (σ:S) (i j:Nat) (o:As),ds[j]? =some o ->
  ∃ u,(outs Γ ds nv σ)[j]? =some u/\u=(Ar Γ (nv+j) o).run (Bk (λq=>decide (q<i+j)) (outs Γ ds nv σ) i σ) /\
   (CX Γ ds nv σ)[j]? =some ((Ar Γ (nv+j) o).rd (Bk (λq=>decide (q<i+j)) (outs Γ ds nv σ) i σ),wrs u,o.after)
 | [],nv,σ,i,j,o,h=>by simp at h
 | o0::ds,nv,σ,i,j,o,h=>by
  rcases j with _|j
  ·simp only[aAM,Option.some.injEq]at h;subst h;have hz:∀ (us:List Out) (k:Nat) (τ:S),i<=k->Bk (λq=>decide (q<i+0)) us k τ=τ:=by
    intro us
    induction us with
    | nil=>intro k τ _;rfl
    | cons u us ih =>
     intro k τ hk;simp only[Bk]
     grind
   refine⟨_,rfl,?_,?_⟩
   ·simp_all
   ·rw[hz _ i σ (aAF _)];rfl
  ·simp only[aAP]at h;obtain⟨u,h1,h2,h3⟩:=GH Γ ds (nv+1) (σ.app ((Ar Γ nv o0).run σ)) (i+1) j o h;have e1:i+1+j=i+(j+1):=by omega
   have e2:nv+1+j=nv+(j+1):=by omega
   rw[e1,e2]at h2 h3;have hi:(decide (i<i+(j+1)))=true:=by simp
   simp_all[outs,Bk,CX]
inductive Dep (L:List (List Nat)):Nat->Nat->Prop
 | one {j e:Nat} {a:List Nat} (h:L[j]? =some a) (he:e∈a):Dep L j e
 | more {j e i:Nat} {a:List Nat} (h:L[j]? =some a) (he:e∈a) (hd:Dep L e i):Dep L j i
theorem JC (L:List (List Nat)):∀ (r acc:List (List Nat)) (pre:List (List Nat)),L=pre++r->pre.length=acc.length->(∀ j i,i∈acc.getD j []->Dep L j i)->∀ j i,i∈(LX acc r).getD j []->Dep L j i
 | [],acc,_,_,_,h=>h
 | a::r,acc,pre,hL,hlen,h=>by
  refine JC L r _ (pre++[a]) (by simp[hL]) (by simp[hlen]) (λj i hi=>?_)
  have ha:L[acc.length]? =some a:=by simp_all
  rcases aAq j acc.length with hj|hj|hj
  ·grind
  ·subst hj;rw[List.getD_eq_getElem?_getD,List.getElem?_append_right (aAF _),Nat.sub_self]at hi;simp only[aAM,aAE,List.mem_eraseDups,aAJ,List.mem_flatMap]at hi;rcases hi with hi|⟨e,he,hi⟩
   ·exact .one ha hi
   ·exact .more ha he (h e i hi)
  grind
theorem Gd {f:List (List Key×List Key×List Nat)} (h:Eo f=true) {j:Nat} {x y:List Key×List Key×List Nat} (hij:i<j) (hx:f[i]? =some x) (hy:f[j]? =some y) (hc:AqN x y=true):Dep (f.map λx=>x.2.2) j i:=by
 unfold Eo JF at h;rw[aAK]at h;have hj:j<f.length:=(aAC.1 hy).1;have h1:=h j (aAa.2 hj);rw[aAK]at h1;have h2:=h1 i (aAa.2 hij);have ex:f.getD i ([],[],[])=x:=by simp_all
 have ey:f.getD j ([],[],[])=y:=by simp_all
 rw[ex,ey,hc]at h2;exact JC _ _ [] [] rfl rfl (λj i hi=>by simp at hi) j i (by simp_all)
theorem HH {a b:List Key} {k:Key} (h1:k∈a) (h2:k∈b):meet a b=true:=by
 grind [meet]
theorem DE {ops:Array Oper} {draw:Bool}:∀ (l:List Oper) (i:Nat) (ds:List As),BZ P N ops draw i l=some ds->ds.length=l.length/\∀ (j:Nat) o,l[j]? =some o->∃ o',ds[j]? =some o'/\Cl P N ops draw (i+j) o=some o'
 | [],i,ds,h=>by
  grind [BZ]
 | o0::l,i,ds,h=>by
  simp only[BZ,aAA,aA]at h;obtain⟨o',ho',r,hr,he⟩:=h;cases he;obtain⟨k1,k2⟩:=DE l (i+1) r hr
  grind
theorem Dl (h:Cl P N ops draw i o=some o'):o'.after=AL draw o/\∀ e∈AL draw o,e<i:=by
 unfold Cl at h;simp only[aA]at h
 grind
theorem Hb (p:Nat->Bool) (i:Nat):∀ l:List Nat,l.Nodup->i∈l->p i=true->l.countP p=l.countP (λj=>p j&&j != i)+1
 | [],_,h,_=>by cases h
 | x::l,hn,h,hp=>by
  simp only[List.nodup_cons]at hn
  by_cases hx:x=i
  ·grind [List.countP_congr]
  ·have hm:i∈l:=by
    grind
   have ih:=Hb p i l hn.2 hm hp
   grind
end
section
variable {N:Nat} {w0:World} {F0:Fz} {M:Nat->Prop} {B0:Bt} {P:Program}
theorem HR (hΓ:∀ k sp,Γ k=some sp->BB P F0 (k % 4096) sp) {ds:List As} (hds:BZ P N ops true 0 ops.toList=some ds) {σ:S} {n:Nat} {KD:S->Prop} (hw:Dw.wpOps Γ ds n σ KD) (hdraw:Eo (CX Γ ds n σ)=true) {Q:Exit->Act->World->Prop} (hQ:∀ τ F' β' a' w',Ay N w0 F0 M B0 τ F' β' a' w'->(∀ v,n+ds.length<=v->β' v=none)->(∃ τ',KD τ'/\∀ k,τ'.get k=τ.get k)->Q .normal a' w') :
  ∀ (fuel:Nat) (listed:Array Bool) (F:Fz) (β:Bt) (a:Act) (w:World),listed.size=ops.size->(aB ops.size).countP (λi=>!listed.getD i true)=fuel ->
   (∀ (j:Nat) o,ops[j]? =some o->listed.getD j true=true->∀ e∈AL true o,listed.getD e true=true) ->
   (∀ v,n<=v->β v≠none->v-n<ops.size/\listed.getD (v-n) true=true) ->
   Ay N w0 F0 M B0 (Bk (λi=>listed.getD i true) (outs Γ ds n σ) 0 σ) F β a w->wpAny P .any ops Q fuel listed a w:=by
 obtain⟨hlen,hget⟩:=DE ops.toList 0 ds hds;simp only[Array.length_toList]at hlen;have hall:=(Dy Γ ds n σ 0 (λ_=>true) (λ_=>rfl)).2 KD hw
 have hol:=(Dy Γ ds n σ 0 (λ_=>true) (λ_=>rfl)).1
 have hready:∀ (listed:Array Bool) i,i∈Region.ready .any ops listed↔i<ops.size/\listed.getD i true=false/\∃ o,ops[i]? =some o/\∀ e∈AL true o,listed.getD e false=true:=by
  intro listed i;simp only[Region.ready,aAZ,aAa,aAS,aAs];constructor
  ·rintro⟨h1,h2,h3⟩;refine⟨h1,h2,ops[i],aAG h1,λe he=>?_⟩
   rw[aAG h1]at h3;simp only[aAn,aAE,aAe]at h3;simp only[AL,if_true,aAY,aAZ]at he
   grind
  ·rintro⟨h1,h2,o,ho,h3⟩;refine⟨h1,h2,?_⟩;rw[ho];simp only[aAn,aAE,aAe];intro ed hed;cases hb:Region.binds .any ed with
   | false=>rfl
   | true =>
    have:=h3 ed.on (by
     simp only[AL,if_true,aAY,aAZ]
     grind)
    simp_all
 have hafter:∀ (j:Nat) o,ops[j]? =some o->∀ e∈AL true o,e<j:=by
  intro j o ho;obtain⟨o',_,h2⟩:=hget j o (by simp_all)
  have:=(Dl h2).2;simp_all
 have hnone:∀ (listed:Array Bool),listed.size=ops.size->Region.ready .any ops listed=[]->∀ i,i<ops.size->listed.getD i true=true:=by
  intro listed hsz hr i
  induction i using Nat.strongRecOn with
  | _ i ih =>
   grind [Region.ready]
 have hfin:∀ (listed:Array Bool) (F:Fz) (β:Bt) (a:Act) (w:World),listed.size=ops.size->(∀ i,i<ops.size->listed.getD i true=true)->(∀ v,n<=v->β v≠none->v-n<ops.size/\listed.getD (v-n) true=true) ->
   Ay N w0 F0 M B0 (Bk (λi=>listed.getD i true) (outs Γ ds n σ) 0 σ) F β a w->Q .normal a w:=by
  intro listed F β a w hsz hl hfr hS;refine hQ _ F β a w hS (λv hv=>?_) ⟨_,hall.1,λk=>?_⟩
  all_goals grind
 intro fuel
 induction fuel with
 | zero =>
  intro listed F β a w hsz hcount hclosed hfr hS;have hl:∀ i,i<ops.size->listed.getD i true=true:=by
   grind [List.countP_eq_zero]
  refine⟨?_,hfin listed F β a w hsz hl hfr hS⟩;rw[aAR]
  grind
 | succ fuel ih =>
  intro listed F β a w hsz hcount hclosed hfr hS;refine⟨λhr=>hfin listed F β a w hsz (hnone listed hsz hr) hfr hS,λi hi=>?_⟩
  obtain⟨hi1,hi2,o,ho,hdone⟩:=(hready listed i).1 hi;obtain⟨o',ho1,ho2⟩:=hget i o (by grind)
  simp only[aAb]at ho2;obtain⟨haf,_⟩:=Dl ho2;obtain⟨u,u1,u2,u3⟩:=GH Γ ds n σ 0 i o' ho1;simp only[aAb]at u2 u3;have hdone':∀ e∈o'.after,listed.getD e true=true:=by
   intro e he;rw[haf]at he;have h1:=hdone e he;have hel:e<listed.size:=by
    have:=hafter i o ho e he;omega
   simpa[hel]using h1
  have hother:∀ (j:Nat) v,(outs Γ ds n σ)[j]? =some v->∃ oj,ops[j]? =some oj/\∃ oj',ds[j]? =some oj'/\oj'.after=AL true oj/\∃ rd,(CX Γ ds n σ)[j]? =some (rd,wrs v,oj'.after):=by
   intro j v hv;have hj:j<ops.size:=by rw[<- hlen,<- hol];exact(aAC.1 hv).1
   obtain⟨oj',q1,q2⟩:=hget j ops[j] (by simp[hj])
   obtain⟨v',v1,_,v3⟩:=GH Γ ds n σ 0 j oj' q1;rw[hv]at v1;cases v1;exact⟨ops[j],aAG hj,oj',q1,(Dl q2).1,_,v3⟩
  have hfeet:∀ (j:Nat) a,((CX Γ ds n σ).map λx=>x.2.2)[j]? =some a->∃ oj,ops[j]? =some oj/\a=AL true oj:=by
   intro j a hja;rw[aAN,aAH]at hja;obtain⟨x,hx,rfl⟩:=hja;have hfl:∀ (ds:List As) (nv:Nat) (σ:S),(CX Γ ds nv σ).length=(outs Γ ds nv σ).length:=by
    intro ds
    induction ds with
    | nil=>intro _ _;rfl
    | cons o r ih=>intro nv σ;simp[CX,outs,ih]
   have hjl:j<(outs Γ ds n σ).length:=by rw[<- hfl];exact(aAC.1 hx).1
   obtain⟨oj,p1,oj',_,p3,rd,p4⟩:=hother j _ (aAO hjl);rw[hx]at p4;cases p4;exact⟨oj,p1,p3⟩
  have hdep:∀ (j q:Nat),Dep ((CX Γ ds n σ).map λx=>x.2.2) j q->listed.getD j true=true->listed.getD q true=true:=by
   intro j q hd
   induction hd with
   | one h he =>
    intro hl;obtain⟨oj,p1,rfl⟩:=hfeet _ _ h;exact hclosed _ oj p1 hl _ he
   | more h he _ ih =>
    intro hl;obtain⟨oj,p1,rfl⟩:=hfeet _ _ h;exact ih (hclosed _ oj p1 hl _ he)
  have hlater:∀ (j:Nat) v (k:Key),i<j->(outs Γ ds n σ)[j]? =some v->k∈wrs v->(k∈(Ar Γ (n+i) o').rd (Bk (λq=>decide (q<i)) (outs Γ ds n σ) 0 σ)\/k∈wrs u)->listed.getD j true=false:=by
   intro j v k hij hv hk hk';obtain⟨oj,p1,oj',_,p3,rd,p4⟩:=hother j v hv
   have hmem:=Gd hdraw hij u3 p4 (by
    unfold AqN;rcases hk' with hk'|hk'
    ·rw[HH hk' hk];simp
    ·rw[HH hk' hk];simp)
   cases hlj:listed.getD j true with
   | false=>rfl
   | true =>
    have:=hdep j i hmem hlj;rw[hi2]at this;cases this
  have hsame:∀ k∈(Ar Γ (n+i) o').rd (Bk (λq=>decide (q<i)) (outs Γ ds n σ) 0 σ),(Bk (λq=>decide (q<i)) (outs Γ ds n σ) 0 σ).same (Bk (λq=>listed.getD q true) (outs Γ ds n σ) 0 σ) k:=by
   intro k hk;rw[S.Mq];refine EC _ _ k _ 0 σ σ (λj v hv hkv=>?_) rfl
   simp only[aAb];rcases aAq j i with hji|hji|hji
   ·have hlj:listed.getD j true=true:=by
     obtain⟨oj,p1,oj',_,_,rd,p4⟩:=hother j v hv;have hmem:=Gd hdraw hji p4 u3 (by unfold AqN;rw[HH hkv hk];simp)
     cases hmem with
     | one h he =>
      rw[aAN,u3]at h;cases h;exact hdone' j he
     | more h he hd =>
      rw[aAN,u3]at h;cases h;exact hdep _ j hd (hdone' _ he)
    rw[hlj];simp[hji]
   ·subst hji;rw[hi2];simp
   ·rw[hlater j v k hji hv hkv (.inl hk)];have:¬ j<i:=by omega
    simp[this]
  obtain⟨hrun,_⟩:=R.local _ _ _ hsame;have hu:(Ar Γ (n+i) o').run (Bk (λq=>listed.getD q true) (outs Γ ds n σ) 0 σ)=u:=by rw[hrun,<- u2]
  have hβi:β (n+i)=none:=by
   cases hb:β (n+i)with
   | none=>rfl
   | some L =>
    have:=(hfr (n+i) (by omega) (by rw[hb];simp)).2
    rw[show n+i-n=i by omega,hi2]at this
    cases this
  have huc:u.c:=hall.2 u (aAB u1);unfold wpOp;rw[ho];simp only
  have key:=Gh hΓ hS ho2 hβi (by rw[hu];exact huc) (wpAny P .any ops Q fuel (listed.setIfInBounds i true)) Q (λa' w' F' β' hS' hb1 hb2=>by
   have hsetne:∀ j,j≠i->(listed.setIfInBounds i true).getD j true=listed.getD j true:=λj hj=>getD_set_ne true (Ne.symm hj)
   have hset:(listed.setIfInBounds i true).getD i true=true:=by
    rw[aAD,Array.getElem?_setIfInBounds_self_of_lt (by omega)];rfl
   refine ih _ F' β' a' w' (by simpa using hsz) ?_ ?_ ?_ (hS'.congr λk=>?_)
   ·have hcl:=Hb (λj=>!listed.getD j true) i (aB ops.size) List.nodup_range (aAa.2 hi1) (by rw[hi2];rfl)
    rw[hcount]at hcl;have:(aB ops.size).countP (λj=>!(listed.setIfInBounds i true).getD j true)=(aB ops.size).countP (λj=>(!listed.getD j true)&&j != i):=by
     apply List.countP_congr;intro j _
     by_cases hj:j=i
     ·subst hj;rw[hset];simp
     ·rw[hsetne j hj];simp[hj]
    omega
   ·intro j oj hoj hlj e he
    by_cases hj:j=i
    ·subst hj;rw[ho]at hoj;cases hoj;have h1:=hdone' e (by rw[haf];exact he)
     by_cases hei:e=j
     ·subst hei;exact hset
     ·rw[hsetne e hei];exact h1
    ·rw[hsetne j hj]at hlj;have h1:=hclosed j oj hoj hlj e he
     by_cases hei:e=i
     ·subst hei;exact hset
     ·rw[hsetne e hei];exact h1
   ·intro v hv hb
    by_cases hvi:v=n+i
    ·subst hvi;rw[show n+i-n=i by omega]
     exact⟨hi1,hset⟩
    ·rw[hb2 v hvi]at hb;obtain⟨h1,h2⟩:=hfr v hv hb;refine⟨h1,?_⟩;rw[hsetne _ (by omega)]
     exact h2
   ·rw[hu]
    by_cases hk:k∈wrs u
    ·
     have h2:∀ (us:List Out) (i0:Nat) (τ τ':S) (L:Nat->Bool) (q:Nat),us[q]? =some u->L (i0+q)=true->(∀ (j:Nat) v,q<j->us[j]? =some v->k∈wrs v->L (i0+j)=false)->(Bk L us i0 τ).get k=(τ'.app u).get k:=by
      intro us
      induction us with
      | nil=>intro i0 τ τ' L q hq;simp at hq
      | cons v us ihu =>
       intro i0 τ τ' L q hq hL hlast;rcases q with _|q
       ·simp only[aAM,Option.some.injEq]at hq;subst hq;simp only[aAd]at hL;simp only[Bk,hL,if_true]
        have:=EC L (λ_=>false) k us (i0+1) (τ.app v) (τ.app v) (λj v' hj hk'=>by
         have:=hlast (j+1) v' (by omega) (by simpa using hj) hk'
         rw[show i0+(j+1)=i0+1+j by omega]at this
         exact this) rfl
        rw[this];have hid:∀ (us:List Out) (i:Nat) (τ:S),Bk (λ_=>false) us i τ=τ:=by
         intro us
         induction us with
         | nil=>intro i τ;rfl
         | cons v us ih=>intro i τ;simp only[Bk,aAU,if_false];exact ih _ _
        rw[hid];exact Es _ _ _ _ hk
       ·simp only[aAP]at hq;simp only[Bk]
        exact ihu (i0+1) _ τ' L q hq (by rw[show i0+1+q=i0+(q+1)by omega];exact hL) (λj v' hj hv' hk'=>by
         rw[show i0+1+j=i0+(j+1)by omega]
         exact hlast (j+1) v' (by omega) (by simpa using hv') hk')
     exact h2 _ 0 σ (Bk (λq=>listed.getD q true) (outs Γ ds n σ) 0 σ) _ i u1 (by rw[aAb];exact hset) (λj v hj hv hk'=>by
      simp only[aAb];rw[hsetne j (by omega)]
      exact hlater j v k hj hv hk' (.inr hk))
    ·rw[Et _ _ _ hk];refine EC _ _ k _ 0 σ σ (λj v hv hkv=>?_) rfl
     simp only[aAb];refine hsetne j ?_;rintro rfl;rw[u1]at hv;cases hv
     exact hk hkv)
  grind
theorem Jq {a:Act} {w:World} {K:Act->World->Prop} {Q Q':Exit->Act->World->Prop} (h:∀ e a w,e≠Exit.normal->Q' e a w->Q e a w) (hh:o.wp P a w K Q'):o.wp P a w K Q:=by
 unfold Oper.wp at *;generalize(execOp a.eval o).run P w=r at *;cases r with
 | ok n w' =>
  cases n<;>simp only[Oper.upon]at hh ⊢ <;>first|exact hh|exact Calls.mono hh λe w'' he=>by cases e<;>first|exact he|exact h _ _ _ (by simp) he|exact he.elim λa he=>he.elim λw he=>⟨a,w,h _ _ _ (by simp) he⟩
 | halt x w'=>cases x<;>simp only[Oper.upon]at hh ⊢ <;>first|exact hh|simp_all
theorem BE (listed:Array Bool) (i:Nat):i∈Region.ready .any ops listed↔i<ops.size/\listed.getD i true=false/\∃ o,ops[i]? =some o/\∀ e∈AL true o,listed.getD e false=true:=by
 simp only[Region.ready,aAZ,aAa,aAS,aAs];constructor
 ·rintro⟨h1,h2,h3⟩;refine⟨h1,h2,ops[i],aAG h1,λe he=>?_⟩
  rw[aAG h1]at h3;simp only[aAn,aAE,aAe]at h3;simp only[AL,if_true,aAY,aAZ]at he
  grind
 ·rintro⟨h1,h2,o,ho,h3⟩;refine⟨h1,h2,?_⟩;rw[ho];simp only[aAn,aAE,aAe];intro ed hed;cases hb:Region.binds .any ed with
  | false=>rfl
  | true =>
   have:=h3 ed.on (by
    simp only[AL,if_true,aAY,aAZ]
    grind)
   simp_all
theorem HT {init:Array Oper} {listed:Array Bool} (hc:∀ (j:Nat) o,init[j]? =some o->listed.getD j false=true->∀ e∈AL true o,listed.getD e false=true) :
  ∀ (n:Nat) (A:List Nat),(∀ e∈A,listed.getD e false=true)->En init n A=true->∀ j,j<n->listed.getD j false=true
 | 0,_,_,_,j,hj=>by omega
 | n+1,A,hA,h,j,hj=>by
  simp only[En,aAS,List.contains_iff_mem]at h;have hn:=hA n h.1
  by_cases e:j=n
  ·simp_all
  ·refine HT hc n _ (λe he=>?_) h.2 j (by omega)
   grind
theorem LY {init:Array Oper} {l:Oper} {Q Q':Exit->Act->World->Prop} (hg:∀ o∈(init.push l).toList,o.guard=none) (haf:∀ (j:Nat) o,init[j]? =some o->∀ e∈AL true o,e<j) (hcov:En init init.size (AL true l)=true) (hl:∀ e∈AL true l,e<init.size)
  (hex:∀ e a w,e≠Exit.normal->Q' e a w->Q e a w) (hQ:∀ a w,Q' .normal a w->l.wp P a w (Q .normal) Q\/(l.asks P a w/\LetsOut Q)) :
  ∀ (fuel:Nat) (listed:Array Bool) (a:Act) (w:World),listed.size=init.size->(∀ (j:Nat) o,init[j]? =some o->listed.getD j false=true->∀ e∈AL true o,listed.getD e false=true) ->
   wpAny P .any init Q' fuel listed a w->wpAny P .any (init.push l) Q (fuel+1) (listed.push false) a w:=by
 have hop:∀ i,i<init.size->(init.push l)[i]? =init[i]?:=λi hi=>by grind
 have hopl:(init.push l)[init.size]? =some l:=by simp
 have hL:∀ (listed:Array Bool) (i:Nat) (b:Bool),listed.size=init.size->i<init.size->(listed.push false).getD i b=listed.getD i b:=λlisted i b hs hi=>by
  simp_all[aAy]
 have hLm:∀ (listed:Array Bool) (b:Bool),listed.size=init.size->(listed.push false).getD init.size b=false:=λlisted b hs=>by
  rw[<- hs];simp[aAD]
 have hft:∀ (listed:Array Bool) (i:Nat),listed.size=init.size->i<init.size->(listed.getD i true=listed.getD i false):=λlisted i hs hi=>by
  simp_all
 have key1:∀ (listed:Array Bool) (i:Nat),listed.size=init.size->i<init.size->(i∈Region.ready .any (init.push l) (listed.push false)↔i∈Region.ready .any init listed):=by
  intro listed i hs hi;rw[BE,BE,hL listed i true hs hi,hop i hi];simp only[aAw];refine⟨λ⟨_,h2,o,ho,h3⟩=>⟨hi,h2,o,ho,λe he=>?_⟩,λ⟨_,h2,o,ho,h3⟩=>⟨by omega,h2,o,ho,λe he=>?_⟩⟩
  ·rw[<- hL listed e false hs (by have:=haf i o ho e he;omega)];simp_all
  ·rw[hL listed e false hs (by have:=haf i o ho e he;omega)];exact h3 e he
 have key2:∀ (listed:Array Bool),listed.size=init.size->(∀ (j:Nat) o,init[j]? =some o->listed.getD j false=true->∀ e∈AL true o,listed.getD e false=true)->init.size∈Region.ready .any (init.push l) (listed.push false)->∀ j,j<init.size->listed.getD j false=true:=by
  intro listed hs hc hm;rw[BE]at hm;obtain⟨_,_,o,ho,h3⟩:=hm;rw[hopl]at ho;cases ho;exact HT hc _ _ (λe he=>by rw[<- hL listed e false hs (hl e he)];exact h3 e he) hcov
 have allr:∀ (listed:Array Bool),listed.size=init.size->(∀ j,j<init.size->listed.getD j false=true)->Region.ready .any init listed=[]:=by
  intro listed hs h;rw[aAR];intro i hi;rw[BE]at hi;obtain⟨h1,h2,_⟩:=hi;rw[hft listed i hs h1,h i h1]at h2;cases h2
 have never:∀ (listed:Array Bool),listed.size=init.size->Region.ready .any (init.push l) (listed.push false)≠[]:=by
  intro listed hs hr;have hall:∀ i,i<init.size->listed.getD i true=true:=by
   intro i
   induction i using Nat.strongRecOn with
   | _ i ih =>
    intro hi;cases hli:listed.getD i true with
    | true=>rfl
    | false =>
     exfalso;have:i∈Region.ready .any (init.push l) (listed.push false):=by
      rw[key1 listed i hs hi,BE];refine⟨hi,hli,init[i],aAG hi,λe he=>?_⟩
      have hlt:=haf i _ (aAG hi) e he;rw[<- hft listed e hs (by omega)]
      exact ih e hlt (by omega)
     rw[hr]at this;cases this
  have:init.size∈Region.ready .any (init.push l) (listed.push false):=by
   rw[BE];refine⟨by simp,hLm listed true hs,l,hopl,λe he=>?_⟩
   rw[hL listed e false hs (hl e he),<- hft listed e hs (hl e he)];exact hall e (hl e he)
  rw[hr]at this;cases this
 have lastStep:∀ (k:Nat) (listed:Array Bool) (a:Act) (w:World),listed.size=init.size->(∀ j,j<init.size->listed.getD j false=true)->Q' .normal a w ->
   wpOp P (init.push l) Q init.size (wpAny P .any (init.push l) Q k ((listed.push false).setIfInBounds init.size true)) a w:=by
  intro k listed a w hs hall hq;have hr:Region.ready .any (init.push l) ((listed.push false).setIfInBounds init.size true)=[]:=by
   rw[aAR];intro i hi;rw[BE]at hi;obtain⟨h1,h2,_⟩:=hi;simp only[aAw]at h1
   by_cases e:i=init.size
   ·subst e;rw[<- hs]at h2;simp[aAD]at h2
   ·have h3:((listed.push false).setIfInBounds init.size true).getD i true=listed.getD i true:=by
     simp only[aAD,aAT,if_neg (Ne.symm e),aAy (show i<listed.size by omega),aAG (show i<listed.size by omega)]
    grind
  unfold wpOp;rw[hopl];have hgl:l.guard=none:=hg l (by simp)
  have hw:Region.wanted l (yielded (init.push l) a.tmps)=true:=by grind [Region.wanted]
  simp only[hw,if_true];refine(hQ a w hq).imp (Oper.wp_mono λa w hq=>?_) id
  cases k with
  | zero=>exact⟨hr,hq⟩
  | succ k=>exact⟨λ_=>hq,λi hi=>by grind⟩
 intro fuel
 induction fuel with
 | zero =>
  intro listed a w hs hc ⟨h1,h2⟩;refine⟨λe=>(never listed hs e).elim,λi hi=>?_⟩
  have hi':i<init.size+1:=by have:=((BE _ _).1 hi).1;simpa using this
  by_cases e:i=init.size
  ·subst e;exact lastStep 0 listed a w hs (key2 listed hs hc hi) h2
  ·rw[key1 listed i hs (by omega),h1]at hi
   cases hi
 | succ fuel ih =>
  intro listed a w hs hc ⟨h1,h2⟩;refine⟨λe=>(never listed hs e).elim,λi hi=>?_⟩
  have hi':i<init.size+1:=by have:=((BE _ _).1 hi).1;simpa using this
  by_cases e:i=init.size
  ·subst e;have hall:=key2 listed hs hc hi;exact lastStep _ listed a w hs hall (h1 (allr listed hs hall))
  ·have hlt:i<init.size:=by omega
   have hr:=(key1 listed i hs hlt).1 hi;have hk:=h2 i hr;obtain⟨_,hli,o,ho,hdone⟩:=(BE _ _).1 hr;have hset:(listed.push false).setIfInBounds i true=(listed.setIfInBounds i true).push false:=by
    apply Array.ext';simp only[Array.toList_setIfInBounds,Array.toList_push];rw[List.set_append_left _ _ (by simpa using(show i<listed.size by omega))]
   have hc':∀ (j:Nat) o,init[j]? =some o->(listed.setIfInBounds i true).getD j false=true->∀ e∈AL true o,(listed.setIfInBounds i true).getD e false=true:=by
    intro j oj hj hjl e he;have hej:=haf j oj hj e he;have up:listed.getD e false=true->(listed.setIfInBounds i true).getD e false=true:=λh=>by
     by_cases q:i=e
     ·subst q;simp[aAD,show i<listed.size by omega]
     ·simpa[aAD,aAT,q]using h
    by_cases q:i=j
    ·subst q;rw[ho]at hj;cases hj;exact up (hdone e he)
    ·refine up (hc j oj hj ?_ e he);simpa[aAD,aAT,q]using hjl
   have hgo:o.guard=none:=hg o (by
    have:=Array.mem_of_getElem? ho
    simp[this])
   unfold wpOp at hk ⊢;rw[hop i hlt];rw[ho]at hk ⊢;simp only[Region.wanted,hgo,if_true]at hk ⊢;rw[hset];refine hk.imp (λhk=>Jq hex (Oper.wp_mono (λa w hk=>ih _ a w (by simpa using hs) hc' hk) hk)) λhk=>⟨hk.1,?_⟩
   obtain⟨a',w',h⟩:=hk.2;exact⟨a',w',hex _ _ _ (by simp) h⟩
end
theorem BK (g g':Nat):∀ l:List D,GK g g' l=l.map (ren g g')
 | []=>rfl
 | d::r=>by simp[GK,BK g g' r]
theorem Bw (g v:Nat) (z:D):∀ l:List D,Cj g v z l=l.map (frp g v z)
 | []=>rfl
 | d::r=>by simp[Cj,Bw g v z r]
section
variable {N:Nat} {w0:World} {F0:Fz} {M:Nat->Prop} {B0:Bt} {σ:S} {F:Fz} {β:Bt} {a:Act} {w:World}
theorem Nq (g g':Nat) (h:Fro F d x):Fro F (ren g g' d) x:=by
 have key:∀ (cs:List D) (vs:List Value),(∀ (j:Nat) c v,cs[j]? =some c->vs[j]? =some v->Fro F (ren g g' c) v)->∀ (j:Nat) c v,(GK g g' cs)[j]? =some c->vs[j]? =some v->Fro F c v:=by
  grind [BK]
 induction h with
 | agg cs vs hl h1 _ ih=>exact .agg _ vs (by grind [BK]) h1 (key cs vs ih)
 | clo f cs vs hl _ ih=>exact .clo f _ vs (by grind [BK]) (key cs vs ih)
 | tup cs vs hl _ ih=>exact .tup _ vs (by grind [BK]) (key cs vs ih)
 | top v=>exact .top v
 | row s ty es v=>exact .row s ty es v
 | hole nm u n v=>exact .hole nm u n v
 | int k n=>exact .int k n
 | bool b=>exact .bool b
 | str s=>exact .str s
 | nils=>exact .nils
 | nilf=>exact .nilf
 | ifc t d v h _=>exact .ifc t d v h
 | nilp=>exact .nilp
 | sl0 a c=>exact .sl0 a c
 | sl es b o c s vf hc hs hF h1 h _=>exact .sl es b o c s vf hc hs hF h1 h
 | fptr e b o off vf hF h1 h _=>exact .fptr e b o off vf hF h1 h
theorem JT (g g':Nat) (h:Ref F β d x):Ref F β (ren g g' d) x:=by
 cases d<;>first|exact h|exact Ref.Ae (Nq g g' h)
theorem AU (g g':Nat) (h:Cel F β d x):Cel F β (ren g g' d) x:=by
 by_cases hcl:∃ f cs,d= .clo f cs
 case neg =>
  have h':Ref F β d x:=by cases d<;>first|exact h|simp_all
  grind [Cel.CL,JT]
 obtain⟨f,cs,rfl⟩:=hcl;obtain⟨vs,rfl,hl,hv⟩:=h;refine⟨vs,rfl,by grind [BK],λj c v hc hv'=>?_⟩
 grind [BK,JT]
theorem Bb (g g':Nat) (h:Val F β d x):Val F β (ren g g' d) x:=by
 cases d with
 | agg cs =>
  obtain⟨vs,rfl,hl,h1,hv⟩:=h;refine⟨vs,rfl,by grind [BK],h1,λj c v' hc hv'=>?_⟩
  grind [BK,AU]
 | tup cs =>
  obtain⟨vs,rfl,hl,hv⟩:=h;refine⟨vs,rfl,by grind [BK],λj c v' hc hv'=>?_⟩
  grind [BK,AU]
 | top =>exact Val.Am (AU g g' (show Cel F β (.top ) x from h))
 | int x0 x1=>exact Val.Am (AU g g' (show Cel F β (.int x0 x1) x from h))
 | bool x0=>exact Val.Am (AU g g' (show Cel F β (.bool x0) x from h))
 | str x0=>exact Val.Am (AU g g' (show Cel F β (.str x0) x from h))
 | sl x0=>exact Val.Am (AU g g' (show Cel F β (.sl x0) x from h))
 | nils =>exact Val.Am (AU g g' (show Cel F β (.nils ) x from h))
 | osl x0 x1 x2 x3=>exact Val.Am (AU g g' (show Cel F β (.osl x0 x1 x2 x3) x from h))
 | optr x0 x1 x2 x3=>exact Val.Am (AU g g' (show Cel F β (.optr x0 x1 x2 x3) x from h))
 | mref x0 x1=>exact Val.Am (AU g g' (show Cel F β (.mref x0 x1) x from h))
 | vsl x0 x1 x2=>exact Val.Am (AU g g' (show Cel F β (.vsl x0 x1 x2) x from h))
 | fptr x0 x1=>exact Val.Am (AU g g' (show Cel F β (.fptr x0 x1) x from h))
 | clo x0 x1=>exact Val.Am (AU g g' (show Cel F β (.clo x0 x1) x from h))
 | nilf =>exact Val.Am (AU g g' (show Cel F β (.nilf ) x from h))
 | ifc x0 x1=>exact Val.Am (AU g g' (show Cel F β (.ifc x0 x1) x from h))
 | nilp=>exact Val.Am (AU g g' (show Cel F β (.nilp) x from h))
 | when x0 x1=>exact Val.Am (AU g g' (show Cel F β (.when x0 x1) x from h))
 | row x0 x1 x2=>exact Val.Am (AU g g' (show Cel F β (.row x0 x1 x2) x from h))
 | hole x0 x1 x2=>exact Val.Am (AU g g' (show Cel F β (.hole x0 x1 x2) x from h))
theorem Nm (g g':Nat) (h:Env F β d x):Env F β (ren g g' d) x:=by
 cases d with
 | top =>exact Env.Ah (Bb g g' (show Val F β (.top ) x from h))
 | int x0 x1=>exact Env.Ah (Bb g g' (show Val F β (.int x0 x1) x from h))
 | bool x0=>exact Env.Ah (Bb g g' (show Val F β (.bool x0) x from h))
 | str x0=>exact Env.Ah (Bb g g' (show Val F β (.str x0) x from h))
 | agg x0=>exact Env.Ah (Bb g g' (show Val F β (.agg x0) x from h))
 | sl x0=>exact Env.Ah (Bb g g' (show Val F β (.sl x0) x from h))
 | nils =>exact Env.Ah (Bb g g' (show Val F β (.nils ) x from h))
 | osl x0 x1 x2 x3=>exact Env.Ah (Bb g g' (show Val F β (.osl x0 x1 x2 x3) x from h))
 | optr x0 x1 x2 x3=>exact Env.Ah (Bb g g' (show Val F β (.optr x0 x1 x2 x3) x from h))
 | mref x0 x1=>exact Env.Ah (Bb g g' (show Val F β (.mref x0 x1) x from h))
 | vsl x0 x1 x2=>exact Env.Ah (Bb g g' (show Val F β (.vsl x0 x1 x2) x from h))
 | fptr x0 x1=>exact Env.Ah (Bb g g' (show Val F β (.fptr x0 x1) x from h))
 | clo x0 x1=>exact Env.Ah (Bb g g' (show Val F β (.clo x0 x1) x from h))
 | nilf =>exact Env.Ah (Bb g g' (show Val F β (.nilf ) x from h))
 | ifc x0 x1=>exact Env.Ah (Bb g g' (show Val F β (.ifc x0 x1) x from h))
 | nilp=>exact Env.Ah (Bb g g' (show Val F β (.nilp) x from h))
 | tup x0=>exact Env.Ah (Bb g g' (show Val F β (.tup x0) x from h))
 | row x0 x1 x2=>exact Env.Ah (Bb g g' (show Val F β (.row x0 x1 x2) x from h))
 | hole x0 x1 x2=>exact Env.Ah (Bb g g' (show Val F β (.hole x0 x1 x2) x from h))
 | when p d=>exact h
structure IA (F':Fz) (β:Bt) (v:Nat) (z:D):Prop where
 at_:∀ L b off,β v=some L->L.b=some b->Fro F' (.fptr z off) (.pointer (some ⟨b,off,none⟩))
theorem Np (h:Fro F d x):Fro F (frp g v z d) x:=by
 have key:∀ (cs:List D) (vs:List Value),(∀ (j:Nat) c v',cs[j]? =some c->vs[j]? =some v'->Fro F (frp g v z c) v')->∀ (j:Nat) c v',(Cj g v z cs)[j]? =some c->vs[j]? =some v'->Fro F c v':=by
  grind [Bw]
 induction h with
 | agg cs vs hl h1 _ ih=>exact .agg _ vs (by grind [Bw]) h1 (key cs vs ih)
 | clo f cs vs hl _ ih=>exact .clo f _ vs (by grind [Bw]) (key cs vs ih)
 | tup cs vs hl _ ih=>exact .tup _ vs (by grind [Bw]) (key cs vs ih)
 | top v=>exact .top v
 | row s ty es v=>exact .row s ty es v
 | hole nm u n v=>exact .hole nm u n v
 | int k n=>exact .int k n
 | bool b=>exact .bool b
 | str s=>exact .str s
 | nils=>exact .nils
 | nilf=>exact .nilf
 | ifc t d v h _=>exact .ifc t d v h
 | nilp=>exact .nilp
 | sl0 a c=>exact .sl0 a c
 | sl es b o c s vf hc hs hF h1 h _=>exact .sl es b o c s vf hc hs hF h1 h
 | fptr e b o off vf hF h1 h _=>exact .fptr e b o off vf hF h1 h
theorem JS (hz:IA F β v z) (h:Ref F β d x):Ref F β (frp g v z d) x:=by
 cases d<;>first|exact h|exact Ref.Ae (Np h)|skip
 rename_i k u i off;simp only[frp];cases hb:(aAt k g&&aAt u v&&aAt i 0)with
 | false=>exact h
 | true =>
  simp only[aAS]at hb;obtain⟨⟨_,h2⟩,h3⟩:=hb;have h2:=aAc h2;have h3:=aAc h3;subst h2;subst h3;obtain⟨L,b,hL,hb,rfl⟩:=h;have:=hz.at_ L b off hL hb;simp_all[Ref.Ae]
theorem AO (hz:IA F β v z) (h:Cel F β d x):Cel F β (frp g v z d) x:=by
 by_cases hcl:∃ f cs,d= .clo f cs
 case neg =>
  have h':Ref F β d x:=by cases d<;>first|exact h|simp_all
  grind [Cel.CL,JS]
 obtain⟨f,cs,rfl⟩:=hcl;obtain⟨vs,rfl,hl,hv⟩:=h;refine⟨vs,rfl,by grind [Bw],λj c v' hc hv'=>?_⟩
 grind [Bw,JS]
theorem Ba (hz:IA F β v z) (h:Val F β d x):Val F β (frp g v z d) x:=by
 cases d with
 | agg cs =>
  obtain⟨vs,rfl,hl,h1,hv⟩:=h;refine⟨vs,rfl,by grind [Bw],h1,λj c v' hc hv'=>?_⟩
  grind [Bw,AO]
 | tup cs =>
  obtain⟨vs,rfl,hl,hv⟩:=h;refine⟨vs,rfl,by grind [Bw],λj c v' hc hv'=>?_⟩
  grind [Bw,AO]
 | top =>exact Val.Am (AO hz (show Cel F β (.top ) x from h))
 | int x0 x1=>exact Val.Am (AO hz (show Cel F β (.int x0 x1) x from h))
 | bool x0=>exact Val.Am (AO hz (show Cel F β (.bool x0) x from h))
 | str x0=>exact Val.Am (AO hz (show Cel F β (.str x0) x from h))
 | sl x0=>exact Val.Am (AO hz (show Cel F β (.sl x0) x from h))
 | nils =>exact Val.Am (AO hz (show Cel F β (.nils ) x from h))
 | osl x0 x1 x2 x3=>exact Val.Am (AO hz (show Cel F β (.osl x0 x1 x2 x3) x from h))
 | optr x0 x1 x2 x3 =>
  exact Val.Am (AO (g:=g) hz (show Cel F β (.optr x0 x1 x2 x3) x from h))
 | mref x0 x1=>exact Val.Am (AO hz (show Cel F β (.mref x0 x1) x from h))
 | vsl x0 x1 x2=>exact Val.Am (AO hz (show Cel F β (.vsl x0 x1 x2) x from h))
 | fptr x0 x1=>exact Val.Am (AO hz (show Cel F β (.fptr x0 x1) x from h))
 | clo x0 x1=>exact Val.Am (AO hz (show Cel F β (.clo x0 x1) x from h))
 | nilf =>exact Val.Am (AO hz (show Cel F β (.nilf ) x from h))
 | ifc x0 x1=>exact Val.Am (AO hz (show Cel F β (.ifc x0 x1) x from h))
 | nilp=>exact Val.Am (AO hz (show Cel F β (.nilp) x from h))
 | when x0 x1=>exact Val.Am (AO hz (show Cel F β (.when x0 x1) x from h))
 | row x0 x1 x2=>exact Val.Am (AO hz (show Cel F β (.row x0 x1 x2) x from h))
 | hole x0 x1 x2=>exact Val.Am (AO hz (show Cel F β (.hole x0 x1 x2) x from h))
theorem Nl (hz:IA F β v z) (h:Env F β d x):Env F β (frp g v z d) x:=by
 cases d with
 | top =>exact Env.Ah (Ba hz (show Val F β (.top ) x from h))
 | int x0 x1=>exact Env.Ah (Ba hz (show Val F β (.int x0 x1) x from h))
 | bool x0=>exact Env.Ah (Ba hz (show Val F β (.bool x0) x from h))
 | str x0=>exact Env.Ah (Ba hz (show Val F β (.str x0) x from h))
 | agg x0=>exact Env.Ah (Ba hz (show Val F β (.agg x0) x from h))
 | sl x0=>exact Env.Ah (Ba hz (show Val F β (.sl x0) x from h))
 | nils =>exact Env.Ah (Ba hz (show Val F β (.nils ) x from h))
 | osl x0 x1 x2 x3=>exact Env.Ah (Ba hz (show Val F β (.osl x0 x1 x2 x3) x from h))
 | optr x0 x1 x2 x3=>exact Env.Ah (Ba hz (show Val F β (.optr x0 x1 x2 x3) x from h))
 | mref x0 x1=>exact Env.Ah (Ba hz (show Val F β (.mref x0 x1) x from h))
 | vsl x0 x1 x2=>exact Env.Ah (Ba hz (show Val F β (.vsl x0 x1 x2) x from h))
 | fptr x0 x1=>exact Env.Ah (Ba hz (show Val F β (.fptr x0 x1) x from h))
 | clo x0 x1=>exact Env.Ah (Ba hz (show Val F β (.clo x0 x1) x from h))
 | nilf =>exact Env.Ah (Ba hz (show Val F β (.nilf ) x from h))
 | ifc x0 x1=>exact Env.Ah (Ba hz (show Val F β (.ifc x0 x1) x from h))
 | nilp=>exact Env.Ah (Ba hz (show Val F β (.nilp) x from h))
 | tup x0=>exact Env.Ah (Ba hz (show Val F β (.tup x0) x from h))
 | row x0 x1 x2=>exact Env.Ah (Ba hz (show Val F β (.row x0 x1 x2) x from h))
 | hole x0 x1 x2=>exact Env.Ah (Ba hz (show Val F β (.hole x0 x1 x2) x from h))
 | when p d=>exact h
theorem IK (f:D->D) (hf:f .top= .top) (e:List (Nat×D)) (o:List (Nat×Ab)) (n t:Nat):(S.mk (e.map λp=>(p.1,f p.2)) o n).ge t=f ((S.mk e o n).ge t):=by
 simp only[S.ge]
 induction e with
 | nil=>grind [look]
 | cons p e ih =>
  grind [look]
theorem KM {φ:Nat->Nat->Nat->Nat->Prop} (hφ:AA F β w0.heap.size M σ w φ) {o:Own} (hok:Ax F β w L o) (hvar:o.var=false) (hfz:o.fz=false) {n:Nat} (hg:σ.go g=some (v,o)) (hx:Ref F β (.osl g v 0 n) x) (hL:β v=some L) (hn:n<=o.es.length) (hp:(Ac g=true/\∀ e∈o.es,∀ c∈cells e,∀ nm u n,c≠ .hole nm u n)\/∀ e∈o.es,Az e=true):Bp F w (λb=>L.b=some b\/∃ i j,φ g i j b) o.s o.ty (o.es.take n) x:=by
 obtain⟨L',A,hL',rfl,hcap,hA,_⟩:=hx;rw[hL]at hL';cases hL';obtain⟨e1,e2,e3,e4,e5,e6⟩:=hok;have hA:=hA rfl;subst hA;cases hb:L.b with
 | none =>
  rw[hb]at e6;have hn0:n=0:=by omega
  subst hn0;have hc0:L.cap-0=0:=by omega
  rw[hc0];simp only[Option.map_none,List.take_zero];exact .nil _ _ _ e2
 | some b =>
  rw[hb]at e6;obtain⟨C,hC,hCs,hcell⟩:=e6;have hlen:(o.es.take n).length=n:=by simp;omega
  have hidx:∀ (k:Nat) e,(o.es.take n)[k]? =some e->o.es[k]? =some e:=by
   grind
  have hx':∀ (i j:Nat) e d,(o.es.take n)[i]? =some e->(cells e)[j]? =some d->C[i*o.s+j]? =some ((C[i*o.s+j]?).getD undef)/\((C[i*o.s+j]?).getD undef).oneCell'=true/\Fro F d ((C[i*o.s+j]?).getD undef):=by
   grind
  have:=Bp.row (F:=F) (w:=w) (λb'=>some b=some b'\/∃ i j,φ g i j b') o.s o.ty (o.es.take n) b L.cap C (λi j=>φ g i j) (λi j=>(C[i*o.s+j]?).getD undef) e2 (by omega) (by simp_all) (λe he=>e5 e (aAl he)) hC hCs (.inl rfl)
   hx'
   (λi j e s' ty' es' he hj=>by
    rcases hp with⟨hr,_⟩|hp
    ·exact hφ.row g v o L b C i j e _ s' ty' es' hr hg hfz hL hb hC (hidx i e he) hj (hx' i j e _ he hj).1
    ·have:=aAK.1 (hp e (aAB (hidx i e he))) _ (aAB hj)
     cases this)
   (λi j e nm u n' he hj=>by
    rcases hp with⟨_,hp⟩|hp
    ·grind
    ·have:=aAK.1 (hp e (aAB (hidx i e he))) _ (aAB hj)
     cases this)
   (λi j b' hb'=>⟨.inr ⟨i,j,hb'⟩,λe=>by subst e;exact hφ.sep g i j _ g v o L hb' hg hfz hL hb⟩) (λi j i' j' b' h1 h2=>(hφ.dis _ _ _ _ _ _ _ h1 h2).2)
  simp_all
theorem Mn (h:Sim N w0 F0 M B0 σ F β a w) {g' v' m:Nat} {og o':Own} {c:D} (hg:σ.go g=some (v,og)) (hr:Ac g=true) (hfz:og.fz=false) (hi:i<og.es.length) (hc:(cells (og.es.getD i .top))[off]? =some c) (hh:c= .hole g' v' m\/(c= .osl g' v' 0 m/\og.var=true)) (hg':σ.go g'=some (v',o')) (hfz':o'.fz=false) (hvar:o'.var=false) (hm:m<=o'.es.length) (hp:(Ac g'=true/\∀ e∈o'.es,∀ c∈cells e,∀ nm u n,c≠ .hole nm u n)\/∀ e∈o'.es,Az e=true) (hne:g≠g') :
  Sim N w0 F0 M B0 ⟨σ.e,(g,some (v,{ og with es:=og.es.set i (Qu (og.es.getD i .top) off [.row o'.s o'.ty (o'.es.take m)]) }))::(g',none)::σ.o,σ.n⟩ F β a w:=by
 obtain⟨φ,hφ⟩:=h.Ac;obtain⟨L,hL,_,hk⟩:=h.own g v og hg;obtain⟨e1,e2,e3,e4,e5,e6⟩:=hk hfz;have hget:og.es[i]? =some (og.es.getD i .top):=by simp[hi]
 have hoff:off<(cells (og.es.getD i .top)).length:=(aAC.1 hc).1;cases hb:L.b with
 | none =>
  simp_all
 | some b =>
 rw[hb]at e6;obtain⟨C,hC,hCs,hcell⟩:=e6;obtain⟨x,x1,x2,x3⟩:=hcell i off _ _ hget hc;obtain⟨L',hL',_,hk'⟩:=h.own g' v' o' hg';have hok':=hk' hfz';have hx:Ref F β (.osl g' v' 0 m) x:=by
  rcases hh with rfl|⟨rfl,hv⟩
  ·exact hφ.hole g v og L b C i off _ x _ v' m hr hg hfz hL hb hC hget hc x1
  ·rw[if_pos hv]at x3;exact x3
 have hrat:=KM hφ hok' hvar hfz' hg' hx hL' hm hp;obtain⟨on,hon⟩:∃ on:Own,on={ og with es:=og.es.set i (Qu (og.es.getD i .top) off [.row o'.s o'.ty (o'.es.take m)]) }:=⟨_,rfl⟩
 obtain⟨og1,og2,og3,og4⟩:on.fz=false/\on.var=og.var/\on.s=og.s/\on.ty=og.ty:=by simp_all
 have hogc:∀ (i' j':Nat) e d,on.es[i']? =some e->(cells e)[j']? =some d->(i'=i/\j'=off/\d= .row o'.s o'.ty (o'.es.take m))\/(¬ (i'=i/\j'=off)/\∃ e',og.es[i']? =some e'/\(cells e')[j']? =some d):=by
  intro i' j' e d he hd;subst hon;simp only at he
  by_cases hii:i'=i
  ·subst hii;rw[aAQ hi]at he;cases he;obtain⟨_,q2⟩:=BV (d:=.row o'.s o'.ty (o'.es.take m)) hoff rfl j'
   grind
  grind
 have honok:Ax F β w L on:=by
  refine⟨by omega,by omega,by simp_all,by simp_all,λe he=>?_,?_⟩
  ·subst hon;simp only at he ⊢;rcases aAV he with hm'|hm'
   ·exact e5 e hm'
   ·subst hm';rw[(BV (d:=.row o'.s o'.ty (o'.es.take m)) hoff rfl 0).1];exact e5 _ (aAB hget)
  ·rw[hb];refine⟨C,by rw[og4];exact hC,by simp_all,λi' j' e d he hd=>?_⟩
   rw[og3,og2];rcases hogc i' j' e d he hd with⟨rfl,rfl,rfl⟩|⟨_,e',k1,k2⟩
   ·refine⟨x,x1,x2,?_⟩;split
    ·exact Cel.Ae (.row _ _ _ _)
    ·exact .row _ _ _ _
   ·exact hcell i' j' e' d k1 k2
 rw[<- hon];have hgo:∀ k u q,(S.mk σ.e ((g,some (v,on))::(g',none)::σ.o) σ.n).go k=some (u,q)->(k=g/\u=v/\q=on)\/(k≠g/\k≠g'/\σ.go k=some (u,q)):=by
  intro k u q hk;rw[CB]at hk;split at hk
  ·rename_i e;cases hk;exact .inl ⟨e,rfl,rfl⟩
  ·rename_i n1;rw[CB]at hk;split at hk
   ·cases hk
   ·rename_i n2;exact .inr ⟨n1,n2,hk⟩
 refine h.change (row:=λx=>x=b) rfl rfl rfl (aAF _) (λ_ _ _=>rfl) ?_ (Ag.refl _) (λ_ _ _ _=>rfl) h.frz h.fin (Aw.refl _) h.size h.defers h.env ?_ ?_ ?_
 ·rintro b' rfl;exact(h.sep g v og L b' hg hfz hL hb).2.2.imp id And.left
 ·intro k u q hk;rcases hgo k u q hk with⟨rfl,rfl,rfl⟩|⟨n1,n2,hk⟩
  ·refine .inr ⟨L,hL,og1,honok,λb' hb'=>?_⟩
   obtain⟨s1,s2,s3⟩:=h.sep k u og L b' hg hfz hL hb';rw[hb]at hb';cases hb';exact⟨s1,s2,s3,.inl rfl⟩
  ·refine .inl ⟨hk,λL1 b1 hf hL1 hb1 e=>?_⟩
   subst e;exact n1 (h.dist k g u v q og L1 L b1 hk hg hf hfz hL1 hL hb1 hb)
 ·intro g1 g2 v1 v2 o1 o2 L1 L2 b' hg1 hg2 hf1 hf2 hL1 hL2 hb1 hb2 _;have key:∀ k u q,(S.mk σ.e ((g,some (v,on))::(g',none)::σ.o) σ.n).go k=some (u,q)->∃ q',σ.go k=some (u,q')/\q'.fz=q.fz:=by
   grind
  obtain⟨p1,q1,r1⟩:=key _ _ _ hg1;obtain⟨p2,q2,r2⟩:=key _ _ _ hg2;exact h.dist g1 g2 v1 v2 p1 p2 L1 L2 b' q1 q2 (r1.trans hf1) (r2.trans hf2) hL1 hL2 hb1 hb2
 ·intro _ _
  let K:Nat->Prop:=λb'=>L'.b=some b'\/∃ i j,φ g' i j b'
  let φ':Nat->Nat->Nat->Nat->Prop:=λg1 i1 j1 b'=>(g1=g/\i1=i/\j1=off/\K b')\/(¬ (g1=g/\i1=i/\j1=off)/\g1≠g'/\φ g1 i1 j1 b')
  have hKs:∀ b' k u q L1,K b'->k≠g'->σ.go k=some (u,q)->q.fz=false->β u=some L1->L1.b≠some b':=by
   rintro b' k u q L1 (hK|⟨i1,j1,hK⟩) hk hgk hf hL1 hb1
   ·exact hk (h.dist k g' u v' q o' L1 L' b' hgk hg' hf hfz' hL1 hL' hb1 hK)
   ·exact hφ.sep g' i1 j1 b' k u q L1 hK hgk hf hL1 hb1
  have hKφ:∀ b' g1 i1 j1,K b'->g1≠g'->¬ φ g1 i1 j1 b':=by
   rintro b' g1 i1 j1 (hK|⟨i2,j2,hK⟩) hk h1
   ·exact hφ.sep g1 i1 j1 b' g' v' o' L' h1 hg' hfz' hL' hK
   ·exact hk (hφ.dis _ _ _ _ _ _ _ h1 hK).1
  refine⟨φ',?_,?_,?_,?_,?_,?_,?_⟩
  ·intro k u q L1 b1 C1 i' j' e y s ty es hr' hk hf' hL1 hb1 hC1 he hj hy;rcases hgo k u q hk with⟨rfl,rfl,rfl⟩|⟨n1,n2,hk⟩
   ·rw[hL]at hL1;cases hL1;rw[hb]at hb1;cases hb1;rw[og4]at hC1;rw[og3]at hy;rcases hogc i' j' e _ he hj with⟨rfl,rfl,z⟩|⟨z0,e',z1,z2⟩
    ·cases z;rw[hC]at hC1;cases hC1;rw[x1]at hy;cases hy;exact hrat.keep (Ag.refl _) (λ_ _=>rfl) (λb' hb'=>.inl ⟨rfl,rfl,rfl,hb'⟩)
    ·exact(hφ.row k u og _ b C1 i' j' e' y s ty es hr' hg hfz hL hb hC1 z1 z2 hy).keep (Ag.refl _) (λ_ _=>rfl) (λb' hb'=>.inr ⟨λe=>z0 e.2,hne,hb'⟩)
   ·exact(hφ.row k u q L1 b1 C1 i' j' e y s ty es hr' hk hf' hL1 hb1 hC1 he hj hy).keep (Ag.refl _) (λ_ _=>rfl) (λb' hb'=>.inr ⟨λe=>n1 e.1,n2,hb'⟩)
  ·intro k u q L1 b1 C1 i' j' e y nm u' n' hr' hk hf' hL1 hb1 hC1 he hj hy;rcases hgo k u q hk with⟨rfl,rfl,rfl⟩|⟨n1,n2,hk⟩
   ·rw[hL]at hL1;cases hL1;rw[hb]at hb1;cases hb1;rw[og4]at hC1;rw[og3]at hy;rcases hogc i' j' e _ he hj with⟨rfl,rfl,z⟩|⟨z0,e',z1,z2⟩
    ·cases z
    ·exact hφ.hole k u og _ b C1 i' j' e' y _ u' n' hr' hg hfz hL hb hC1 z1 z2 hy
   ·exact hφ.hole k u q L1 b1 C1 i' j' e y _ u' n' hr' hk hf' hL1 hb1 hC1 he hj hy
  ·rintro g1 i1 j1 b' (⟨_,_,_,hK|⟨i2,j2,hK⟩⟩|⟨_,_,hb'⟩)
   ·exact(h.sep g' v' o' L' b' hg' hfz' hL' hK).1
   ·exact hφ.none_ _ _ _ _ hK
   ·exact hφ.none_ _ _ _ _ hb'
  ·rintro g1 i1 j1 b' (⟨_,_,_,hK|⟨i2,j2,hK⟩⟩|⟨_,_,hb'⟩)
   ·exact(h.sep g' v' o' L' b' hg' hfz' hL' hK).2.1
   ·exact hφ.lt _ _ _ _ hK
   ·exact hφ.lt _ _ _ _ hb'
  ·rintro g1 i1 j1 b' (⟨_,_,_,hK|⟨i2,j2,hK⟩⟩|⟨_,_,hb'⟩)
   ·exact(h.sep g' v' o' L' b' hg' hfz' hL' hK).2.2.imp id And.left
   ·exact hφ.new _ _ _ _ hK
   ·exact hφ.new _ _ _ _ hb'
  ·intro g1 i1 j1 b' k u q L1 hb' hk hf hL1 hb1;rcases hgo k u q hk with⟨rfl,rfl,rfl⟩|⟨n1,n2,hk⟩
   ·rcases hb' with⟨_,_,_,hK⟩|⟨_,_,hb'⟩
    ·exact hKs b' k u og L1 hK hne hg hfz hL1 hb1
    ·exact hφ.sep g1 i1 j1 b' k u og L1 hb' hg hfz hL1 hb1
   ·rcases hb' with⟨_,_,_,hK⟩|⟨_,_,hb'⟩
    ·exact hKs b' k u q L1 hK n2 hk hf hL1 hb1
    ·exact hφ.sep g1 i1 j1 b' k u q L1 hb' hk hf hL1 hb1
  ·rintro g1 i1 j1 g2 i2 j2 b' (⟨rfl,rfl,rfl,hK⟩|⟨n1,m1,h1⟩) (⟨rfl,rfl,rfl,hK'⟩|⟨n2,m2,h2⟩)
   ·exact⟨rfl,rfl,rfl⟩
   ·exact(hKφ b' g2 i2 j2 hK m2 h2).elim
   ·exact(hKφ b' g1 i1 j1 hK' m1 h1).elim
   ·exact hφ.dis _ _ _ _ _ _ _ h1 h2
end
theorem BA (rn:Nat->Nat):∀ l:List D,GN rn l=l.map (rnm rn)
 | []=>rfl
 | d::r=>by simp[GN,BA rn r]
section
variable {N:Nat} {w0:World} {F0:Fz} {M:Nat->Prop} {B0:Bt} {σ:S} {F:Fz} {β:Bt} {a:Act} {w:World}
theorem Nr (rn:Nat->Nat) (h:Fro F d x):Fro F (rnm rn d) x:=by
 have key:∀ (cs:List D) (vs:List Value),(∀ (j:Nat) c v,cs[j]? =some c->vs[j]? =some v->Fro F (rnm rn c) v)->∀ (j:Nat) c v,(GN rn cs)[j]? =some c->vs[j]? =some v->Fro F c v:=by
  grind [BA]
 induction h with
 | agg cs vs hl h1 _ ih=>exact .agg _ vs (by grind [BA]) h1 (key cs vs ih)
 | clo f cs vs hl _ ih=>exact .clo f _ vs (by grind [BA]) (key cs vs ih)
 | tup cs vs hl _ ih=>exact .tup _ vs (by grind [BA]) (key cs vs ih)
 | top v=>exact .top v
 | row s ty es v=>exact .row s ty es v
 | hole nm u n v=>exact .hole nm u n v
 | int k n=>exact .int k n
 | bool b=>exact .bool b
 | str s=>exact .str s
 | nils=>exact .nils
 | nilf=>exact .nilf
 | ifc t d v h _=>exact .ifc t d v h
 | nilp=>exact .nilp
 | sl0 a c=>exact .sl0 a c
 | sl es b o c s vf hc hs hF h1 h _=>exact .sl es b o c s vf hc hs hF h1 h
 | fptr e b o off vf hF h1 h _=>exact .fptr e b o off vf hF h1 h
theorem JU (rn:Nat->Nat) (h:Ref F β d x):Ref F β (rnm rn d) x:=by
 cases d<;>first|exact h|exact Ref.Ae (Nr rn h)
theorem AP (rn:Nat->Nat) (h:Cel F β d x):Cel F β (rnm rn d) x:=by
 by_cases hcl:∃ f cs,d= .clo f cs
 case neg =>
  have h':Ref F β d x:=by cases d<;>first|exact h|simp_all
  grind [Cel.CL,JU]
 obtain⟨f,cs,rfl⟩:=hcl;obtain⟨vs,rfl,hl,hv⟩:=h;refine⟨vs,rfl,by grind [BA],λj c v hc hv'=>?_⟩
 grind [BA,JU]
theorem Bc (rn:Nat->Nat) (h:Val F β d x):Val F β (rnm rn d) x:=by
 cases d with
 | agg cs =>
  obtain⟨vs,rfl,hl,h1,hv⟩:=h;refine⟨vs,rfl,by grind [BA],h1,λj c v' hc hv'=>?_⟩
  grind [BA,AP]
 | tup cs =>
  obtain⟨vs,rfl,hl,hv⟩:=h;refine⟨vs,rfl,by grind [BA],λj c v' hc hv'=>?_⟩
  grind [BA,AP]
 | top =>exact Val.Am (AP rn (show Cel F β (.top ) x from h))
 | int x0 x1=>exact Val.Am (AP rn (show Cel F β (.int x0 x1) x from h))
 | bool x0=>exact Val.Am (AP rn (show Cel F β (.bool x0) x from h))
 | str x0=>exact Val.Am (AP rn (show Cel F β (.str x0) x from h))
 | sl x0=>exact Val.Am (AP rn (show Cel F β (.sl x0) x from h))
 | nils =>exact Val.Am (AP rn (show Cel F β (.nils ) x from h))
 | osl x0 x1 x2 x3=>exact Val.Am (AP rn (show Cel F β (.osl x0 x1 x2 x3) x from h))
 | optr x0 x1 x2 x3=>exact Val.Am (AP rn (show Cel F β (.optr x0 x1 x2 x3) x from h))
 | mref x0 x1=>exact Val.Am (AP rn (show Cel F β (.mref x0 x1) x from h))
 | vsl x0 x1 x2=>exact Val.Am (AP rn (show Cel F β (.vsl x0 x1 x2) x from h))
 | fptr x0 x1=>exact Val.Am (AP rn (show Cel F β (.fptr x0 x1) x from h))
 | clo x0 x1=>exact Val.Am (AP rn (show Cel F β (.clo x0 x1) x from h))
 | nilf =>exact Val.Am (AP rn (show Cel F β (.nilf ) x from h))
 | ifc x0 x1=>exact Val.Am (AP rn (show Cel F β (.ifc x0 x1) x from h))
 | nilp=>exact Val.Am (AP rn (show Cel F β (.nilp) x from h))
 | when x0 x1=>exact Val.Am (AP rn (show Cel F β (.when x0 x1) x from h))
 | row x0 x1 x2=>exact Val.Am (AP rn (show Cel F β (.row x0 x1 x2) x from h))
 | hole x0 x1 x2=>exact Val.Am (AP rn (show Cel F β (.hole x0 x1 x2) x from h))
theorem Nn (rn:Nat->Nat) (h:Env F β d x):Env F β (rnm rn d) x:=by
 cases d with
 | top =>exact Env.Ah (Bc rn (show Val F β (.top ) x from h))
 | int x0 x1=>exact Env.Ah (Bc rn (show Val F β (.int x0 x1) x from h))
 | bool x0=>exact Env.Ah (Bc rn (show Val F β (.bool x0) x from h))
 | str x0=>exact Env.Ah (Bc rn (show Val F β (.str x0) x from h))
 | agg x0=>exact Env.Ah (Bc rn (show Val F β (.agg x0) x from h))
 | sl x0=>exact Env.Ah (Bc rn (show Val F β (.sl x0) x from h))
 | nils =>exact Env.Ah (Bc rn (show Val F β (.nils ) x from h))
 | osl x0 x1 x2 x3=>exact Env.Ah (Bc rn (show Val F β (.osl x0 x1 x2 x3) x from h))
 | optr x0 x1 x2 x3=>exact Env.Ah (Bc rn (show Val F β (.optr x0 x1 x2 x3) x from h))
 | mref x0 x1=>exact Env.Ah (Bc rn (show Val F β (.mref x0 x1) x from h))
 | vsl x0 x1 x2=>exact Env.Ah (Bc rn (show Val F β (.vsl x0 x1 x2) x from h))
 | fptr x0 x1=>exact Env.Ah (Bc rn (show Val F β (.fptr x0 x1) x from h))
 | clo x0 x1=>exact Env.Ah (Bc rn (show Val F β (.clo x0 x1) x from h))
 | nilf =>exact Env.Ah (Bc rn (show Val F β (.nilf ) x from h))
 | ifc x0 x1=>exact Env.Ah (Bc rn (show Val F β (.ifc x0 x1) x from h))
 | nilp=>exact Env.Ah (Bc rn (show Val F β (.nilp) x from h))
 | tup x0=>exact Env.Ah (Bc rn (show Val F β (.tup x0) x from h))
 | row x0 x1 x2=>exact Env.Ah (Bc rn (show Val F β (.row x0 x1 x2) x from h))
 | hole x0 x1 x2=>exact Env.Ah (Bc rn (show Val F β (.hole x0 x1 x2) x from h))
 | when p d=>exact h
theorem HS (rn:Nat->Nat) (d:D):cells (rnm rn d)=(cells d).map (rnm rn):=by
 cases d<;>simp[cells,rnm,BA]
theorem Fv {ks:List Nat} (h:DM rn ks=true):(∀ k∈ks,Ac (rn k)=Ac k)/\∀ k∈ks,∀ k'∈ks,rn k=rn k'->k=k':=by
 simp only[DM,aAK,aAS,Bool.or_eq_true,aAs,beq_iff_eq]at h;refine⟨λk hk=>(h k hk).1,λk hk k' hk' e=>?_⟩
 rcases(h k hk).2 k' hk' with h1|h1
 all_goals simp_all
theorem Ib {rn:Nat->Nat} {ks:List Nat} (hi:∀ k∈ks,∀ k'∈ks,rn k=rn k'->k=k'):∀ (l:List (Nat×Ab)) (g':Nat) (y:Ab),(∀ p∈l,p.1∈ks)->look (l.map λp=>(rn p.1,rnO rn p.2)) g'=some y->∃ g x,g∈ks/\rn g=g'/\look l g=some x/\y=rnO rn x
 | [],g',y,_,h=>by grind [look]
 | (k,x)::r,g',y,hk,h=>by
  simp only[List.map_cons,look]at h;have hkk:=hk (k,x) (List.mem_cons_self ..);split at h
  ·grind [look]
  ·rename_i hne;obtain⟨g,x',h1,h2,h3,h4⟩:=Ib hi r g' y (λp hp=>hk p (List.mem_cons_of_mem _ hp)) h
   grind [look]
theorem Ch (hn:DM rn (σ.o.map Prod.fst)=true) {g':Nat} {q:Own} (h:(S.mk (σ.e.map (λp=>(p.1,rnm rn p.2))) (σ.o.map (λp=>(rn p.1,rnO rn p.2))) σ.n).go g'=some (v,q)) :
  ∃ g o,g∈σ.o.map Prod.fst/\rn g=g'/\σ.go g=some (v,o)/\q={ o with es:=bif o.var then o.es.map (rnm rn)else o.es }:=by
 obtain⟨_,hi⟩:=Fv hn;simp only[S.go]at h;cases hl:look (σ.o.map (λp=>(rn p.1,rnO rn p.2))) g' with
 | none=>simp_all
 | some y =>
  rw[hl]at h;simp only[aAE]at h;obtain⟨g,x,h1,h2,h3,h4⟩:=Ib hi σ.o g' y (λp hp=>aAY.2 ⟨p,hp,rfl⟩) hl
  subst h4;cases x with
  | none=>cases h
  | some p =>
   obtain⟨u,o⟩:=p;cases h
   grind [S.go]
theorem HE {o:Own} {j:Nat} {e c:D} (he:(bif o.var then o.es.map (rnm rn)else o.es)[i]? =some e) (hc:(cells e)[j]? =some c):∃ e0 c0,o.es[i]? =some e0/\(cells e0)[j]? =some c0/\(c=c0\/(o.var=true/\c=rnm rn c0)):=by
 cases hv:o.var with
 | false=>simp_all
 | true =>
  rw[hv]at he;simp only[cond_true,aAN,aAH]at he
  grind [HS]
theorem JX:(∀ s ty es,rnm rn d= .row s ty es->d= .row s ty es)/\∀ nm u n,rnm rn d= .hole nm u n->d= .hole nm u n:=by
 cases d<;>exact⟨λ_ _ _ e=>(by first|exact e|cases e),λ_ _ _ e=>(by first|exact e|cases e)⟩
theorem NH (h:Sim N w0 F0 M B0 σ F β a w) (hn:DM rn (σ.o.map Prod.fst)=true) :
  Sim N w0 F0 M B0 ⟨σ.e.map (λp=>(p.1,rnm rn p.2)),σ.o.map (λp=>(rn p.1,rnO rn p.2)),σ.n⟩ F β a w:=by
 obtain⟨hrc,hi⟩:=Fv hn;have hlen:∀ o:Own,(bif o.var then o.es.map (rnm rn)else o.es).length=o.es.length:=by grind
 have hcl:∀ o:Own,(∀ e∈o.es,(cells e).length=o.s)->∀ e∈(bif o.var then o.es.map (rnm rn)else o.es),(cells e).length=o.s:=by
  grind [HS]
 have hok:∀ {L:Loc} {o:Own},Ax F β w L o->Ax F β w L { o with es:=bif o.var then o.es.map (rnm rn)else o.es }:=by
  rintro L o ⟨e1,e2,e3,e4,e5,e6⟩;refine⟨e1,e2,by grind,e4,hcl o e5,?_⟩
  cases hb:L.b with
  | none=>grind
  | some b =>
   rw[hb]at e6;obtain⟨C,hC,hCs,hcell⟩:=e6;refine⟨C,hC,hCs,λi j e c h1 h2=>?_⟩
   obtain⟨e0,c0,k1,k2,k3⟩:=HE h1 h2;obtain⟨x,x1,x2,x3⟩:=hcell i j e0 c0 k1 k2;refine⟨x,x1,x2,?_⟩;rcases k3 with rfl|⟨hv,rfl⟩
   ·exact x3
   ·rw[if_pos hv]at x3;rw[if_pos hv];grind [AP]
 refine{ nam:=h.nam,size:=h.size,defers:=h.defers,env:=λt=>?_,own:=?_,dist:=?_,sep:=?_,Ac:=?_,frz:=h.frz,fin:=h.fin,step:=h.step }
 ·rw[IK (rnm rn) rfl];exact Nn rn (h.env t)
 ·intro g' v q hg;obtain⟨g,o,_,_,hgo,rfl⟩:=Ch hn hg;obtain⟨L,hL,h1,h2⟩:=h.own g v o hgo;refine⟨L,hL,λhf=>?_,λhf=>hok (h2 hf)⟩
  have hz:=h1 hf;have hv:o.var=false:=hz.var;have:({ o with es:=bif o.var then o.es.map (rnm rn)else o.es }:Own)=o:=by cases o;grind
  grind
 ·intro g1 g2 v1 v2 q1 q2 L1 L2 b h1 h2 f1 f2 l1 l2 b1 b2;obtain⟨k1,o1,_,r1,s1,rfl⟩:=Ch hn h1;obtain⟨k2,o2,_,r2,s2,rfl⟩:=Ch hn h2;have:=h.dist k1 k2 v1 v2 o1 o2 L1 L2 b s1 s2 f1 f2 l1 l2 b1 b2
  grind
 ·intro g' v q L b hg hf hL hb;obtain⟨g,o,m,r,s,rfl⟩:=Ch hn hg;obtain⟨z1,z2,z3⟩:=h.sep g v o L b s hf hL hb
  grind
 ·obtain⟨φ,hφ⟩:=h.Ac;refine⟨λg' i j b=>∃ g,g∈σ.o.map Prod.fst/\rn g=g'/\φ g i j b,?_,?_,λg i j b ⟨k,_,_,hb⟩=>hφ.none_ k i j b hb,λg i j b ⟨k,_,_,hb⟩=>hφ.lt k i j b hb,λg i j b ⟨k,_,_,hb⟩=>hφ.new k i j b hb,?_,?_⟩
  ·intro g' v q L b C i j e x s ty es hr hg hf hL hb hC he hj hx;obtain⟨g,o,m,r,hgo,rfl⟩:=Ch hn hg;obtain⟨e0,c0,k1,k2,k3⟩:=HE he hj;have hc0:c0= .row s ty es:=by
    rcases k3 with k3|⟨_,k3⟩
    ·grind
    ·exact JX.1 _ _ _ k3.symm
   subst hc0;have hr':Ac g=true:=by grind
   exact(hφ.row g v o L b C i j e0 x s ty es hr' hgo hf hL hb hC k1 k2 hx).keep (Ag.refl _) (λ_ _=>rfl) λb hb=>⟨g,m,r,hb⟩
  ·intro g' v q L b C i j e x nm u n hr hg hf hL hb hC he hj hx;obtain⟨g,o,m,r,hgo,rfl⟩:=Ch hn hg;obtain⟨e0,c0,k1,k2,k3⟩:=HE he hj;have hc0:c0= .hole nm u n:=by
    rcases k3 with k3|⟨_,k3⟩
    ·grind
    ·exact JX.2 _ _ _ k3.symm
   subst hc0;have hr':Ac g=true:=by grind
   exact hφ.hole g v o L b C i j e0 x _ u n hr' hgo hf hL hb hC k1 k2 hx
  ·rintro g1 i j b g' v' q L' ⟨k,_,_,hb⟩ hg hf hL;obtain⟨g,o,m,r,hgo,rfl⟩:=Ch hn hg;exact hφ.sep k i j b g v' o L' hb hgo hf hL
  ·rintro g1 i j g2 i' j' b ⟨k,_,r,hb⟩ ⟨k',_,r',hb'⟩;obtain⟨e1,e2,e3⟩:=hφ.dis k i j k' i' j' b hb hb'
   grind
end
section
variable {N:Nat} {w0:World} {F0:Fz} {M:Nat->Prop} {B0:Bt} {σ:S} {F:Fz} {β:Bt} {a:Act} {w:World}
theorem Sim.Je (h:Sim N w0 F0 M B0 σ F β a w) {F':Fz} {g2:Nat} {o on:Own} (hg:σ.go g=some (v,o)) (hfz:o.fz=false) (hL:β v=some L) (hfz2:on.fz=false) (hgo:∀ k u q,σ'.go k=some (u,q)->(k=g2/\u=v/\q=on)\/(k≠g2/\k≠g/\σ.go k=some (u,q))) (hon:Ax F' β w L on) (henv:∀ t,Env F' β (σ'.ge t) (a.tmps.getD t undef)) {Z:Nat->Prop} (hZ:∀ b,Z b->∃ φ,AA F β w0.heap.size M σ w φ/\∃ i j,φ g i j b) (hF:Ag F F') (hFold:∀ b i,¬ Z b->F' b i=F b i) (hfrz:Fok F' w) (hfin:∀ b i x,F' b i=some x->b<w.heap.size) (hr2:Dw.Ac g=true->Dw.Ac g2=true) (hov:on.var=o.var) (hrich:∀ φ,AA F β w0.heap.size M σ w φ->∃ φ',AA F' β w0.heap.size M σ' w φ'):Sim N w0 F0 M B0 σ' F' β a w:=by
 have hLb:∀ b,L.b=some b->¬ Z b:=by
  intro b hb hz;obtain⟨φ,hφ,i,j,hij⟩:=hZ b hz;exact hφ.sep g i j b g v o L hij hg hfz hL hb
 refine h.change (row:=λb=>L.b=some b\/Z b) rfl rfl rfl (aAF _) (λ_ _ _=>rfl) ?_ hF (λb i _ hn=>hFold b i λhz=>hn (.inr hz)) hfrz hfin (Aw.refl _) h.size h.defers henv ?_ ?_ hrich
 ·rintro b (hb|hz)
  ·exact(h.sep g v o L b hg hfz hL hb).2.2.imp id And.left
  ·obtain⟨φ,hφ,i,j,hij⟩:=hZ b hz;exact hφ.new g i j b hij
 ·intro k u q hk;rcases hgo k u q hk with⟨rfl,rfl,rfl⟩|⟨n1,n2,hk⟩
  ·refine .inr ⟨L,hL,hfz2,hon,λb' hb'=>?_⟩
   obtain⟨s1,s2,s3⟩:=h.sep g u o L b' hg hfz hL hb'
   grind
  ·refine .inl ⟨hk,?_⟩;rintro L1 b1 hf hL1 hb1 (hb|hz)
   ·exact n2 (h.dist k g u v q o L1 L b1 hk hg hf hfz hL1 hL hb1 hb)
   ·obtain⟨φ,hφ,i,j,hij⟩:=hZ b1 hz;exact hφ.sep g i j b1 k u q L1 hij hk hf hL1 hb1
 ·intro g1 g3 v1 v3 o1 o3 L1 L3 b' hg1 hg3 hf1 hf3 hL1 hL3 hb1 hb3 _;rcases hgo g1 v1 o1 hg1 with⟨rfl,rfl,rfl⟩|⟨n1,n2,hk⟩
  ·rcases hgo g3 v3 o3 hg3 with⟨rfl,rfl,rfl⟩|⟨n1',n2',hk'⟩
   ·rfl
   ·exact(n2' (h.dist g3 g v3 v1 o3 o L3 L1 b' hk' hg hf3 hfz hL3 hL1 hb3 hb1)).elim
  ·rcases hgo g3 v3 o3 hg3 with⟨rfl,rfl,rfl⟩|⟨n1',n2',hk'⟩
   ·exact(n2 (h.dist g1 g v1 v3 o1 o L1 L3 b' hk hg hf1 hfz hL1 hL3 hb1 hb3)).elim
   ·exact h.dist g1 g3 v1 v3 o1 o3 L1 L3 b' hk hk' hf1 hf3 hL1 hL3 hb1 hb3
theorem EE {R:D->D->Prop} {l l':List D} (h:Each R l l') {e':D} (he:l'[i]? =some e'):∃ e,l[i]? =some e/\R e e':=by
 have hlt:i<l.length:=by rw[<- h.1];grind
 exact⟨_,aAO hlt,h.2 i _ e' (aAO hlt) he⟩
theorem LG (h:Sim N w0 F0 M B0 σ F β a w) {g2:Nat} {o:Own} (hg:σ.go g=some (v,o)) (hfz:o.fz=false) (hn:(g2=g/\Ac g=true)\/(Ac g=false/\g2=4096+g)) (he:Each (Enr (Ac g)) o.es es') :
  Sim N w0 F0 M B0 ⟨σ.e.map (λp=>(p.1,ren g g2 p.2)),(g2,some (v,{ o with es:=es' }))::(g,bif aAt g g2 then some (v,{ o with es:=es' })else none)::σ.o,σ.n⟩ F β a w:=by
 obtain⟨L,hL,_,hk⟩:=h.own g v o hg;obtain⟨e1,e2,e3,e4,e5,e6⟩:=hk hfz;have hr2:Ac g2=true:=by
  rcases hn with⟨rfl,hr⟩|⟨_,rfl⟩
  ·exact hr
  ·simp[Ac]
 have hgo:∀ k u q,(S.mk (σ.e.map (λp=>(p.1,ren g g2 p.2))) ((g2,some (v,{ o with es:=es' }))::(g,bif aAt g g2 then some (v,{ o with es:=es' })else none)::σ.o) σ.n).go k=some (u,q)->(k=g2/\u=v/\q={ o with es:=es' })\/(k≠g2/\k≠g/\σ.go k=some (u,q)):=by
  intro k u q hk;rw[CB]at hk;split at hk
  ·simp_all
  ·rename_i n1;rw[CB]at hk;split at hk
   ·grind [aAc]
   ·rename_i n2;exact .inr ⟨n1,n2,hk⟩
 have hcel:∀ (i j:Nat) e c',es'[i]? =some e->(cells e)[j]? =some c'->∃ e0 c,o.es[i]? =some e0/\(cells e0)[j]? =some c/\((c'=c/\(Ac g=true\/plain c=true))\/(c= .nils/\∃ s ty,0<s/\c'= .row s ty [])):=by
  intro i j e c' h1 h2;obtain⟨e0,k1,k2,k3⟩:=EE he h1
  grind
 refine h.Je hg hfz hL (on:={ o with es:=es' }) hfz hgo ⟨e1,e2,by simp only[he.1];exact e3,e4,λe hm=>?_,?_⟩ (λt=>?_) (Z:=λ_=>False) (λ_ hz=>hz.elim) (Ag.refl _) (λ_ _ _=>rfl) h.frz h.fin (λ_=>hr2) rfl λφ hφ=>?_
 ·obtain⟨i,hi⟩:=List.getElem?_of_mem hm;obtain⟨e0,k1,k2,_⟩:=EE he hi
  grind
 ·cases hb:L.b with
  | none=>simp_all
  | some b =>
   rw[hb]at e6;obtain⟨C,hC,hCs,hcell⟩:=e6;refine⟨C,hC,hCs,λi j e c' h1 h2=>?_⟩
   obtain⟨e0,c,k1,k2,k3⟩:=hcel i j e c' h1 h2;obtain⟨x,x1,x2,x3⟩:=hcell i j e0 c k1 k2;refine⟨x,x1,x2,?_⟩;rcases k3 with⟨rfl,_⟩|⟨_,s,ty,_,rfl⟩
   ·exact x3
   ·split
    ·exact Cel.Ae (.row _ _ _ _)
    ·exact .row _ _ _ _
 ·rw[IK (ren g g2) rfl];exact Nm g g2 (h.env t)
 ·let φ':Nat->Nat->Nat->Nat->Prop:=λk i j b=>(k=g2/\Ac g=true/\φ g i j b)\/(k≠g2/\k≠g/\φ k i j b)
  have hsub:∀ k i j b,φ' k i j b->∃ k',φ k' i j b:=by
   grind
  refine⟨φ',?_,?_,λk i j b hb=>?_,λk i j b hb=>?_,λk i j b hb=>?_,λk i j b g' v' o' L' hb hg' hf' hL'=>?_,?_⟩
  ·intro k u q L1 b C i j e x s ty es hr hk hf hL1 hb hC hei hj hx;rcases hgo k u q hk with⟨rfl,rfl,rfl⟩|⟨n1,n2,hk⟩
   ·obtain⟨e0,c,k1,k2,k3⟩:=hcel i j e _ hei hj;rcases k3 with⟨rfl,hpl⟩|⟨rfl,s',ty',hs',heq⟩
    ·have hrg:Ac g=true:=hpl.resolve_right (λh=>by cases h)
     exact(hφ.row g u o L1 b C i j e0 x s ty es hrg hg hfz hL1 hb hC k1 k2 hx).keep (Ag.refl _) (λ_ _=>rfl) (λb hb=>.inl ⟨rfl,hrg,hb⟩)
    ·cases heq;rw[hL]at hL1;cases hL1;rw[hb]at e6;obtain⟨C',hC',_,hcell⟩:=e6;rw[hC']at hC;cases hC;obtain⟨y,y1,_,y3⟩:=hcell i j e0 _ k1 k2;rw[y1]at hx;cases hx;have:x= .slice none 0 0:=by
      split at y3
      ·exact EV (β:=β) (Val.Am y3)
      ·exact EV (β:=β) (Val.Ae y3)
     subst this;exact .nil _ _ _ hs'
   ·exact(hφ.row k u q L1 b C i j e x s ty es hr hk hf hL1 hb hC hei hj hx).keep (Ag.refl _) (λ_ _=>rfl) (λb hb=>.inr ⟨n1,n2,hb⟩)
  ·intro k u q L1 b C i j e x nm u' n' hr hk hf hL1 hb hC hei hj hx;rcases hgo k u q hk with⟨rfl,rfl,rfl⟩|⟨n1,n2,hk⟩
   ·obtain⟨e0,c,k1,k2,k3⟩:=hcel i j e _ hei hj;rcases k3 with⟨rfl,hpl⟩|⟨_,_,_,_,heq⟩
    ·have hrg:Ac g=true:=hpl.resolve_right (λh=>by cases h)
     exact hφ.hole g u o L1 b C i j e0 x _ u' n' hrg hg hfz hL1 hb hC k1 k2 hx
    ·cases heq
   ·exact hφ.hole k u q L1 b C i j e x _ u' n' hr hk hf hL1 hb hC hei hj hx
  ·obtain⟨k',hb⟩:=hsub k i j b hb;exact hφ.none_ _ _ _ _ hb
  ·obtain⟨k',hb⟩:=hsub k i j b hb;exact hφ.lt _ _ _ _ hb
  ·obtain⟨k',hb⟩:=hsub k i j b hb;exact hφ.new _ _ _ _ hb
  ·obtain⟨k',hb2⟩:=hsub k i j b hb;rcases hgo g' v' o' hg' with⟨rfl,rfl,rfl⟩|⟨_,_,hk⟩
   ·exact hφ.sep k' i j b g _ o L' hb2 hg hfz hL'
   ·exact hφ.sep k' i j b g' v' o' L' hb2 hk hf' hL'
  ·rintro k i j k' i' j' b (⟨rfl,_,h1⟩|⟨n1,n2,h1⟩) (⟨rfl,_,h2⟩|⟨m1,m2,h2⟩)
   ·exact⟨rfl,(hφ.dis _ _ _ _ _ _ _ h1 h2).2⟩
   ·exact(m2 (hφ.dis _ _ _ _ _ _ _ h2 h1).1).elim
   ·exact(n2 (hφ.dis _ _ _ _ _ _ _ h1 h2).1).elim
   ·exact hφ.dis _ _ _ _ _ _ _ h1 h2
theorem Mp (h:Sim N w0 F0 M B0 σ F β a w) {o:Own} (hg:σ.go g=some (v,o)) (hr:Ac g=false) (hfz:o.fz=false) (hvar:o.var=false) :
  Sim N w0 F0 M B0 ⟨σ.e,(g,some (v,{ o with es:=o.es.map nrm }))::σ.o,σ.n⟩ F β a w:=by
 obtain⟨L,hL,_,hk⟩:=h.own g v o hg;obtain⟨e1,e2,e3,e4,e5,e6⟩:=hk hfz;have hgo:∀ k u q,(S.mk σ.e ((g,some (v,{ o with es:=o.es.map nrm }))::σ.o) σ.n).go k=some (u,q)->(k=g/\u=v/\q={ o with es:=o.es.map nrm })\/(k≠g/\k≠g/\σ.go k=some (u,q)):=by
  intro k u q hk;rw[CB]at hk;split at hk
  all_goals simp_all
 refine h.Je hg hfz hL (on:={ o with es:=o.es.map nrm }) hfz hgo ⟨e1,e2,by simp_all,e4,λe hm=>?_,?_⟩ h.env (Z:=λ_=>False) (λ_ hz=>hz.elim) (Ag.refl _) (λ_ _ _=>rfl) h.frz h.fin id rfl λφ hφ=>⟨φ,hφ.keep (Ag.refl _) (Aw.refl _) (aAF _) (λ_ _ _ _ _ _=>rfl) (λ_ _ _ _ _=>rfl) (λk u q hk=>?_) (λk u q hrk hk hf=>.inl ?_) (λg1 i j b k u q L' hb hk hf hL'=>?_)⟩
 ·grind [CQ,BT]
 ·cases hb:L.b with
  | none=>simp_all
  | some b =>
   rw[hb]at e6;obtain⟨C,hC,hCs,hcell⟩:=e6;refine⟨C,hC,hCs,λi j e c' h1 h2=>?_⟩
   simp only[aAN,aAH]at h1;obtain⟨e0,k1,rfl⟩:=h1;rw[CQ,BT,aAN,aAH]at h2;obtain⟨c,k2,rfl⟩:=h2;obtain⟨x,x1,x2,x3⟩:=hcell i j e0 c k1 k2;rw[hvar]at x3;simp only[aAU,if_false]at x3;refine⟨x,x1,x2,?_⟩;simp only[hvar,aAU,if_false];exact x3.nrm
 ·obtain⟨L,hL,_⟩:=h.own k u q hk;simp_all
 ·grind
 ·rcases hgo k u q hk with⟨rfl,rfl,rfl⟩|⟨_,_,hk⟩
  ·exact hφ.sep g1 i j b k u o L' hb hg hfz hL'
  ·exact hφ.sep g1 i j b k u q L' hb hk hf hL'
open Classical in
theorem Mo (h:Sim N w0 F0 M B0 σ F β a w) {o:Own} (hg:σ.go g=some (v,o)) (hr:Ac g=true) (hfz:o.fz=false) (he:Each Frr o.es es') :
  ∃ F',Sim N w0 F0 M B0 ⟨σ.e,(g,some (v,{ o with es:=es' }))::σ.o,σ.n⟩ F' β a w:=by
 obtain⟨φ,hφ⟩:=h.Ac;obtain⟨L,hL,_,hk⟩:=h.own g v o hg;obtain⟨e1,e2,e3,e4,e5,e6⟩:=hk hfz
 let Fc:Nat->Nat->Prop:=λi j=>∃ e' es,es'[i]? =some e'/\(cells e')[j]? =some (.sl es)
 let Z:Nat->Prop:=λb=>∃ i j,Fc i j/\φ g i j b
 let F':Fz:=λb i=>if Z b then w.cell? ⟨b,i,none⟩else F b i
 have hZF:∀ b i,Z b->F' b i=w.cell? ⟨b,i,none⟩:=λb i hz=>if_pos hz
 have hFn:∀ b i,¬ Z b->F' b i=F b i:=λb i hz=>if_neg hz
 have hsub:Ag F F':=by
  intro b i x hx
  by_cases hz:Z b
  ·obtain⟨i',j',_,hb⟩:=hz;rw[hφ.none_ g i' j' b hb i]at hx;cases hx
  ·rw[hFn b i hz];exact hx
 have hgo:∀ k u q,(S.mk σ.e ((g,some (v,{ o with es:=es' }))::σ.o) σ.n).go k=some (u,q)->(k=g/\u=v/\q={ o with es:=es' })\/(k≠g/\k≠g/\σ.go k=some (u,q)):=by
  intro k u q hk;rw[CB]at hk;split at hk
  ·rename_i e;cases hk;exact .inl ⟨e,rfl,rfl⟩
  ·rename_i n1;exact .inr ⟨n1,n1,hk⟩
 have hcel:∀ (i j:Nat) e c',es'[i]? =some e->(cells e)[j]? =some c'->∃ e0 c,o.es[i]? =some e0/\(cells e0)[j]? =some c/\(c'=c\/∃ s ty es,c= .row s ty es/\(∀ q∈es,Az q=true)/\c'= .sl es):=by
  intro i j e c' h1 h2;obtain⟨e0,k1,k2,k3⟩:=EE he h1;have hlt:j<(cells e0).length:=by rw[<- k2];exact(aAC.1 h2).1
  exact⟨e0,_,k1,aAO hlt,k3 j _ c' (aAO hlt) h2⟩
 have hfro:∀ (i j s ty:Nat) es x,Bp F w (φ g i j) s ty es x->(∀ b,φ g i j b->Z b)->Fro F' (.sl es) x:=by
  intro i j s ty es x hra hz;cases hra with
  | nil=>exact .sl0 _ _
  | row _ _ _ _ b cap C fp xf hs hc hm hl hC hCs hb hx _ _ _ _ =>
   refine .sl es b 0 cap s xf hc hl (λi' j' e d he hd=>?_) (λi' j' e d he hd=>(hx i' j' e d he hd).2.1) λi' j' e d he hd=>((hx i' j' e d he hd).2.2).mono hsub
   rw[hZF b _ (hz b hb)];simp[aAx,hC,(hx i' j' e d he hd).1]
 refine⟨F',?_⟩;refine h.Je hg hfz hL (on:={ o with es:=es' }) hfz hgo ⟨e1,e2,by simp only[he.1];exact e3,e4,λe hm=>?_,?_⟩ (λt=>(h.env t).mono hsub (Aw.refl _)) (Z:=Z) (λb ⟨i,j,_,hb⟩=>⟨φ,hφ,i,j,hb⟩) hsub hFn (λb i x hx=>?_) (λb i x hx=>?_) id rfl λ_ _=>?_
 ·obtain⟨i,hi⟩:=List.getElem?_of_mem hm;obtain⟨e0,k1,k2,_⟩:=EE he hi;rw[k2];exact e5 e0 (aAB k1)
 ·cases hb:L.b with
  | none=>rw[hb]at e6;exact e6
  | some b =>
   rw[hb]at e6;obtain⟨C,hC,hCs,hcell⟩:=e6;refine⟨C,hC,hCs,λi j e c' h1 h2=>?_⟩
   obtain⟨e0,c,k1,k2,k3⟩:=hcel i j e c' h1 h2;obtain⟨x,x1,x2,x3⟩:=hcell i j e0 c k1 k2;refine⟨x,x1,x2,?_⟩;rcases k3 with rfl|⟨s,ty,es,rfl,_,rfl⟩
   ·split at x3
    ·rename_i hv;rw[if_pos hv];exact x3.mono hsub (Aw.refl _)
    ·rename_i hv;rw[if_neg hv];exact x3.mono hsub
   ·have hra:=hφ.row g v o L b C i j e0 x s ty es hr hg hfz hL hb hC k1 k2 x1;have hf:=hfro i j s ty es x hra (λb' hb'=>⟨i,j,⟨e,es,h1,h2⟩,hb'⟩)
    split
    ·exact Cel.Ae hf
    ·exact hf
 ·by_cases hz:Z b
  ·rw[hZF b i hz]at hx;exact hx
  ·rw[hFn b i hz]at hx;exact h.frz b i x hx
 ·by_cases hz:Z b
  ·obtain⟨i',j',_,hb⟩:=hz;exact hφ.lt g i' j' b hb
  ·rw[hFn b i hz]at hx;exact h.fin b i x hx
 ·have hnZ:∀ k i j b,φ k i j b->¬ (k=g/\Fc i j)->¬ Z b:=by
   rintro k i j b hb hn ⟨i',j',hf,hb'⟩;obtain⟨rfl,rfl,rfl⟩:=hφ.dis _ _ _ _ _ _ _ hb hb';exact hn ⟨rfl,hf⟩
  refine⟨λk i j b=>φ k i j b/\¬ (k=g/\Fc i j),?_,?_,λk i j b hb m=>?_,λk i j b hb=>hφ.lt k i j b hb.1,λk i j b hb=>hφ.new k i j b hb.1,λk i j b g' v' o' L' hb hg' hf' hL'=>?_,λk i j k' i' j' b h1 h2=>hφ.dis _ _ _ _ _ _ _ h1.1 h2.1⟩
  ·intro k u q L1 b C i j e x s ty es hrk hk hf hL1 hb hC hei hj hx;rcases hgo k u q hk with⟨rfl,rfl,rfl⟩|⟨n1,_,hk⟩
   ·obtain⟨e0,c,k1,k2,k3⟩:=hcel i j e _ hei hj;rcases k3 with rfl|⟨_,_,_,_,_,heq⟩
    ·refine(hφ.row k u o L1 b C i j e0 x s ty es hrk hg hfz hL1 hb hC k1 k2 hx).keep hsub (λ_ _=>rfl) (λb hb=>⟨hb,?_⟩)
     rintro⟨_,e'',es'',z1,z2⟩;rw[hei]at z1;cases z1;rw[hj]at z2;cases z2
    ·cases heq
   ·exact(hφ.row k u q L1 b C i j e x s ty es hrk hk hf hL1 hb hC hei hj hx).keep hsub (λ_ _=>rfl) (λb hb=>⟨hb,λe=>n1 e.1⟩)
  ·intro k u q L1 b C i j e x nm u' n' hrk hk hf hL1 hb hC hei hj hx;rcases hgo k u q hk with⟨rfl,rfl,rfl⟩|⟨n1,_,hk⟩
   ·obtain⟨e0,c,k1,k2,k3⟩:=hcel i j e _ hei hj;rcases k3 with rfl|⟨_,_,_,_,_,heq⟩
    ·exact(hφ.hole k u o L1 b C i j e0 x _ u' n' hrk hg hfz hL1 hb hC k1 k2 hx).mono hsub (Aw.refl _)
    ·cases heq
   ·exact(hφ.hole k u q L1 b C i j e x _ u' n' hrk hk hf hL1 hb hC hei hj hx).mono hsub (Aw.refl _)
  ·rw[hFn b m (hnZ k i j b hb.1 hb.2)];exact hφ.none_ k i j b hb.1 m
  ·rcases hgo g' v' o' hg' with⟨rfl,rfl,rfl⟩|⟨_,_,hk⟩
   ·exact hφ.sep k i j b g' v' o L' hb.1 hg hfz hL'
   ·exact hφ.sep k i j b g' v' o' L' hb.1 hk hf' hL'
theorem Ld (g v:Nat) (z:D) (e:List (Nat×D)) (n:Nat):∀ (o:List (Nat×Ab)) (k:Nat),(S.mk e (o.map λp=>(p.1,frO g v z p.2)) n).go k=frO g v z ((S.mk e o n).go k):=by
 intro o k;simp only[S.go]
 induction o with
 | nil=>simp[look,frO]
 | cons p o ih =>
  grind [look]
theorem Fq (g v:Nat) (z:D) (e:D):(cells (frp g v z e)).length=(cells e).length/\∀ j:Nat,(cells (frp g v z e))[j]? =((cells e)[j]?).map (frp g v z):=by
 cases e with
 | agg cs=>grind [frp,cells,Bw]
 | optr k u i off =>
  grind [frp,cells]
 | _=>exact⟨rfl,λj=>by rcases j with _|j<;>simp[cells,frp]⟩
theorem Nt:(∀ s ty es,frp g v z d= .row s ty es->d= .row s ty es)/\∀ nm u n,frp g v z d= .hole nm u n->d= .hole nm u n:=by
 cases d with
 | optr k u i off =>
  grind [frp]
 | _=>exact⟨λ_ _ _ e=>(by first|exact e|cases e),λ_ _ _ e=>(by first|exact e|cases e)⟩
open Classical in
theorem NG (h:Sim N w0 F0 M B0 σ F β a w) {o:Own} (hg:σ.go g=some (v,o)) (hfz:o.fz=false) (hvar:o.var=true) (hz:o.es=[z]) (hc:(cells z).all Qr=true) :
  ∃ F',Sim N w0 F0 M B0 ⟨σ.e.map (λp=>(p.1,frp g v z p.2)),(g,none)::σ.o.map (λp=>(p.1,frO g v z p.2)),σ.n⟩ F' β a w:=by
 obtain⟨L,hL,_,hk⟩:=h.own g v o hg;obtain⟨e1,e2,e3,e4,e5,e6⟩:=hk hfz
 let Z:Nat->Prop:=λb=>L.b=some b
 let F':Fz:=λb i=>if Z b then w.cell? ⟨b,i,none⟩else F b i
 have hZF:∀ b i,Z b->F' b i=w.cell? ⟨b,i,none⟩:=λb i hz=>if_pos hz
 have hFn:∀ b i,¬ Z b->F' b i=F b i:=λb i hz=>if_neg hz
 have hsep:=λb hb=>h.sep g v o L b hg hfz hL hb
 have hsub:Ag F F':=by
  intro b i x hx
  by_cases hzb:Z b
  ·rw[(hsep b hzb).1 i]at hx;cases hx
  ·rw[hFn b i hzb];exact hx
 have hfr:IA F' β v z:=by
  refine⟨λL' b off hL' hb=>?_⟩
  rw[hL]at hL';cases hL';rw[hb]at e6;obtain⟨C,hC,hCs,hcell⟩:=e6;have hx:∀ (j:Nat) d,(cells z)[j]? =some d->∃ x,C[j]? =some x/\x.oneCell'=true/\Fro F d x:=by
   intro j d hd;obtain⟨x,x1,x2,x3⟩:=hcell 0 j z d (by rw[hz];rfl) hd
   rw[if_pos hvar]at x3;have hf:=aAK.1 hc d (aAB hd);refine⟨x,by simpa using x1,x2,?_⟩
   cases d<;>try first|(cases hf;done)|exact x3
   obtain⟨vs,rfl,hl,hv⟩:=x3;refine .clo _ _ vs hl λk c v hk hkv=>?_
   have h1:=aAK.1 hf c (aAB hk);have h2:=hv k c v hk hkv;cases c<;>first|(cases h1;done)|exact h2
  have:=Fro.fptr (F:=F') z b 0 off (λj=>(C[j]?).getD undef) (λj d hd=>by
    obtain⟨x,x1,_,_⟩:=hx j d hd;rw[hZF b _ hb]
    simp[aAx,hC,x1]) (λj d hd=>by
    obtain⟨x,x1,x2,_⟩:=hx j d hd
    rw[x1];exact x2) (λj d hd=>by
    obtain⟨x,x1,_,x3⟩:=hx j d hd
    rw[x1];exact x3.mono hsub)
  simpa using this
 have hgo:∀ k u q,(S.mk (σ.e.map (λp=>(p.1,frp g v z p.2))) ((g,none)::σ.o.map (λp=>(p.1,frO g v z p.2))) σ.n).go k=some (u,q)->k≠g/\∃ q0,σ.go k=some (u,q0)/\q={ q0 with es:=bif q0.var then q0.es.map (frp g v z)else q0.es }:=by
  intro k u q hk;rw[CB]at hk;split at hk
  ·cases hk
  ·rename_i n1;rw[Ld]at hk;have:(S.mk (σ.e.map (λp=>(p.1,frp g v z p.2))) σ.o σ.n).go k=σ.go k:=rfl
   rw[this]at hk;cases hs:σ.go k with
   | none=>rw[hs]at hk;cases hk
   | some p =>
    obtain⟨u',q0⟩:=p;rw[hs]at hk;simp only[frO,Option.some.injEq,Prod.mk.injEq]at hk;exact⟨n1,q0,by rw[<- hk.1],hk.2.symm⟩
 have hsame:∀ (q0:Own),q0.var=false->({ q0 with es:=bif q0.var then q0.es.map (frp g v z)else q0.es }:Own)=q0:=by
  intro q0 hv;cases q0;simp only at hv;subst hv;rfl
 have hne:∀ k u q L' b,k≠g->σ.go k=some (u,q)->q.fz=false->β u=some L'->L'.b=some b->¬ Z b:=by
  intro k u q L' b hn hk hf hL' hb hzb;exact hn (h.dist k g u v q o L' L b hk hg hf hfz hL' hL hb hzb)
 refine⟨F',?_⟩;refine{ nam:=h.nam,size:=h.size,defers:=h.defers,env:=λt=>?_,own:=?_,dist:=?_,sep:=?_,Ac:=?_,frz:=?_,fin:=?_,step:=?_ }
 ·rw[IK (frp g v z) rfl];exact Nl hfr ((h.env t).mono hsub (Aw.refl _))
 ·intro k u q hk;obtain⟨n1,q0,hk0,rfl⟩:=hgo k u q hk;obtain⟨L',hL',hzz,hkk⟩:=h.own k u q0 hk0;refine⟨L',hL',λhf=>?_,λhf=>?_⟩
  ·have h1:=(hzz hf);rw[hsame q0 h1.var];exact h1.mono hsub
  ·have h1:=hkk hf;cases hv:q0.var with
   | false=>
    have:=hsame q0 hv;rw[hv]at this;rw[this];exact h1.keep hsub (Aw.refl _) (λ_ _=>rfl)
   | true =>
    obtain⟨f1,f2,f3,f4,f5,f6⟩:=h1;refine⟨f1,f2,by simpa using f3,by simpa[hv]using f4,λe he=>?_,?_⟩
    ·simp only[cond_true,aAY]at he;obtain⟨e0,k1,rfl⟩:=he;rw[(Fq g v z e0).1];exact f5 e0 k1
    ·cases hb:L'.b with
     | none=>rw[hb]at f6;exact⟨f6.1,by rw[hv]at f6;exact f6.2⟩
     | some b =>
      rw[hb]at f6;obtain⟨C,hC,hCs,hcell⟩:=f6;refine⟨C,hC,hCs,λi j e d he hd=>?_⟩
      simp only[cond_true,aAN,aAH]at he;obtain⟨e0,k1,rfl⟩:=he;rw[(Fq g v z e0).2,aAH]at hd;obtain⟨d0,k2,rfl⟩:=hd;obtain⟨x,x1,x2,x3⟩:=hcell i j e0 d0 k1 k2;rw[if_pos hv]at x3;exact⟨x,x1,x2,by simpa using AO hfr (x3.mono hsub (Aw.refl _))⟩
 ·intro k k' u u' q q' L1 L2 b hk hk' hf hf' hL1 hL2 hb1 hb2;obtain⟨n1,q0,hk0,rfl⟩:=hgo k u q hk;obtain⟨n1',q0',hk0',rfl⟩:=hgo k' u' q' hk';exact h.dist k k' u u' q0 q0' L1 L2 b hk0 hk0' hf hf' hL1 hL2 hb1 hb2
 ·intro k u q L' b hk hf hL' hb;obtain⟨n1,q0,hk0,rfl⟩:=hgo k u q hk;obtain⟨s1,s2,s3⟩:=h.sep k u q0 L' b hk0 hf hL' hb;exact⟨λi=>by rw[hFn b i (hne k u q0 L' b n1 hk0 hf hL' hb)];exact s1 i,s2,s3⟩
 ·obtain⟨φ,hφ⟩:=h.Ac;have hφZ:∀ k i j b,φ k i j b->¬ Z b:=λk i j b hb hzb=>hφ.sep k i j b g v o L hb hg hfz hL hzb
  refine⟨φ,hφ.keep hsub (Aw.refl _) (aAF _) (λk i j b hb m=>hFn b m (hφZ k i j b hb)) (λ_ _ _ _ _=>rfl) (λk u q hk=>?_) (λk u q hrk hk hf=>.inl ?_) (λk i j b k' u' q' L' hb hk' hf' hL'=>?_)⟩
  ·obtain⟨L,hL,_⟩:=h.own k u q hk;exact⟨L,hL⟩
  ·obtain⟨n1,q0,hk0,rfl⟩:=hgo k u q hk;refine⟨q0,hk0,hf,rfl,rfl,λi j e c he hj hp=>⟨?_,λL b C x _ _ hC hx=>⟨C,hC,hx⟩⟩⟩
   cases hv:q0.var with
   | false=>simp only[hv,cond_false]at he;exact⟨e,he,hj⟩
   | true =>
    simp only[hv,cond_true,aAN,aAH]at he;obtain⟨e0,k1,rfl⟩:=he;rw[(Fq g v z e0).2,aAH]at hj;obtain⟨d0,k2,k3⟩:=hj;have hrr:=Nt (g:=g) (v:=v) (z:=z) (d:=d0);refine⟨e0,k1,?_⟩;cases c<;>first|(cases hp;done)|skip
    ·rw[hrr.1 _ _ _ k3]at k2;exact k2
    ·rw[hrr.2 _ _ _ k3]at k2;exact k2
  ·obtain⟨n1,q0,hk0,rfl⟩:=hgo k' u' q' hk';exact hφ.sep k i j b k' u' q0 L' hb hk0 hf' hL'
 ·intro b i x hx
  by_cases hzb:Z b
  ·rw[hZF b i hzb]at hx;exact hx
  ·rw[hFn b i hzb]at hx;exact h.frz b i x hx
 ·intro b i x hx
  by_cases hzb:Z b
  ·exact(hsep b hzb).2.1
  ·rw[hFn b i hzb]at hx;exact h.fin b i x hx
 ·refine⟨h.step.os,h.step.tape,h.step.output,h.step.size,h.step.block,h.step.sub.trans hsub,λb i hb hM=>?_⟩
  rw[<- h.step.old b i hb hM];refine hFn b i λhzb=>?_
  rcases(hsep b hzb).2.2 with h1|h1
  ·omega
  ·exact hM h1.1
theorem Sim.Ok (h:Sim N w0 F0 M B0 σ F β a w) (hnv:β nv=none) {s:Nat} (hs:0<s) (n:Nat):Sim N w0 F0 M B0 ⟨σ.e,(t,some (nv,⟨false,false,s,ty,[]⟩))::σ.o,n⟩ F (upB β nv ⟨none,0,s⟩) a w:=by
 have hβ:=AZ (β:=β) (nv:=nv) ⟨none,0,s⟩ hnv;have hgo:∀ k,(S.mk σ.e ((t,some (nv,⟨false,false,s,ty,[]⟩))::σ.o) n).go k=if k=t then some (nv,⟨false,false,s,ty,[]⟩)else σ.go k:=by
  intro k;simp only[S.go,look]
  grind
 have hok:Ax F (upB β nv ⟨none,0,s⟩) w ⟨none,0,s⟩ ⟨false,false,s,ty,[]⟩:=⟨rfl,hs,by simp,by simp,λe he=>by simp at he,rfl,rfl⟩
 have hold:∀ g v o L,σ.go g=some (v,o)->upB β nv ⟨none,0,s⟩ v=some L->β v=some L:=by
  intro g v o L hg hL;obtain⟨L0,e0,_⟩:=h.own g v o hg;have:=hβ _ _ e0;simp_all
 refine h.change (row:=λ_=>False) rfl rfl rfl (aAF _) (λ_ _ _=>rfl) (λ_ hr=>hr.elim) (Ag.refl _) (λ_ _ _ _=>rfl) h.frz h.fin hβ h.size h.defers (λt'=>(h.env t').mono (Ag.refl _) hβ) ?_ ?_ ?_
 ·grind [Aj]
 ·intro g g' v v' o o' L L' b hg hg' hf hf' hL hL' hb hb' hr;have hr:=hr.resolve_left id;have key:∀ g v o L,(S.mk σ.e ((t,some (nv,⟨false,false,s,ty,[]⟩))::σ.o) n).go g=some (v,o)->o.fz=false->upB β nv ⟨none,0,s⟩ v=some L->L.b=some b->False:=by
   intro g v o L hg hf hL hb;rw[hgo]at hg;split at hg
   ·grind [Aj]
   ·have:=(h.sep g v o L b hg hf (hold g v o L hg hL) hb).2.1;omega
  grind
 ·intro φ hφ;refine⟨φ,hφ.keep (Ag.refl _) hβ (aAF _) (λ_ _ _ _ _ _=>rfl) (λ_ _ _ _ _=>rfl) (λg v o hg=>by obtain⟨L,hL,_⟩:=h.own g v o hg;simp_all) (λg1 v1 o1 hr hg1 hf=>?_) (λg1 i j b g2 v2 o2 L2 hb hg2 hf2 hL2=>?_)⟩
  ·grind
  ·rw[hgo]at hg2;split at hg2
   ·grind [Aj]
   ·exact hφ.sep g1 i j b g2 v2 o2 L2 hb hg2 hf2 (hold _ _ _ _ hg2 hL2)
theorem NI (h:Sim N w0 F0 M B0 σ F β a w) (hf:∀ v,σ.n<=v->β v=none) {s:Nat} {o:Own} (hg:σ.go g=some (v,o)) (hr:Dw.Ac g=false) (hfz:o.fz=false) (hvar:o.var=true) (hi:i<o.es.length) (hc:(cells (o.es.getD i .top))[off]? =some .nils) (hs:0<s) (hne:g≠t) (n:Nat) :
  Sim N w0 F0 M B0 ⟨σ.e,(g,some (v,{ o with es:=o.es.set i (Qu (o.es.getD i .top) off [.osl t σ.n 0 0]) }))::(t,some (σ.n,⟨false,false,s,ty,[]⟩))::σ.o,n⟩ F (upB β σ.n ⟨none,0,s⟩) a w:=by
 have h1:=h.Ok (t:=t) (ty:=ty) (hf σ.n (aAF _)) hs n;have hg1:(S.mk σ.e ((t,some (σ.n,⟨false,false,s,ty,[]⟩))::σ.o) n).go g=some (v,o):=by
  simp_all[S.go,look]
 obtain⟨L,hL,_,hk⟩:=h1.own g v o hg1;have hok:Ax F (upB β σ.n ⟨none,0,s⟩) w L { o with es:=o.es.set i (Qu (o.es.getD i .top) off [.osl t σ.n 0 0]) }:=by
  obtain⟨k1,k2,k3,k4,k5,k6⟩:=hk hfz;have hcl:∀ j,(cells (Qu (o.es.getD i .top) off [.osl t σ.n 0 0]))[j]? =if j=off then some (.osl t σ.n 0 0)else(cells (o.es.getD i .top))[j]?:=λj=>(BV (aAC.1 hc).1 rfl j).2
  have hln:(cells (Qu (o.es.getD i .top) off [.osl t σ.n 0 0])).length=(cells (o.es.getD i .top)).length:=(BV (aAC.1 hc).1 rfl 0).1;have hmem:o.es.getD i .top∈o.es:=by
   simp_all
  refine⟨k1,k2,by simp_all,k4,λe he=>?_,?_⟩
  ·grind
  ·cases hb:L.b with
   | none=>simp_all
   | some b =>
    rw[hb]at k6;obtain⟨C,hC,hCs,hcell⟩:=k6;refine⟨C,hC,hCs,λi' j e d he hd=>?_⟩
    by_cases e':i'=i
    ·subst e';rw[aAQ hi]at he;cases he;rw[hcl]at hd;split at hd
     ·rename_i ej;subst ej;cases hd;obtain⟨x,x1,x2,x3⟩:=hcell i' j _ .nils (by simp[hi]) hc
      refine⟨x,x1,x2,?_⟩;rw[if_pos hvar]at x3 ⊢;have x3:Fro F .nils x:=x3;cases x3;exact⟨⟨none,0,s⟩,none,Aj _ _ _,rfl,aAF _,λ_=>rfl,λh=>absurd h (Nat.lt_irrefl 0)⟩
     simp_all
    grind
 have:=h1.wrote (c:=True) (dst:=none) (d:=.top) (x:=undef) hg1 hfz hL rfl rfl rfl (aAF _) (λ_ _ _=>rfl) hok (λe=>by simp_all) (λt e=>by cases e) (Env.top _)
 exact this
theorem Il {e:D} (h:(cells e)[off]? =some d) (h1:cells d=[d]):cells (Qu e off [d])=cells e:=by
 obtain⟨k1,_⟩:=BV (aAC.1 h).1 h1 0;apply aAr
 grind [BV]
theorem LH (h:Sim N w0 F0 M B0 σ F β a w) {gw vw k:Nat} {ow o:Own} (hgw:σ.go gw=some (vw,ow)) (hrw:Dw.Ac gw=false) (hfzw:ow.fz=false) (hi:i<ow.es.length) (hc:(cells (ow.es.getD i .top))[off]? =some (.osl g v 0 k)) (hg:σ.go g=some (v,o)) (hr:Dw.Ac g=false) (hfz:o.fz=false) (hk:k<=o.es.length) (hne:gw≠g) :
  Sim N w0 F0 M B0 ⟨σ.e,(gw,some (vw,{ ow with es:=ow.es.set i (Qu (ow.es.getD i .top) off [.osl g v 0 (o.es.take k).length]) }))::(g,some (v,{ o with es:=o.es.take k }))::σ.o,σ.n⟩ F β a w:=by
 obtain⟨L,hL,_,hk1⟩:=h.own g v o hg;have hok:Ax F β w L { o with es:=o.es.take k }:=Ax.cut (o:=o) (es:=o.es) (hk1 hfz) k
 have h1:=h.wrote (c:=True) (dst:=none) (d:=.top) (x:=undef) hg hfz hL rfl rfl rfl (aAF _) (λ_ _ _=>rfl) hok (λe=>by simp_all) (λt e=>by cases e) (Env.top _)
 have hgw1:(σ.app ⟨True,Ad none .top,[(g,some (v,{ o with es:=o.es.take k }))]⟩).go gw=some (vw,ow):=by
  simp_all[S.Cs,look]
 obtain⟨Lw,hLw,_,hkw⟩:=h1.own gw vw ow hgw1;have hlen:(o.es.take k).length=k:=by simp;omega
 have hsame:∀ e∈ow.es.set i (Qu (ow.es.getD i .top) off [.osl g v 0 (o.es.take k).length]),∃ e'∈ow.es,cells e=cells e':=by
  intro e he;rcases aAV he with he|rfl
  ·grind
  ·have hm:ow.es[i]? =some (ow.es.getD i .top):=by simp[hi]
   refine⟨_,aAB hm,?_⟩;rw[hlen];exact Il hc rfl
 have hget:∀ (i':Nat) e,(ow.es.set i (Qu (ow.es.getD i .top) off [.osl g v 0 (o.es.take k).length]))[i']? =some e->∃ e',ow.es[i']? =some e'/\cells e=cells e':=by
  intro i' e he
  by_cases e':i'=i
  ·subst e';rw[aAQ hi]at he;cases he;refine⟨ow.es.getD i' .top,by simp[hi],?_⟩
   rw[hlen];exact Il hc rfl
  grind
 have hokw:Ax F β w Lw { ow with es:=ow.es.set i (Qu (ow.es.getD i .top) off [.osl g v 0 (o.es.take k).length]) }:=by
  obtain⟨k1,k2,k3,k4,k5,k6⟩:=hkw hfzw;refine⟨k1,k2,by simp_all,k4,λe he=>?_,?_⟩
  ·grind
  ·cases hb:Lw.b with
   | none=>simp_all
   | some b =>
    rw[hb]at k6
    grind
 have:=h1.wrote (c:=True) (dst:=none) (d:=.top) (x:=undef) hgw1 hfzw hLw rfl rfl rfl (aAF _) (λ_ _ _=>rfl) hokw (λe=>by simp_all) (λt e=>by cases e) (Env.top _)
 exact this
theorem Sim.rw {τ:S} (h:Sim N w0 F0 M B0 σ F β a w) (hf:∀ v,σ.n<=v->β v=none) (hw:Rw σ τ):∃ F' β',Sim N w0 F0 M B0 τ F' β' a w/\∀ v,τ.n<=v->β' v=none:=by
 cases hw with
 | close g v i off g' v' m og o' c hg hr hfz hi hc hh hg' hfz' hvar hm hp hne=>exact⟨F,β,Mn h hg hr hfz hi hc hh hg' hfz' hvar hm hp hne,hf⟩
 | enrich g g2 v o es' hg hfz hn he=>exact⟨F,β,LG h hg hfz hn he,hf⟩
 | frows g v o es' hg hr hfz he=>grind [Mo]
 | nilsl g v o hg hr hfz hvar=>exact⟨F,β,Mp h hg hr hfz hvar,hf⟩
 | nams rn hn=>exact⟨F,β,NH h hn,hf⟩
 | fvar g v o z hg hfz hvar hz hc=>grind [NG]
 | opn g v i off t s ty es o hg hr hfz hvar hi hrow hne =>
  obtain⟨L,h'⟩:=Ol h (hf σ.n (aAF _)) hg hr hfz hvar hi hrow hne (σ.n+1);refine⟨F,_,h',λv hv=>?_⟩
  have hv':σ.n+1<=v:=hv;simp only[upB]
  grind
 | shrink gw vw i off g v k ow o hgw hrw hfzw hvarw hi hc hg hr hfz hvar hk hne=>exact⟨F,β,LH h hgw hrw hfzw hi hc hg hr hfz hk hne,hf⟩
 | nilv g v i off t s ty o hg hr hfz hvar hi hc hs hne =>
  refine⟨F,_,NI h hf hg hr hfz hvar hi hc hs hne (σ.n+1),λv hv=>?_⟩
  have hv':σ.n+1<=v:=hv;simp only[upB]
  grind
 | opnr g v i off t s ty es o hg hr hfz hvar hi hrow hne =>
  obtain⟨L,h'⟩:=NA h (hf σ.n (aAF _)) hg hr hfz hi hrow hne (σ.n+1);refine⟨F,_,h',λv hv=>?_⟩
  have hv':σ.n+1<=v:=hv;simp only[upB]
  grind
end
end Go.Dw
