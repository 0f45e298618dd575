/-
  THE LAYER: symbolic semantics of compiled code, and programs on typed data.
-/
import Derived.Test.YtcaoepecbgggcaaGreatDoorDa
open Array renaming getD_eq_getD_getElem?->aAD,replicate->aAI,getElem?_eq_getElem->aAN,getElem?_setIfInBounds->aAg,getElem?_append_left->aAh,all_eq_true'->aAi,eq_empty_of_size_eq_zero->aAn,length_toList->aAp,getElem?_eq_some_iff->aAs,size_push->aAx,getElem?_push_lt->aAz
open Bool renaming and_eq_true->aAP,false_eq_true->aAY,not_eq_true'->aAt
open Go.Instr renaming sureAddr->aAd,loadAt->aBC
open List renaming mem_of_getElem?->aAA,getElem?_eq_getElem->aAC,getElem?_eq_some_iff->aAE,getElem?_cons_zero->aAG,all_eq_true->aAJ,getElem?_cons_succ->aAK,getElem?_append_right->aAO,getElem?_append_left->aAQ,getElem?_map->aAS,getElem?_set_self->aAT,mem_append->aAU,eq_nil_iff_forall_not_mem->aAV,mem_map->aAW,getElem?_of_mem->aAX,mem_or_eq_of_mem_set->aAZ,mem_filter->aAb,mem_range->aAe,replicate->aAj,getElem?_set_ne->aAl,mem_of_mem_take->aAm,getElem?_drop->aAq,getD_eq_getElem?_getD->aAr,getElem?_inj->aAu,getElem?_zip_eq_some->aAv,length_cons->aAw,length_eq_one_iff->aB,countP_eq_length->aBA,range->aBB
open Nat renaming le_refl->aAF,mul_le_mul_right->aAa,lt_trichotomy->aAc,zero_add->aAf,eq_of_beq_eq_true->aAk
open Option renaming bind_eq_some_iff->aA,bind_eq_bind->aAB,getD_some->aAH,map_eq_some_iff->aAL,isSome_iff_exists->aAM,map_some->aAo
open Go.Program renaming cellsOf->aAR
open Go.World renaming cell?->aAy
namespace Go.Dw
section
variable {N:Nat} {Δ:List Deferred} {w0:World} {F0:Fz} {M:Nat->Prop} {B0:Bt} {σ:S} {F:Fz} {β:Bt} {a:Act} {w:World} {P:Program}
theorem Cc (e:List (Nat×D)) (o:List (Nat×Aa)) (n k g:Nat) (y:Aa):(S.mk e ((k,y)::o) n).go g=if g=k then y else(S.mk e o n).go g:=by
 simp only[S.go,look];split<;>simp
theorem BH {e:D} {off:Nat} {d:D} (hle:off<(cells e).length) (h1:cells d=[d]) (q:Nat):(cells (Ps e off [d])).length=(cells e).length/\(cells (Ps e off [d]))[q]? =if q=off then some d else(cells e)[q]?:=by
 rw[DP (by simp;omega) (λc hc=>by simp at hc;subst hc;exact h1) (.inl (by simp))]
 obtain⟨h2,h3⟩:=Ds [d] (cells e) off;refine⟨h2,?_⟩;rw[h3];simp only[List.length_singleton]
 by_cases hq:q=off
 ·subst hq;rw[if_pos ⟨aAF _,by omega,hle⟩,if_pos rfl]
  simp
 ·rw[if_neg (by omega),if_neg hq]
theorem HV (h:Sim N Δ w0 F0 M B0 σ F β a w) {nv t:Nat} (hnv:β nv=none) (ht:t<N) {g v i off s ty:Nat} {es:List D} {o:Own} (hg:σ.go g=some (v,o)) (hr:Ad g=true) (hfz:o.fz=false) (hi:i<o.es.length)
  (hrow:(cells (o.es.getD i .top))[off]? =some (.row s ty es)) (hne:g≠4096+t) {px:Value} (hpx:Val F β (.optr g v i off) px) (c:Prop) :
  ∃ b L x,px= .pointer (some ⟨b,i*o.s+off,none⟩)/\w.cell? ⟨b,i*o.s+off,none⟩=some x/\Sim N Δ w0 F0 M B0 (σ.app ⟨c,Ah (some t) (.osl (4096+t) nv 0 es.length),
   [(4096+t,some (nv,⟨false,false,s,ty,es⟩)),(g,some (v,{ o with es:=o.es.set i (Ps (o.es.getD i .top) off [.hole (4096+t) nv es.length]) }))]⟩) F (upB β nv L) (a.put (some t) x) w:=by
 obtain⟨Lg,bg,hLg,hbg,rfl⟩:=hpx;obtain⟨Lg',hLg',_,hk⟩:=h.own g v o hg;rw[hLg]at hLg';cases hLg';have hokg:=hk hfz;obtain⟨e1,e2,e3,e4,e5,e6⟩:=hokg;rw[hbg]at e6;obtain⟨C,hC,hCs,hcell⟩:=e6;have hget:o.es[i]? =some (o.es.getD i .top):=by simp[hi]
 obtain⟨x,x1,x2,_⟩:=hcell i off _ _ hget hrow;obtain⟨φ,hφ⟩:=h.Ad;have hrat:=hφ.row g v o Lg bg C i off _ x s ty es hr hg hfz hLg hbg hC hget hrow x1;have hoff:off<(cells (o.es.getD i .top)).length:=(aAE.1 hrow).1;obtain⟨s1,s2,s3⟩:=h.sep g v o Lg bg hg hfz hLg hbg;have hloc:∃ (L:Loc) (fp:Nat->Nat->Nat->Prop),L.s=s/\x= .slice (L.b.map λb=>⟨b,0,none⟩) es.length L.cap/\Au F (upB β nv L) w L ⟨false,false,s,ty,es⟩/\(∀ b,L.b=some b->φ g i off b) /\
   (∀ i' j' b,fp i' j' b->φ g i off b/\L.b≠some b)/\(∀ i j i' j' b,fp i j b->fp i' j' b->i=i'/\j=j') /\
   (∀ b C (i' j':Nat) e y s' ty' es',L.b=some b->w.heap[b]? =some (.cells C ty (0,0))->es[i']? =some e->(cells e)[j']? =some (.row s' ty' es')->C[i'*s+j']? =some y->Bd F w (fp i' j') s' ty' es' y) /\
   (∀ (i' j':Nat) e nm u n,es[i']? =some e->(cells e)[j']? ≠some (.hole nm u n)):=by
  cases hrat with
  | nil _ _ _ hs=>exact⟨⟨none,0,s⟩,λ_ _ _=>False,rfl,rfl,⟨rfl,hs,by simp,by simp,λe he=>(by cases he),rfl,rfl⟩,λb hb=>(by cases hb),λ_ _ _ h=>h.elim,λ_ _ _ _ _ h=>h.elim,λb C i' j' e y s' ty' es' hb=>(by cases hb),λi' j' e nm u n he=>by simp at he⟩
  | row _ _ _ _ b cap C1 fp xf hs hc hm hl hC1 hC1s hb hx hrr hh hfp hd =>
   refine⟨⟨some b,cap,s⟩,fp,rfl,rfl,⟨rfl,hs,hc,by simpa using hm,hl,C1,hC1,hC1s,λi' j' e d he hd'=>?_⟩,λb' hb'=>(by cases hb';exact hb),λi' j' b' hb'=>⟨(hfp i' j' b' hb').1,λe=>by cases e;exact(hfp i' j' _ hb').2 rfl⟩,hd,λb' C2 i' j' e y s' ty' es' hb' hC2 he hj hy=>?_,hh⟩
   ·obtain⟨y1,y2,y3⟩:=hx i' j' e d he hd';exact⟨_,y1,y2,by simpa using y3⟩
   ·cases hb';rw[hC1]at hC2;cases hC2;obtain⟨y1,_,_⟩:=hx i' j' e _ he hj;rw[y1]at hy;cases hy;exact hrr i' j' e s' ty' es' he hj
 obtain⟨L,fp,l1,l2,l3,l4,l5,l6,l7,l8⟩:=hloc;have hβ:=AW (β:=β) (nv:=nv) L hnv;refine⟨bg,L,x,by simp[e1],by simp[aAy,hC,x1],?_⟩
 obtain⟨og,hog⟩:∃ og:Own,og={ o with es:=o.es.set i (Ps (o.es.getD i .top) off [.hole (4096+t) nv es.length]) }:=⟨_,rfl⟩
 obtain⟨og1,og2,og3,og4⟩:og.fz=false/\og.var=o.var/\og.s=o.s/\og.ty=o.ty:=by subst hog;exact⟨hfz,rfl,rfl,rfl⟩
 have hogc:∀ (i' j':Nat) e d,og.es[i']? =some e->(cells e)[j']? =some d->(i'=i/\j'=off/\d= .hole (4096+t) nv es.length)\/(¬ (i'=i/\j'=off)/\∃ e',o.es[i']? =some e'/\(cells e')[j']? =some d):=by
  intro i' j' e d he hd;subst hog;simp only at he
  by_cases hii:i'=i
  ·subst hii;rw[aAT hi]at he;cases he;obtain⟨_,q2⟩:=BH (d:=.hole (4096+t) nv es.length) hoff rfl j';rw[q2]at hd
   by_cases hj:j'=off
   ·rw[if_pos hj]at hd;cases hd;exact .inl ⟨rfl,hj,rfl⟩
   ·rw[if_neg hj]at hd;exact .inr ⟨λe=>hj e.2,_,hget,hd⟩
  ·rw[aAl (λe=>hii e.symm)]at he
   exact .inr ⟨λe=>hii e.1,e,he,hd⟩
 have hogok:Au F (upB β nv L) w Lg og:=by
  refine⟨by rw[og3];exact e1,by rw[og3];exact e2,by subst hog;simpa using e3,by rw[og2];exact e4,λe he=>?_,?_⟩
  ·subst hog;simp only at he ⊢;rcases aAZ he with hm|hm
   ·exact e5 e hm
   ·subst hm;rw[(BH (d:=.hole (4096+t) nv es.length) hoff rfl 0).1];exact e5 _ (aAA hget)
  ·rw[hbg];refine⟨C,by rw[og4];exact hC,by rw[og3];exact hCs,λi' j' e d he hd=>?_⟩
   rw[og3,og2];rcases hogc i' j' e d he hd with⟨rfl,rfl,rfl⟩|⟨_,e',k1,k2⟩
   ·refine⟨x,x1,x2,?_⟩;split
    ·exact Cel.Af (.hole _ _ _ _)
    ·exact .hole _ _ _ _
   ·obtain⟨y,y1,y2,y3⟩:=hcell i' j' e' d k1 k2;refine⟨y,y1,y2,?_⟩;split at y3
    ·rename_i hv;rw[if_pos hv];exact y3.mono (NX.refl _) hβ
    ·rename_i hv;rw[if_neg hv];exact y3
 rw[<- hog];have hgo:∀ g' v' o',(σ.app ⟨c,Ah (some t) (.osl (4096+t) nv 0 es.length),[(4096+t,some (nv,⟨false,false,s,ty,es⟩)),(g,some (v,og))]⟩).go g'=some (v',o') ->
   (g'=4096+t/\v'=nv/\o'=⟨false,false,s,ty,es⟩)\/(g'=g/\v'=v/\o'=og)\/(g'≠4096+t/\g'≠g/\σ.go g'=some (v',o')):=by
  intro g' v' o' hg';rw[S.CN]at hg';simp only[look]at hg'
  by_cases h1:g'=4096+t
  ·rw[if_pos h1]at hg';cases hg';exact .inl ⟨h1,rfl,rfl⟩
  ·rw[if_neg h1]at hg'
   by_cases h2:g'=g
   ·rw[if_pos h2]at hg';cases hg';exact .inr (.inl ⟨h2,rfl,rfl⟩)
   ·rw[if_neg h2]at hg';exact .inr (.inr ⟨h1,h2,hg'⟩)
 have hnb:∀ b,L.b=some b->b≠bg:=by
  rintro b hb rfl;exact hφ.sep g i off b g v o Lg (l4 b hb) hg hfz hLg hbg
 have hother:∀ g' v' o' L' b,g'≠g->σ.go g'=some (v',o')->o'.fz=false->β v'=some L'->L'.b=some b->¬ (b=bg\/L.b=some b):=by
  rintro g' v' o' L' b hn hg' hf' hL' hb' (rfl|hb)
  ·exact hn (h.dist g' g v' v o' o L' Lg b hg' hg hf' hfz hL' hLg hb' hbg)
  ·exact hφ.sep g i off b g' v' o' L' (l4 b hb) hg' hf' hL' hb'
 refine h.change (row:=λb=>b=bg\/L.b=some b) rfl rfl rfl (aAF _) (λ_ _ _=>rfl) ?_ (NX.refl _) (λ_ _ _ _=>rfl) h.frz h.fin hβ (by rw[BJ];exact h.size) (by rw[Bo];exact h.defers)
  (h.Cm (NX.refl _) hβ (λt' e=>by cases e;exact ht) ⟨L,_,Ak _ _ _,l2,?_,λ_=>rfl,λhp=>?_⟩) ?_ ?_ ?_
 ·rintro b (rfl|hb)
  ·exact s3.imp id And.left
  ·exact hφ.new g i off b (l4 b hb)
 ·have:=l3.2.2.1;simpa using this
 ·cases hLb:L.b with
  | none =>
   obtain⟨_,_,k3,_,_,k6⟩:=l3;rw[hLb]at k6;simp only at k3;omega
  | some b=>exact⟨b,rfl,by simp⟩
 ·intro g' v' o' hg';rcases hgo g' v' o' hg' with⟨rfl,rfl,rfl⟩|⟨rfl,rfl,rfl⟩|⟨k1,k2,k3⟩
  ·refine .inr ⟨L,Ak _ _ _,rfl,l3,λb hb=>⟨hφ.none_ g i off b (l4 b hb),hφ.lt g i off b (l4 b hb),(hφ.new g i off b (l4 b hb)).imp id (λz=>⟨z,by simp[Ad]⟩),.inl (.inr hb)⟩⟩
  ·refine .inr ⟨Lg,hβ _ _ hLg,og1,hogok,λb hb=>?_⟩
   rw[hbg]at hb;cases hb;exact⟨s1,s2,s3,.inl (.inl rfl)⟩
  ·exact .inl ⟨k3,λL' b hf hL' hb=>hother g' v' o' L' b k2 k3 hf hL' hb⟩
 ·intro g1 g2 v1 v2 o1 o2 L1 L2 b hg1 hg2 hf1 hf2 hL1 hL2 hb1 hb2 hrow';have hrow':b=bg\/L.b=some b:=by
   rcases hrow' with h1|h1
   ·exact h1
   ·exfalso;rcases hgo g1 v1 o1 hg1 with⟨_,rfl,rfl⟩|⟨_,rfl,rfl⟩|⟨_,k2,k3⟩
    ·rw[Ak]at hL1;cases hL1;have:=hφ.lt g i off b (l4 b hb1);omega
    ·have:=hβ _ _ hLg;rw[hL1]at this;cases this;rw[hbg]at hb1;cases hb1;omega
    ·obtain⟨L0,e0,_⟩:=h.own g1 v1 o1 k3;have:=hβ _ _ e0;rw[hL1]at this;cases this;have:=(h.sep g1 v1 o1 L1 b k3 hf1 e0 hb1).2.1;omega
  have key:∀ g' v' o' L',(σ.app ⟨c,Ah (some t) (.osl (4096+t) nv 0 es.length),[(4096+t,some (nv,⟨false,false,s,ty,es⟩)),(g,some (v,og))]⟩).go g'=some (v',o')->o'.fz=false->upB β nv L v'=some L'->L'.b=some b->(g'=g/\b=bg)\/(g'=4096+t/\L.b=some b):=by
   intro g' v' o' L' hg' hf' hL' hb';rcases hgo g' v' o' hg' with⟨rfl,rfl,rfl⟩|⟨rfl,rfl,rfl⟩|⟨_,k2,k3⟩
   ·rw[Ak]at hL';cases hL';exact .inr ⟨rfl,hb'⟩
   ·have:=hβ _ _ hLg;rw[hL']at this;cases this;rw[hbg]at hb';cases hb';exact .inl ⟨rfl,rfl⟩
   ·obtain⟨L0,e0,_⟩:=h.own g' v' o' k3;have:=hβ _ _ e0;rw[hL']at this;cases this;exact(hother g' v' o' L' b k2 k3 hf' e0 hb' hrow').elim
  rcases key g1 v1 o1 L1 hg1 hf1 hL1 hb1 with⟨k1,k2⟩|⟨k1,k2⟩
  ·rcases key g2 v2 o2 L2 hg2 hf2 hL2 hb2 with⟨k3,_⟩|⟨_,k4⟩
   ·rw[k1,k3]
   ·exact(hnb b k4 k2).elim
  ·rcases key g2 v2 o2 L2 hg2 hf2 hL2 hb2 with⟨_,k4⟩|⟨k3,_⟩
   ·exact(hnb b k2 k4).elim
   ·rw[k1,k3]
 ·intro _ _
  let φ':Nat->Nat->Nat->Nat->Prop:=λg1 i1 j1 b=>(g1=4096+t/\fp i1 j1 b)\/(g1≠4096+t/\¬ (g1=g/\i1=i/\j1=off)/\φ g1 i1 j1 b)
  have hsub:∀ g1 i1 j1 b,φ' g1 i1 j1 b->∃ g2 i2 j2,φ g2 i2 j2 b:=by
   rintro g1 i1 j1 b (⟨_,hb⟩|⟨_,_,hb⟩)
   ·exact⟨g,i,off,(l5 i1 j1 b hb).1⟩
   ·exact⟨g1,i1,j1,hb⟩
  refine⟨φ',?_,?_,λg1 i1 j1 b hb=>?_,λg1 i1 j1 b hb=>?_,λg1 i1 j1 b hb=>?_,λg1 i1 j1 b g' v' o' L' hb hg' hf' hL' hLb=>?_,?_⟩
  ·intro g' v' o' L' b C' i' j' e y s' ty' es' hr' hg' hf' hL' hb' hC' he hj hy;rcases hgo g' v' o' hg' with⟨rfl,rfl,rfl⟩|⟨rfl,rfl,rfl⟩|⟨k1,k2,k3⟩
   ·rw[Ak]at hL';cases hL';exact(l7 b C' i' j' e y s' ty' es' hb' hC' he hj hy).keep (NX.refl _) (λ_ _=>rfl) (λb hb=>.inl ⟨rfl,hb⟩)
   ·have:=hβ _ _ hLg;rw[hL']at this;cases this;rw[hbg]at hb';cases hb';rw[og4]at hC';rw[og3]at hy;rcases hogc i' j' e _ he hj with⟨_,_,k⟩|⟨kn,e',k1,k2⟩
    ·cases k
    ·exact(hφ.row g' v' o _ bg C' i' j' e' y s' ty' es' hr' hg hfz hLg hbg hC' k1 k2 hy).keep (NX.refl _) (λ_ _=>rfl) (λb hb=>.inr ⟨hne,λe=>kn ⟨e.2.1,e.2.2⟩,hb⟩)
   ·obtain⟨L0,e0,_⟩:=h.own g' v' o' k3;have:=hβ _ _ e0;rw[hL']at this;cases this;exact(hφ.row g' v' o' L' b C' i' j' e y s' ty' es' hr' k3 hf' e0 hb' hC' he hj hy).keep (NX.refl _) (λ_ _=>rfl) (λb hb=>.inr ⟨k1,λe=>k2 e.1,hb⟩)
  ·intro g' v' o' L' b C' i' j' e y nm u n hr' hg' hf' hL' hb' hC' he hj hy;rcases hgo g' v' o' hg' with⟨rfl,rfl,rfl⟩|⟨rfl,rfl,rfl⟩|⟨k1,k2,k3⟩
   ·exact(l8 i' j' e _ u n he hj).elim
   ·have:=hβ _ _ hLg;rw[hL']at this;cases this;rw[hbg]at hb';cases hb';rw[og4]at hC';rw[og3]at hy;rcases hogc i' j' e _ he hj with⟨rfl,rfl,k⟩|⟨kn,e',k1,k2⟩
    ·cases k;rw[hC]at hC';cases hC';rw[x1]at hy;cases hy;refine⟨L,_,Ak _ _ _,l2,?_,λ_=>rfl,λhp=>?_⟩
     ·have:=l3.2.2.1;simpa using this
     ·cases hLb:L.b with
      | none =>
       obtain⟨_,_,k3,_,_,k6⟩:=l3;rw[hLb]at k6;simp only at k3;omega
      | some b=>exact⟨b,rfl,by simp⟩
    ·exact(hφ.hole g' v' o _ bg C' i' j' e' y _ u n hr' hg hfz hLg hbg hC' k1 k2 hy).mono (NX.refl _) hβ
   ·obtain⟨L0,e0,_⟩:=h.own g' v' o' k3;have:=hβ _ _ e0;rw[hL']at this;cases this;exact(hφ.hole g' v' o' L' b C' i' j' e y _ u n hr' k3 hf' e0 hb' hC' he hj hy).mono (NX.refl _) hβ
  ·obtain⟨g2,i2,j2,hb⟩:=hsub g1 i1 j1 b hb;exact hφ.none_ _ _ _ _ hb
  ·obtain⟨g2,i2,j2,hb⟩:=hsub g1 i1 j1 b hb;exact hφ.lt _ _ _ _ hb
  ·obtain⟨g2,i2,j2,hb⟩:=hsub g1 i1 j1 b hb;exact hφ.new _ _ _ _ hb
  ·rcases hgo g' v' o' hg' with⟨rfl,rfl,rfl⟩|⟨rfl,rfl,rfl⟩|⟨_,k2,k3⟩
   ·rw[Ak]at hL';cases hL';rcases hb with⟨_,hb⟩|⟨_,hn,hb⟩
    ·exact(l5 i1 j1 b hb).2 hLb
    ·exact hn (hφ.dis _ _ _ _ _ _ _ hb (l4 b hLb))
   ·have:=hβ _ _ hLg;rw[hL']at this;cases this;obtain⟨g2,i2,j2,hb⟩:=hsub g1 i1 j1 b hb;exact hφ.sep g2 i2 j2 b g' v' o _ hb hg hfz hLg hLb
   ·obtain⟨L0,e0,_⟩:=h.own g' v' o' k3;have:=hβ _ _ e0;rw[hL']at this;cases this;obtain⟨g2,i2,j2,hb⟩:=hsub g1 i1 j1 b hb;exact hφ.sep g2 i2 j2 b g' v' o' L' hb k3 hf' e0 hLb
  ·rintro g1 i1 j1 g2 i2 j2 b (⟨rfl,hb⟩|⟨hn1,hn,hb⟩) (⟨rfl,hb'⟩|⟨hn2,hn',hb'⟩)
   ·exact⟨rfl,l6 i1 j1 i2 j2 b hb hb'⟩
   ·exact(hn' (hφ.dis _ _ _ _ _ _ _ hb' (l5 i1 j1 b hb).1)).elim
   ·exact(hn (hφ.dis _ _ _ _ _ _ _ hb (l5 i2 j2 b hb').1)).elim
   ·exact hφ.dis _ _ _ _ _ _ _ hb hb'
theorem La (h:Sim N Δ w0 F0 M B0 σ F β a w) {nv t:Nat} (hnv:β nv=none) {g v i off s ty:Nat} {es:List D} {o:Own} (hg:σ.go g=some (v,o)) (hr:Ad g=true) (hfz:o.fz=false) (hi:i<o.es.length)
  (hrow:(cells (o.es.getD i .top))[off]? =some (.row s ty es)) (hne:g≠4096+t) (m:Nat) :
  ∃ L,Sim N Δ w0 F0 M B0 ⟨σ.e,(4096+t,some (nv,⟨false,false,s,ty,es⟩))::(g,some (v,{ o with es:=o.es.set i (Ps (o.es.getD i .top) off [.hole (4096+t) nv es.length]) }))::σ.o,m⟩ F (upB β nv L) a w:=by
 obtain⟨Lg,hLg,_,hk⟩:=h.own g v o hg;obtain⟨e1,e2,e3,e4,e5,e6⟩:=hk hfz;obtain⟨bg,hbg⟩:∃ bg,Lg.b=some bg:=by
  cases hb:Lg.b with
  | some b=>exact⟨b,rfl⟩
  | none =>
   rw[hb]at e6;omega
 let a':Act:={ a with tmps:=a.tmps++aAI (t+1) undef }
 have h':Sim (N+(t+1)) Δ w0 F0 M B0 σ F β a' w:=by
  refine{ nam:=h.nam,size:=by simp[a',h.size],defers:=h.defers,env:=λq=>?_,own:=h.own,dist:=h.dist,sep:=h.sep,Ad:=h.Ad,frz:=h.frz,fin:=h.fin,step:=h.step }
  have:a'.tmps.getD q undef=a.tmps.getD q undef:=by
   simp only[a',aAD]
   by_cases hq:q<a.tmps.size
   ·rw[aAh hq]
   ·rw[Array.getElem?_append_right (by omega),Array.getElem?_eq_none (by omega:a.tmps.size<=q)]
    by_cases hq2:q-a.tmps.size<t+1
    ·simp[hq2]
    ·simp[hq2]
  rw[this];exact h.env q
 obtain⟨b,L,x,_,_,z⟩:=HV h' hnv (by omega:t<N+(t+1)) hg hr hfz hi hrow hne (px:=.pointer (some ⟨bg,i*Lg.s+off,none⟩)) ⟨Lg,bg,hLg,hbg,rfl⟩ True
 refine⟨L,{ nam:=h.nam.trans (AW (β:=β) (nv:=nv) L hnv),size:=h.size,defers:=h.defers,env:=λq=>(h.env q).mono (NX.refl _) (AW (β:=β) (nv:=nv) L hnv),own:=z.own,dist:=z.dist,sep:=z.sep,Ad:=?_,frz:=h.frz,fin:=h.fin,step:=h.step }⟩
 obtain⟨φ,hφ⟩:=z.Ad;exact⟨φ,hφ.congr λ_=>rfl⟩
theorem KW (h:Sim N Δ w0 F0 M B0 σ F β a w) {g v i off nm u m:Nat} {o:Own} (hg:σ.go g=some (v,o)) (hr:Ad g=true) (hfz:o.fz=false) (hi:i<o.es.length)
  (hrow:(cells (o.es.getD i .top))[off]? =some (.hole nm u m)) {px:Value} (hpx:Val F β (.optr g v i off) px) :
  ∃ b x,px= .pointer (some ⟨b,i*o.s+off,none⟩)/\w.cell? ⟨b,i*o.s+off,none⟩=some x/\Ref F β (.osl nm u 0 m) x:=by
 obtain⟨Lg,bg,hLg,hbg,rfl⟩:=hpx;obtain⟨Lg',hLg',_,hk⟩:=h.own g v o hg;rw[hLg]at hLg';cases hLg';obtain⟨e1,e2,e3,e4,e5,e6⟩:=hk hfz;rw[hbg]at e6;obtain⟨C,hC,hCs,hcell⟩:=e6;have hget:o.es[i]? =some (o.es.getD i .top):=by simp[hi]
 obtain⟨x,x1,x2,_⟩:=hcell i off _ _ hget hrow;obtain⟨φ,hφ⟩:=h.Ad;exact⟨bg,x,by rw[e1],by simp[aAy,hC,x1],hφ.hole g v o Lg bg C i off _ x nm u m hr hg hfz hLg hbg hC hget hrow x1⟩
theorem Mj (h:Sim N Δ w0 F0 M B0 σ F β a w) {nv t:Nat} (hnv:β nv=none) {g v i off s ty:Nat} {es:List D} {o:Own} (hg:σ.go g=some (v,o)) (hr:Ad g=true) (hfz:o.fz=false) (hvar:o.var=true) (hi:i<o.es.length)
  (hrow:(cells (o.es.getD i .top))[off]? =some (.row s ty es)) (hne:g≠4096+t) (m:Nat) :
  ∃ L,Sim N Δ w0 F0 M B0 ⟨σ.e,(4096+t,some (nv,⟨false,false,s,ty,es⟩))::(g,some (v,{ o with es:=o.es.set i (Ps (o.es.getD i .top) off [.osl (4096+t) nv 0 es.length]) }))::σ.o,m⟩ F (upB β nv L) a w:=by
 obtain⟨Lg,hLg,_,hk⟩:=h.own g v o hg;have hokg:=hk hfz;obtain⟨e1,e2,e3,e4,e5,e6⟩:=hokg;obtain⟨bg,hbg⟩:∃ bg,Lg.b=some bg:=by
  cases hb:Lg.b with
  | some b=>exact⟨b,rfl⟩
  | none =>
   rw[hb]at e6;omega
 rw[hbg]at e6;obtain⟨C,hC,hCs,hcell⟩:=e6;have hget:o.es[i]? =some (o.es.getD i .top):=by simp[hi]
 obtain⟨x,x1,x2,_⟩:=hcell i off _ _ hget hrow;obtain⟨φ,hφ⟩:=h.Ad;have hrat:=hφ.row g v o Lg bg C i off _ x s ty es hr hg hfz hLg hbg hC hget hrow x1;have hoff:off<(cells (o.es.getD i .top)).length:=(aAE.1 hrow).1;obtain⟨s1,s2,s3⟩:=h.sep g v o Lg bg hg hfz hLg hbg;have hloc:∃ (L:Loc) (fp:Nat->Nat->Nat->Prop),L.s=s/\x= .slice (L.b.map λb=>⟨b,0,none⟩) es.length L.cap/\Au F (upB β nv L) w L ⟨false,false,s,ty,es⟩/\(∀ b,L.b=some b->φ g i off b) /\
   (∀ i' j' b,fp i' j' b->φ g i off b/\L.b≠some b)/\(∀ i j i' j' b,fp i j b->fp i' j' b->i=i'/\j=j') /\
   (∀ b C (i' j':Nat) e y s' ty' es',L.b=some b->w.heap[b]? =some (.cells C ty (0,0))->es[i']? =some e->(cells e)[j']? =some (.row s' ty' es')->C[i'*s+j']? =some y->Bd F w (fp i' j') s' ty' es' y) /\
   (∀ (i' j':Nat) e nm u n,es[i']? =some e->(cells e)[j']? ≠some (.hole nm u n)):=by
  cases hrat with
  | nil _ _ _ hs=>exact⟨⟨none,0,s⟩,λ_ _ _=>False,rfl,rfl,⟨rfl,hs,by simp,by simp,λe he=>(by cases he),rfl,rfl⟩,λb hb=>(by cases hb),λ_ _ _ h=>h.elim,λ_ _ _ _ _ h=>h.elim,λb C i' j' e y s' ty' es' hb=>(by cases hb),λi' j' e nm u n he=>by simp at he⟩
  | row _ _ _ _ b cap C1 fp xf hs hc hm hl hC1 hC1s hb hx hrr hh hfp hd =>
   refine⟨⟨some b,cap,s⟩,fp,rfl,rfl,⟨rfl,hs,hc,by simpa using hm,hl,C1,hC1,hC1s,λi' j' e d he hd'=>?_⟩,λb' hb'=>(by cases hb';exact hb),λi' j' b' hb'=>⟨(hfp i' j' b' hb').1,λe=>by cases e;exact(hfp i' j' _ hb').2 rfl⟩,hd,λb' C2 i' j' e y s' ty' es' hb' hC2 he hj hy=>?_,hh⟩
   ·obtain⟨y1,y2,y3⟩:=hx i' j' e d he hd';exact⟨_,y1,y2,by simpa using y3⟩
   ·cases hb';rw[hC1]at hC2;cases hC2;obtain⟨y1,_,_⟩:=hx i' j' e _ he hj;rw[y1]at hy;cases hy;exact hrr i' j' e s' ty' es' he hj
 obtain⟨L,fp,l1,l2,l3,l4,l5,l6,l7,l8⟩:=hloc;have hβ:=AW (β:=β) (nv:=nv) L hnv;refine⟨L,?_⟩;have href:Ref F (upB β nv L) (.osl (4096+t) nv 0 es.length) x:=by
  refine⟨L,_,Ak _ _ _,l2,?_,λ_=>rfl,λhp=>?_⟩
  ·have:=l3.2.2.1;simpa using this
  ·cases hLb:L.b with
   | none =>
    obtain⟨_,_,k3,_,_,k6⟩:=l3;rw[hLb]at k6;simp only at k3;omega
   | some b=>exact⟨b,rfl,by simp⟩
 obtain⟨og,hog⟩:∃ og:Own,og={ o with es:=o.es.set i (Ps (o.es.getD i .top) off [.osl (4096+t) nv 0 es.length]) }:=⟨_,rfl⟩
 obtain⟨og1,og2,og3,og4⟩:og.fz=false/\og.var=o.var/\og.s=o.s/\og.ty=o.ty:=by subst hog;exact⟨hfz,rfl,rfl,rfl⟩
 have hogc:∀ (i' j':Nat) e d,og.es[i']? =some e->(cells e)[j']? =some d->(i'=i/\j'=off/\d= .osl (4096+t) nv 0 es.length)\/(¬ (i'=i/\j'=off)/\∃ e',o.es[i']? =some e'/\(cells e')[j']? =some d):=by
  intro i' j' e d he hd;subst hog;simp only at he
  by_cases hii:i'=i
  ·subst hii;rw[aAT hi]at he;cases he;obtain⟨_,q2⟩:=BH (d:=.osl (4096+t) nv 0 es.length) hoff rfl j';rw[q2]at hd
   by_cases hj:j'=off
   ·rw[if_pos hj]at hd;cases hd;exact .inl ⟨rfl,hj,rfl⟩
   ·rw[if_neg hj]at hd;exact .inr ⟨λe=>hj e.2,_,hget,hd⟩
  ·rw[aAl (λe=>hii e.symm)]at he
   exact .inr ⟨λe=>hii e.1,e,he,hd⟩
 have hogok:Au F (upB β nv L) w Lg og:=by
  refine⟨by rw[og3];exact e1,by rw[og3];exact e2,by subst hog;simpa using e3,by rw[og2];exact e4,λe he=>?_,?_⟩
  ·subst hog;simp only at he ⊢;rcases aAZ he with hm|hm
   ·exact e5 e hm
   ·subst hm;rw[(BH (d:=.osl (4096+t) nv 0 es.length) hoff rfl 0).1];exact e5 _ (aAA hget)
  ·rw[hbg];refine⟨C,by rw[og4];exact hC,by rw[og3];exact hCs,λi' j' e d he hd=>?_⟩
   rw[og3,og2];rcases hogc i' j' e d he hd with⟨rfl,rfl,rfl⟩|⟨_,e',k1,k2⟩
   ·refine⟨x,x1,x2,?_⟩;rw[if_pos hvar];exact Cel.BZ href
   ·obtain⟨y,y1,y2,y3⟩:=hcell i' j' e' d k1 k2;refine⟨y,y1,y2,?_⟩;rw[if_pos hvar]at y3 ⊢;exact y3.mono (NX.refl _) hβ
 rw[<- hog];have hgo:∀ g' v' o',(S.mk σ.e ((4096+t,some (nv,⟨false,false,s,ty,es⟩))::(g,some (v,og))::σ.o) m).go g'=some (v',o') ->
   (g'=4096+t/\v'=nv/\o'=⟨false,false,s,ty,es⟩)\/(g'=g/\v'=v/\o'=og)\/(g'≠4096+t/\g'≠g/\σ.go g'=some (v',o')):=by
  intro g' v' o' hg';rw[Cc]at hg';split at hg'
  ·rename_i h1;cases hg';exact .inl ⟨h1,rfl,rfl⟩
  ·rename_i h1;rw[Cc]at hg';split at hg'
   ·rename_i h2;cases hg';exact .inr (.inl ⟨h2,rfl,rfl⟩)
   ·rename_i h2;exact .inr (.inr ⟨h1,h2,hg'⟩)
 have hnb:∀ b,L.b=some b->b≠bg:=by
  rintro b hb rfl;exact hφ.sep g i off b g v o Lg (l4 b hb) hg hfz hLg hbg
 have hother:∀ g' v' o' L' b,g'≠g->σ.go g'=some (v',o')->o'.fz=false->β v'=some L'->L'.b=some b->¬ (b=bg\/L.b=some b):=by
  rintro g' v' o' L' b hn hg' hf' hL' hb' (rfl|hb)
  ·exact hn (h.dist g' g v' v o' o L' Lg b hg' hg hf' hfz hL' hLg hb' hbg)
  ·exact hφ.sep g i off b g' v' o' L' (l4 b hb) hg' hf' hL' hb'
 refine h.change (row:=λb=>b=bg\/L.b=some b) rfl rfl rfl (aAF _) (λ_ _ _=>rfl) ?_ (NX.refl _) (λ_ _ _ _=>rfl) h.frz h.fin hβ h.size h.defers
  (λt'=>(h.env t').mono (NX.refl _) hβ) ?_ ?_ ?_
 ·rintro b (rfl|hb)
  ·exact s3.imp id And.left
  ·exact hφ.new g i off b (l4 b hb)
 ·intro g' v' o' hg';rcases hgo g' v' o' hg' with⟨rfl,rfl,rfl⟩|⟨rfl,rfl,rfl⟩|⟨k1,k2,k3⟩
  ·refine .inr ⟨L,Ak _ _ _,rfl,l3,λb hb=>⟨hφ.none_ g i off b (l4 b hb),hφ.lt g i off b (l4 b hb),(hφ.new g i off b (l4 b hb)).imp id (λz=>⟨z,by simp[Ad]⟩),.inl (.inr hb)⟩⟩
  ·refine .inr ⟨Lg,hβ _ _ hLg,og1,hogok,λb hb=>?_⟩
   rw[hbg]at hb;cases hb;exact⟨s1,s2,s3,.inl (.inl rfl)⟩
  ·exact .inl ⟨k3,λL' b hf hL' hb=>hother g' v' o' L' b k2 k3 hf hL' hb⟩
 ·intro g1 g2 v1 v2 o1 o2 L1 L2 b hg1 hg2 hf1 hf2 hL1 hL2 hb1 hb2 hrow';have hrow':b=bg\/L.b=some b:=by
   rcases hrow' with h1|h1
   ·exact h1
   ·exfalso;rcases hgo g1 v1 o1 hg1 with⟨_,rfl,rfl⟩|⟨_,rfl,rfl⟩|⟨_,k2,k3⟩
    ·rw[Ak]at hL1;cases hL1;have:=hφ.lt g i off b (l4 b hb1);omega
    ·have:=hβ _ _ hLg;rw[hL1]at this;cases this;rw[hbg]at hb1;cases hb1;omega
    ·obtain⟨L0,e0,_⟩:=h.own g1 v1 o1 k3;have:=hβ _ _ e0;rw[hL1]at this;cases this;have:=(h.sep g1 v1 o1 L1 b k3 hf1 e0 hb1).2.1;omega
  have key:∀ g' v' o' L',(S.mk σ.e ((4096+t,some (nv,⟨false,false,s,ty,es⟩))::(g,some (v,og))::σ.o) m).go g'=some (v',o')->o'.fz=false->upB β nv L v'=some L'->L'.b=some b->(g'=g/\b=bg)\/(g'=4096+t/\L.b=some b):=by
   intro g' v' o' L' hg' hf' hL' hb';rcases hgo g' v' o' hg' with⟨rfl,rfl,rfl⟩|⟨rfl,rfl,rfl⟩|⟨_,k2,k3⟩
   ·rw[Ak]at hL';cases hL';exact .inr ⟨rfl,hb'⟩
   ·have:=hβ _ _ hLg;rw[hL']at this;cases this;rw[hbg]at hb';cases hb';exact .inl ⟨rfl,rfl⟩
   ·obtain⟨L0,e0,_⟩:=h.own g' v' o' k3;have:=hβ _ _ e0;rw[hL']at this;cases this;exact(hother g' v' o' L' b k2 k3 hf' e0 hb' hrow').elim
  rcases key g1 v1 o1 L1 hg1 hf1 hL1 hb1 with⟨k1,k2⟩|⟨k1,k2⟩
  ·rcases key g2 v2 o2 L2 hg2 hf2 hL2 hb2 with⟨k3,_⟩|⟨_,k4⟩
   ·rw[k1,k3]
   ·exact(hnb b k4 k2).elim
  ·rcases key g2 v2 o2 L2 hg2 hf2 hL2 hb2 with⟨_,k4⟩|⟨k3,_⟩
   ·exact(hnb b k2 k4).elim
   ·rw[k1,k3]
 ·intro _ _
  let φ':Nat->Nat->Nat->Nat->Prop:=λg1 i1 j1 b=>(g1=4096+t/\fp i1 j1 b)\/(g1≠4096+t/\¬ (g1=g/\i1=i/\j1=off)/\φ g1 i1 j1 b)
  have hsub:∀ g1 i1 j1 b,φ' g1 i1 j1 b->∃ g2 i2 j2,φ g2 i2 j2 b:=by
   rintro g1 i1 j1 b (⟨_,hb⟩|⟨_,_,hb⟩)
   ·exact⟨g,i,off,(l5 i1 j1 b hb).1⟩
   ·exact⟨g1,i1,j1,hb⟩
  refine⟨φ',?_,?_,λg1 i1 j1 b hb=>?_,λg1 i1 j1 b hb=>?_,λg1 i1 j1 b hb=>?_,λg1 i1 j1 b g' v' o' L' hb hg' hf' hL' hLb=>?_,?_⟩
  ·intro g' v' o' L' b C' i' j' e y s' ty' es' hr' hg' hf' hL' hb' hC' he hj hy;rcases hgo g' v' o' hg' with⟨rfl,rfl,rfl⟩|⟨rfl,rfl,rfl⟩|⟨k1,k2,k3⟩
   ·rw[Ak]at hL';cases hL';exact(l7 b C' i' j' e y s' ty' es' hb' hC' he hj hy).keep (NX.refl _) (λ_ _=>rfl) (λb hb=>.inl ⟨rfl,hb⟩)
   ·have:=hβ _ _ hLg;rw[hL']at this;cases this;rw[hbg]at hb';cases hb';rw[og4]at hC';rw[og3]at hy;rcases hogc i' j' e _ he hj with⟨_,_,k⟩|⟨kn,e',k1,k2⟩
    ·cases k
    ·exact(hφ.row g' v' o _ bg C' i' j' e' y s' ty' es' hr' hg hfz hLg hbg hC' k1 k2 hy).keep (NX.refl _) (λ_ _=>rfl) (λb hb=>.inr ⟨hne,λe=>kn ⟨e.2.1,e.2.2⟩,hb⟩)
   ·obtain⟨L0,e0,_⟩:=h.own g' v' o' k3;have:=hβ _ _ e0;rw[hL']at this;cases this;exact(hφ.row g' v' o' L' b C' i' j' e y s' ty' es' hr' k3 hf' e0 hb' hC' he hj hy).keep (NX.refl _) (λ_ _=>rfl) (λb hb=>.inr ⟨k1,λe=>k2 e.1,hb⟩)
  ·intro g' v' o' L' b C' i' j' e y nm u n hr' hg' hf' hL' hb' hC' he hj hy;rcases hgo g' v' o' hg' with⟨rfl,rfl,rfl⟩|⟨rfl,rfl,rfl⟩|⟨k1,k2,k3⟩
   ·exact(l8 i' j' e _ u n he hj).elim
   ·have:=hβ _ _ hLg;rw[hL']at this;cases this;rw[hbg]at hb';cases hb';rw[og4]at hC';rw[og3]at hy;rcases hogc i' j' e _ he hj with⟨rfl,rfl,k⟩|⟨kn,e',k1,k2⟩
    ·cases k
    ·exact(hφ.hole g' v' o _ bg C' i' j' e' y _ u n hr' hg hfz hLg hbg hC' k1 k2 hy).mono (NX.refl _) hβ
   ·obtain⟨L0,e0,_⟩:=h.own g' v' o' k3;have:=hβ _ _ e0;rw[hL']at this;cases this;exact(hφ.hole g' v' o' L' b C' i' j' e y _ u n hr' k3 hf' e0 hb' hC' he hj hy).mono (NX.refl _) hβ
  ·obtain⟨g2,i2,j2,hb⟩:=hsub g1 i1 j1 b hb;exact hφ.none_ _ _ _ _ hb
  ·obtain⟨g2,i2,j2,hb⟩:=hsub g1 i1 j1 b hb;exact hφ.lt _ _ _ _ hb
  ·obtain⟨g2,i2,j2,hb⟩:=hsub g1 i1 j1 b hb;exact hφ.new _ _ _ _ hb
  ·rcases hgo g' v' o' hg' with⟨rfl,rfl,rfl⟩|⟨rfl,rfl,rfl⟩|⟨_,k2,k3⟩
   ·rw[Ak]at hL';cases hL';rcases hb with⟨_,hb⟩|⟨_,hn,hb⟩
    ·exact(l5 i1 j1 b hb).2 hLb
    ·exact hn (hφ.dis _ _ _ _ _ _ _ hb (l4 b hLb))
   ·have:=hβ _ _ hLg;rw[hL']at this;cases this;obtain⟨g2,i2,j2,hb⟩:=hsub g1 i1 j1 b hb;exact hφ.sep g2 i2 j2 b g' v' o _ hb hg hfz hLg hLb
   ·obtain⟨L0,e0,_⟩:=h.own g' v' o' k3;have:=hβ _ _ e0;rw[hL']at this;cases this;obtain⟨g2,i2,j2,hb⟩:=hsub g1 i1 j1 b hb;exact hφ.sep g2 i2 j2 b g' v' o' L' hb k3 hf' e0 hLb
  ·rintro g1 i1 j1 g2 i2 j2 b (⟨rfl,hb⟩|⟨hn1,hn,hb⟩) (⟨rfl,hb'⟩|⟨hn2,hn',hb'⟩)
   ·exact⟨rfl,l6 i1 j1 i2 j2 b hb hb'⟩
   ·exact(hn' (hφ.dis _ _ _ _ _ _ _ hb' (l5 i1 j1 b hb).1)).elim
   ·exact(hn (hφ.dis _ _ _ _ _ _ _ hb (l5 i2 j2 b hb').1)).elim
   ·exact hφ.dis _ _ _ _ _ _ _ hb hb'
theorem Jy {L:Loc} {o:Own} (hok:Au F β w L o) (hvar:o.var=false) {g v n:Nat} {x:Value} (hx:Ref F β (.osl g v 0 n) x) (hL:β v=some L) (hn:n<=o.es.length) (hp:∀ e∈o.es,AO e=true):Bd F w (λb=>L.b=some b) o.s o.ty (o.es.take n) x:=by
 obtain⟨L',A,hL',rfl,hcap,hA,_⟩:=hx;rw[hL]at hL';cases hL';obtain⟨e1,e2,e3,e4,e5,e6⟩:=hok;have hA:=hA rfl;subst hA;cases hb:L.b with
 | none =>
  rw[hb]at e6;have hn0:n=0:=by omega
  subst hn0;have hc0:L.cap-0=0:=by omega
  rw[hc0];simp only[Option.map_none,List.take_zero];exact .nil _ _ _ e2
 | some b =>
  rw[hb]at e6;obtain⟨C,hC,hCs,hcell⟩:=e6;have hlen:(o.es.take n).length=n:=by simp;omega
  have hidx:∀ (k:Nat) e,(o.es.take n)[k]? =some e->o.es[k]? =some e:=by
   intro k e he;rw[List.getElem?_take]at he;split at he
   ·exact he
   ·cases he
  have:=Bd.row (F:=F) (w:=w) (λb'=>some b=some b') o.s o.ty (o.es.take n) b L.cap C (λ_ _ _=>False) (λi j=>(C[i*o.s+j]?).getD undef) e2 (by rw[hlen];omega) (by simpa[hvar]using e4) (λe he=>e5 e (aAm he)) hC hCs rfl
   (λi j e d he hd=>by
    obtain⟨y,y1,y2,y3⟩:=hcell i j e d (hidx i e he) hd;rw[hvar]at y3;rw[y1]
    exact⟨rfl,y2,by simpa using y3⟩)
   (λi j e s' ty' es' he hj=>by
    have:=aAJ.1 (hp e (aAA (hidx i e he))) _ (aAA hj)
    cases this)
   (λi j e nm u n' he hj=>by
    have:=aAJ.1 (hp e (aAA (hidx i e he))) _ (aAA hj)
    cases this)
   (λ_ _ _ h=>h.elim) (λ_ _ _ _ _ h=>h.elim)
  rw[hlen]at this;simpa using this
theorem KE (h:Sim N Δ w0 F0 M B0 σ F β a w) {var:Bool} {d:D} {x:Value} (hx:Cel F β d x) (hc:((Bv var d).run σ).1) :
  cells ((Bv var d).run σ).2.1=[((Bv var d).run σ).2.1]/\(if var then Cel F β ((Bv var d).run σ).2.1 x else Fro F ((Bv var d).run σ).2.1 x)/\(∀ nm u n,((Bv var d).run σ).2.1≠ .hole nm u n) /\
   ((((Bv var d).run σ).2.2=[]/\∀ s ty es,((Bv var d).run σ).2.1≠ .row s ty es)\/∃ g v o L,((Bv var d).run σ).2.2=[(g,none)]/\σ.go g=some (v,o)/\o.fz=false/\β v=some L/\∀ s ty es,((Bv var d).run σ).2.1= .row s ty es->Bd F w (λb=>L.b=some b) s ty es x):=by
 have easy:∀ d:D,Bv var d= .ret (True,d,[])->cells d=[d]->(∀ nm u n,d≠ .hole nm u n)->(∀ s ty es,d≠ .row s ty es)->Cel F β d x->Fro F d x->cells ((Bv var d).run σ).2.1=[((Bv var d).run σ).2.1]/\(if var then Cel F β ((Bv var d).run σ).2.1 x else Fro F ((Bv var d).run σ).2.1 x)/\(∀ nm u n,((Bv var d).run σ).2.1≠ .hole nm u n) /\
   ((((Bv var d).run σ).2.2=[]/\∀ s ty es,((Bv var d).run σ).2.1≠ .row s ty es)\/∃ g v o L,((Bv var d).run σ).2.2=[(g,none)]/\σ.go g=some (v,o)/\o.fz=false/\β v=some L/\∀ s ty es,((Bv var d).run σ).2.1= .row s ty es->Bd F w (λb=>L.b=some b) s ty es x):=by
  intro d e1 e2 e3 e4 e5 e6;rw[e1];refine⟨e2,?_,e3,.inl ⟨rfl,e4⟩⟩;split
  ·exact e5
  ·exact e6
 cases d with
 | osl g v i n =>
  cases i with
  | succ i=>exact hc.elim
  | zero =>
   simp only[Bv,R.run]at hc ⊢;cases hg:σ.go g with
   | none=>rw[hg]at hc;exact hc.elim
   | some p =>
    obtain⟨v',o⟩:=p;rw[hg]at hc;simp only at hc ⊢;have hx':Ref F β (.osl g v 0 n) x:=hx;obtain⟨L,A,hL,hxe,hcap,hA,hpos⟩:=hx
    by_cases hfz:o.fz=true
    ·rw[if_pos hfz]at hc ⊢;simp only[R.run]at hc ⊢;obtain⟨rfl,hvar,hn⟩:=hc;obtain⟨L',hL',hz,_⟩:=h.own g v o hg;rw[hL]at hL';cases hL';have:=EU (hz hfz) (i:=0) (n:=n) (c:=L.cap-0) (a:=A) (by simpa using hn) (by simpa using hcap) (by simpa using hpos) (by omega)
     rw[hxe];have hf:Fro F (.sl (o.es.take n)) (.slice A n (L.cap-0)):=by simpa using this
     refine⟨rfl,?_,λnm u n e=>(by cases e),.inl ⟨trivial,λs ty es e=>by cases e⟩⟩
     split
     ·exact Cel.Af hf
     ·exact hf
    ·have hfz':o.fz=false:=by simpa using hfz
     rw[if_neg hfz]at hc ⊢;simp only[R.run]at hc ⊢;obtain⟨rfl,hvar,hn,hp⟩:=hc;obtain⟨L',hL',_,hk⟩:=h.own g v o hg;rw[hL]at hL';cases hL';refine⟨rfl,?_,λnm u n e=>(by cases e),.inr ⟨g,v,o,L,rfl,hg,hfz',hL,λs ty es e=>?_⟩⟩
     ·split
      ·exact Cel.Af (.row _ _ _ _)
      ·exact .row _ _ _ _
     ·cases e;exact Jy (hk hfz') hvar hx' hL hn hp
 | top=>exact hc.elim
 | row=>exact hc.elim
 | hole=>exact hc.elim
 | when=>exact hc.elim
 | tup=>exact hc.elim
 | agg=>exact hc.elim
 | optr g v i off =>
  have hv:var=true:=hc;subst hv;exact⟨rfl,hx,λnm u n e=>(by cases e),.inl ⟨rfl,λs ty es e=>by cases e⟩⟩
 | clo f caps =>
  have hv:var=true:=hc;subst hv;exact⟨rfl,hx,λnm u n e=>(by cases e),.inl ⟨rfl,λs ty es e=>by cases e⟩⟩
 | int k n=>exact easy _ rfl rfl (λ_ _ _ e=>by cases e) (λ_ _ _ e=>by cases e) hx hx
 | bool b=>exact easy _ rfl rfl (λ_ _ _ e=>by cases e) (λ_ _ _ e=>by cases e) hx hx
 | str b=>exact easy _ rfl rfl (λ_ _ _ e=>by cases e) (λ_ _ _ e=>by cases e) hx hx
 | sl b=>exact easy _ rfl rfl (λ_ _ _ e=>by cases e) (λ_ _ _ e=>by cases e) hx hx
 | nils=>exact easy _ rfl rfl (λ_ _ _ e=>by cases e) (λ_ _ _ e=>by cases e) hx hx
 | fptr b off=>exact easy _ rfl rfl (λ_ _ _ e=>by cases e) (λ_ _ _ e=>by cases e) hx hx
 | nilf=>exact easy _ rfl rfl (λ_ _ _ e=>by cases e) (λ_ _ _ e=>by cases e) hx hx
 | nilp=>exact easy _ rfl rfl (λ_ _ _ e=>by cases e) (λ_ _ _ e=>by cases e) hx hx
theorem GL (h:Sim N Δ w0 F0 M B0 σ F β a w) {var:Bool}:∀ (cs:List D) (X:Nat->Option Value),(∀ (j:Nat) c,cs[j]? =some c->∃ x,X j=some x/\x.oneCell'=true/\Cel F β c x)->((AF var cs).run σ).1 ->
  ((AF var cs).run σ).2.1.length=cs.length/\(∀ c'∈((AF var cs).run σ).2.1,cells c'=[c'])/\(∀ p∈((AF var cs).run σ).2.2,p.2=none) /\
   (∀ (j:Nat) c',((AF var cs).run σ).2.1[j]? =some c'->∃ x,X j=some x/\x.oneCell'=true/\(if var then Cel F β c' x else Fro F c' x))/\(∀ (j nm u n:Nat),((AF var cs).run σ).2.1[j]? ≠some (.hole nm u n)) /\
   ∃ G:Nat->Option Nat,(∀ j g',G j=some g'->(g',none)∈((AF var cs).run σ).2.2/\∃ v' o' L',σ.go g'=some (v',o')/\o'.fz=false/\β v'=some L')/\(∀ j j' g',G j=some g'->G j'=some g'->j=j') /\
    (∀ (j s ty:Nat) es,((AF var cs).run σ).2.1[j]? =some (.row s ty es)->∀ x,X j=some x->∃ g' v' o' L',G j=some g'/\σ.go g'=some (v',o')/\o'.fz=false/\β v'=some L'/\Bd F w (λb=>L'.b=some b) s ty es x)
 | [],X,_,_=>by
  refine⟨rfl,λc' hc'=>by simp[AF]at hc',λp hp=>by simp[AF]at hp,λj c' hj=>by simp[AF]at hj,λj nm u n hj=>by simp[AF]at hj,λ_=>none,λj g' e=>(by cases e),λj j' g' e=>(by cases e),λj s ty es hj=>by simp[AF]at hj⟩
 | d::cs,X,hX,hc=>by
  simp only[AF,R.run_bind,R.run_pure]at hc ⊢;obtain⟨c1,c2,c3⟩:=hc;obtain⟨x,x1,x2,x3⟩:=hX 0 d rfl;obtain⟨k1,k2,k3,k4⟩:=KE h x3 c1;obtain⟨q1,q2,q3,q4,q5,G,q6,q7,q8⟩:=GL h cs (λj=>X (j+1)) (λj c hj=>hX (j+1) c (by simpa using hj)) c2
  have hnone:∀ p∈((Bv var d).run σ).2.2,p.2=none:=by
   intro p hp;rcases k4 with⟨k4,_⟩|⟨g,v,o,L,k4,_⟩
   ·rw[k4]at hp;cases hp
   ·rw[k4]at hp;simp at hp;subst hp;rfl
  refine⟨by simp[q1],λc' hc'=>?_,λp hp=>?_,λj c' hj=>?_,λj nm u n hj=>?_,?_⟩
  ·rcases List.mem_cons.1 hc' with rfl|hc'
   ·exact k1
   ·exact q2 c' hc'
  ·rcases aAU.1 hp with hp|hp
   ·exact hnone p hp
   ·exact q3 p hp
  ·rcases j with _|j
   ·simp only[aAG,Option.some.injEq]at hj;subst hj;exact⟨x,x1,x2,k2⟩
   ·simp only[aAK]at hj;exact q4 j c' hj
  ·rcases j with _|j
   ·simp only[aAG,Option.some.injEq]at hj;exact k3 nm u n hj
   ·simp only[aAK]at hj;exact q5 j nm u n hj
  ·rcases k4 with⟨k4,k5⟩|⟨g,v,o,L,k4,k5,k6,k7,k8⟩
   ·refine⟨λj=>match j with|0=>none|j+1=>G j,λj g' hj=>?_,λj j' g' hj hj'=>?_,λj s ty es hj y hy=>?_⟩
    ·rcases j with _|j
     ·cases hj
     ·obtain⟨z1,z2⟩:=q6 j g' hj;exact⟨aAU.2 (.inr z1),z2⟩
    ·rcases j with _|j
     ·cases hj
     ·rcases j' with _|j'
      ·cases hj'
      ·rw[q7 j j' g' hj hj']
    ·rcases j with _|j
     ·simp only[aAG,Option.some.injEq]at hj;exact(k5 s ty es hj).elim
     ·simp only[aAK]at hj;exact q8 j s ty es hj y hy
   ·have hdis:∀ j,G j≠some g:=by
     intro j hj;obtain⟨z1,_⟩:=q6 j g hj;have:=aAJ.1 c3 _ z1;rw[k4]at this;simp at this
    refine⟨λj=>match j with|0=>some g|j+1=>G j,λj g' hj=>?_,λj j' g' hj hj'=>?_,λj s ty es hj y hy=>?_⟩
    ·rcases j with _|j
     ·cases hj;exact⟨aAU.2 (.inl (by rw[k4];simp)),v,o,L,k5,k6,k7⟩
     ·obtain⟨z1,z2⟩:=q6 j g' hj;exact⟨aAU.2 (.inr z1),z2⟩
    ·rcases j with _|j
     ·rcases j' with _|j'
      ·rfl
      ·cases hj;exact(hdis j' hj').elim
     ·rcases j' with _|j'
      ·cases hj';exact(hdis j hj).elim
      ·rw[q7 j j' g' hj hj']
    ·rcases j with _|j
     ·simp only[aAG,Option.some.injEq]at hj;rw[x1]at hy;cases hy;exact⟨g,v,o,L,rfl,k5,k6,k7,k8 s ty es hj⟩
     ·simp only[aAK]at hj;exact q8 j s ty es hj y hy
theorem IL (h:Sim N Δ w0 F0 M B0 σ F β a w) {g v i off n:Nat} {o:Own} (hg:σ.go g=some (v,o)) (hr:Ad g=true) (hfz:o.fz=false) (hi:i<o.es.length) {d:D} {x px:Value}
  (hpx:Val F β (.optr g v i off) px) (hx:Val F β d x) (hk:known d=true) (hc:((AF o.var (cells d)).run σ).1) (hn:(cells d).length=n) (hle:off+n<=(cells (o.es.getD i .top)).length) (hng:((AF o.var (cells d)).run σ).2.2.all (λx=>x.1 != g)=true)
  (t:TypeId) (hti:P.info? t≠none) (htn:n=P.cellsOf t) (hnpos:0<n) (c:Prop) :
  ∃ w',(Instr.storeAt t px x).run P w= .ok () w'/\Sim N Δ w0 F0 M B0 (σ.app ⟨c,[],(g,some (v,{ o with es:=o.es.set i (Ps (o.es.getD i .top) off ((AF o.var (cells d)).run σ).2.1) }))::((AF o.var (cells d)).run σ).2.2⟩) F β a w':=by
 obtain⟨x1,x2,x3⟩:=Cn hx hk;obtain⟨q1,q2,q3,q4,q5,G,q6,q7,q8⟩:=GL h (cells d) (λj=>x.cells[j]?) x3 hc
 generalize((AF o.var (cells d)).run σ).2.1=cs at *;generalize((AF o.var (cells d)).run σ).2.2=ws at *;refine Gi h hg hfz hi hpx (by rw[x1,hn]) x2 (by rw[q1,hn]) q2 q4 hle t hti htn hnpos c q3 λφ L b C C' hφ hL hb hLs hC hCz hC1 hC2=>?_
 have hget:o.es[i]? =some (o.es.getD i .top):=by simp[hi]
 have hcl:cs.length=n:=by rw[q1,hn]
 have hsetE:=DP (e:=o.es.getD i .top) (off:=off) (new:=cs) (by rw[hcl];exact hle) q2 (.inl (by omega))
 obtain⟨sa1,sa2⟩:=Ds cs (cells (o.es.getD i .top)) off;obtain⟨og,hog⟩:∃ og:Own,og={ o with es:=o.es.set i (Ps (o.es.getD i .top) off cs) }:=⟨_,rfl⟩
 obtain⟨og1,og2,og3,og4⟩:og.fz=false/\og.var=o.var/\og.s=o.s/\og.ty=o.ty:=by subst hog;exact⟨hfz,rfl,rfl,rfl⟩
 obtain⟨L',hL',_,hkk⟩:=h.own g v o hg;rw[hL]at hL';cases hL';obtain⟨e1,e2,e3,e4,e5,e6⟩:=hkk hfz;have hogc:∀ (i' j':Nat) e d',og.es[i']? =some e->(cells e)[j']? =some d'->(i'=i/\off<=j'/\j'<off+n/\cs[j'-off]? =some d')\/(¬ (i'=i/\off<=j'/\j'<off+n)/\j'<o.s/\∃ e',o.es[i']? =some e'/\(cells e')[j']? =some d'):=by
  intro i' j' e d' he hd;subst hog;simp only at he
  by_cases hii:i'=i
  ·subst hii;rw[aAT hi]at he;cases he;rw[hsetE,sa2,hcl]at hd;split at hd
   ·rename_i hcond;exact .inl ⟨rfl,hcond.1,hcond.2.1,hd⟩
   ·rename_i hcond;have hlt:=(aAE.1 hd).1;exact .inr ⟨λe=>hcond ⟨e.2.1,e.2.2,hlt⟩,by rw[<- e5 _ (aAA hget)];exact hlt,_,hget,hd⟩
  ·rw[aAl (λe=>hii e.symm)]at he
   exact .inr ⟨λe=>hii e.1,by rw[<- e5 e (aAA he)];exact(aAE.1 hd).1,e,he,hd⟩
 have hnew:∀ j',off<=j'->j'<off+n->C'[i*o.s+j']? =x.cells[j'-off]?:=by
  intro j' h1 h2;rw[<- hC1 (j'-off) (by omega)]
  congr 1;omega
 have hoff:off+n<=o.s:=by rw[<- e5 _ (aAA hget)];exact hle
 have hold:∀ i' j',j'<o.s->¬ (i'=i/\off<=j'/\j'<off+n)->C'[i'*o.s+j']? =C[i'*o.s+j']?:=by
  intro i' j' hj hn';refine hC2 _ ?_;rcases aAc i' i with h1|h1|h1
  ·have:(i'+1)*o.s<=i*o.s:=aAa _ h1;rw[Nat.add_mul]at this;omega
  ·subst h1;omega
  ·have:(i+1)*o.s<=i'*o.s:=aAa _ h1;rw[Nat.add_mul]at this;omega
 have hsz:(w.setRow b C').heap.size=w.heap.size:=by simp[World.setRow]
 rw[<- hog];have hgo:∀ g' v' o',(σ.app ⟨c,[],(g,some (v,og))::ws⟩).go g'=some (v',o')->(g'=g/\v'=v/\o'=og)\/(g'≠g/\σ.go g'=some (v',o')/\∀ y,(g',y)∉ws):=by
  intro g' v' o' hg';rw[S.CN]at hg';simp only[look]at hg'
  by_cases h1:g'=g
  ·rw[if_pos h1]at hg';cases hg';exact .inl ⟨h1,rfl,rfl⟩
  ·rw[if_neg h1]at hg';cases hl:look ws g' with
   | some y =>
    rw[hl]at hg';have:=q3 _ (Bj hl);simp only at this hg';rw[this]at hg';cases hg'
   | none =>
    rw[hl]at hg';exact .inr ⟨h1,hg',En hl⟩
 let K:Nat->Nat->Prop:=λj b'=>∃ g' v' o' L',G j=some g'/\σ.go g'=some (v',o')/\o'.fz=false/\β v'=some L'/\L'.b=some b'
 have hGg:∀ j,G j≠some g:=by
  intro j hj;obtain⟨z1,_⟩:=q6 j g hj;have:=aAJ.1 hng _ z1;simp at this
 have hKb:∀ j b',K j b'->b'≠b:=by
  rintro j b' ⟨g',v',o',L',k1,k2,k3,k4,k5⟩ rfl;have:=h.dist g' g v' v o' o L' L b' k2 hg k3 hfz k4 hL k5 hb;subst this;exact hGg j k1
 let φ':Nat->Nat->Nat->Nat->Prop:=λg1 i1 j1 b'=>(g1=g/\i1=i/\off<=j1/\j1<off+n/\K (j1-off) b')\/(¬ (g1=g/\i1=i/\off<=j1/\j1<off+n)/\φ g1 i1 j1 b')
 have hφb:∀ g1 i1 j1 b',φ g1 i1 j1 b'->b'≠b:=by
  rintro g1 i1 j1 b' hb' rfl;exact hφ.sep g1 i1 j1 b' g v o L hb' hg hfz hL hb
 refine⟨φ',?_,?_,?_,?_,?_,?_,?_⟩
 ·intro g' v' o' L' b' C'' i' j' e y s' ty' es' hr' hg' hf' hL' hb' hC'' he hj hy;rcases hgo g' v' o' hg' with⟨rfl,rfl,rfl⟩|⟨k1,k2,_⟩
  ·rw[hL]at hL';cases hL';rw[hb]at hb';cases hb';have:C''=C':=by
    have h1:=setRow_heap w b C C' o.ty (0,0) hC;rw[og4]at hC'';rw[h1]at hC'';cases hC'';rfl
   subst this;rw[og3]at hy;rcases hogc i' j' e _ he hj with⟨rfl,z1,z2,z3⟩|⟨z0,z1,e',z2,z3⟩
   ·rw[hnew j' z1 z2]at hy;obtain⟨g2,v2,o2,L2,y1,y2,y3,y4,y5⟩:=q8 _ s' ty' es' z3 y hy;refine y5.keep (NX.refl _) (λb2 hb2=>setRow_other w b b2 C'' (hKb _ b2 ⟨g2,v2,o2,L2,y1,y2,y3,y4,hb2⟩)) (λb2 hb2=>.inl ⟨rfl,rfl,z1,z2,g2,v2,o2,L2,y1,y2,y3,y4,hb2⟩)
   ·rw[hold i' j' z1 z0]at hy;exact(hφ.row g' v' o L b C i' j' e' y s' ty' es' hr' hg hfz hL hb hC z2 z3 hy).keep (NX.refl _) (λb2 hb2=>setRow_other w b b2 C'' (hφb _ _ _ b2 hb2)) (λb2 hb2=>.inr ⟨λe=>z0 e.2,hb2⟩)
  ·have hbb:b'≠b:=by
    rintro rfl;exact k1 (h.dist g' g v' v o' o L' L b' k2 hg hf' hfz hL' hL hb' hb)
   rw[setRow_other w b b' C' hbb]at hC'';exact(hφ.row g' v' o' L' b' C'' i' j' e y s' ty' es' hr' k2 hf' hL' hb' hC'' he hj hy).keep (NX.refl _) (λb2 hb2=>setRow_other w b b2 C' (hφb _ _ _ b2 hb2)) (λb2 hb2=>.inr ⟨λe=>k1 e.1,hb2⟩)
 ·intro g' v' o' L' b' C'' i' j' e y nm u n' hr' hg' hf' hL' hb' hC'' he hj hy;rcases hgo g' v' o' hg' with⟨rfl,rfl,rfl⟩|⟨k1,k2,_⟩
  ·rw[hL]at hL';cases hL';rw[hb]at hb';cases hb';have:C''=C':=by
    have h1:=setRow_heap w b C C' o.ty (0,0) hC;rw[og4]at hC'';rw[h1]at hC'';cases hC'';rfl
   subst this;rw[og3]at hy;rcases hogc i' j' e _ he hj with⟨rfl,z1,z2,z3⟩|⟨z0,z1,e',z2,z3⟩
   ·exact(q5 _ _ u n' z3).elim
   ·rw[hold i' j' z1 z0]at hy;exact hφ.hole g' v' o L b C i' j' e' y _ u n' hr' hg hfz hL hb hC z2 z3 hy
  ·have hbb:b'≠b:=by
    rintro rfl;exact k1 (h.dist g' g v' v o' o L' L b' k2 hg hf' hfz hL' hL hb' hb)
   rw[setRow_other w b b' C' hbb]at hC'';exact hφ.hole g' v' o' L' b' C'' i' j' e y _ u n' hr' k2 hf' hL' hb' hC'' he hj hy
 ·rintro g1 i1 j1 b' (⟨_,_,_,_,g',v',o',L',_,k2,k3,k4,k5⟩|⟨_,hb'⟩)
  ·exact(h.sep g' v' o' L' b' k2 k3 k4 k5).1
  ·exact hφ.none_ g1 i1 j1 b' hb'
 ·rintro g1 i1 j1 b' (⟨_,_,_,_,g',v',o',L',_,k2,k3,k4,k5⟩|⟨_,hb'⟩)
  ·rw[hsz];exact(h.sep g' v' o' L' b' k2 k3 k4 k5).2.1
  ·rw[hsz];exact hφ.lt g1 i1 j1 b' hb'
 ·rintro g1 i1 j1 b' (⟨_,_,_,_,g',v',o',L',_,k2,k3,k4,k5⟩|⟨_,hb'⟩)
  ·exact(h.sep g' v' o' L' b' k2 k3 k4 k5).2.2.imp id And.left
  ·exact hφ.new g1 i1 j1 b' hb'
 ·intro g1 i1 j1 b' g2 v2 o2 L2 hb' hg2 hf2 hL2 hLb;rcases hgo g2 v2 o2 hg2 with⟨rfl,rfl,rfl⟩|⟨k1,k2,k3⟩
  ·rw[hL]at hL2;cases hL2;rw[hb]at hLb;cases hLb;rcases hb' with⟨_,_,_,_,hK⟩|⟨_,hb'⟩
   ·exact hKb _ _ hK rfl
   ·exact hφb _ _ _ _ hb' rfl
  ·rcases hb' with⟨_,_,_,_,g',v',o',L',y1,y2,y3,y4,y5⟩|⟨_,hb'⟩
   ·have:=h.dist g' g2 v' v2 o' o2 L' L2 b' y2 k2 y3 hf2 y4 hL2 y5 hLb;subst this;exact k3 _ (q6 _ _ y1).1
   ·exact hφ.sep g1 i1 j1 b' g2 v2 o2 L2 hb' k2 hf2 hL2 hLb
 ·rintro g1 i1 j1 g2 i2 j2 b' (⟨rfl,rfl,z1,z2,g',v',o',L',y1,y2,y3,y4,y5⟩|⟨n1,h1⟩) (⟨rfl,rfl,z1',z2',g'',v'',o'',L'',y1',y2',y3',y4',y5'⟩|⟨n2,h2⟩)
  ·have:=h.dist g' g'' v' v'' o' o'' L' L'' b' y2 y2' y3 y3' y4 y4' y5 y5';subst this;have:=q7 _ _ _ y1 y1';exact⟨rfl,rfl,by omega⟩
  ·exact(hφ.sep g2 i2 j2 b' g' v' o' L' h2 y2 y3 y4 y5).elim
  ·exact(hφ.sep g1 i1 j1 b' g'' v'' o'' L'' h1 y2' y3' y4' y5').elim
  ·exact hφ.dis g1 i1 j1 g2 i2 j2 b' h1 h2
end
section
variable {N:Nat} {Δ:List Deferred} {w0:World} {F0:Fz} {M:Nat->Prop} {B0:Bt} {σ:S} {F:Fz} {β:Bt} {a:Act} {w:World} {P:Program}
theorem CR {t:TypeId} {d:TypeDesc} (h:P.underlying t=some d):P.info? t≠none:=by
 grind [Program.underlying]
theorem Ef {t:TypeId} (h:0<P.cellsOf t):P.info? t≠none:=by
 grind [aAR]
theorem Dk {t:TypeId} (h:Cd P t=true):(P.underlying t).isSome=true:=by
 grind [Cd]
theorem Lr {Γ:Al} (h:Sim N Δ w0 F0 M B0 σ F β a w) {nv:Nat} (hnv:β nv=none) {o:Oper} {t:Nat} (hdst:o.dst=some t) (ht:t<N) (htr:Ad t=false) {e:TypeId} (ho:o.op= .alloc e) {z:D} (hz:CA P e=some z) (hs:0<P.cellsOf e) :
  Snd P N Δ w0 F0 M B0 σ β a w o nv ((evalOp Γ nv o.dst (.new z (P.cellsOf e) e)).run σ):=by
 obtain⟨i,zv,hi,hzv,hone,hsz,rfl⟩:=Dl hz;obtain⟨c1,c2,c3⟩:=Cs (F:=F) zv hone;intro K Q hK;have hrun:(execOp a.eval o).run P w= .ok (.value (.pointer (some ⟨w.heap.size,0,none⟩))) (w.alloc (.cells zv.cells e)):=by
  simp_all[execOp,Instr.alloc,zeroValue,typeInfo,newVar,newRow]
 unfold Oper.wp;rw[hrun];simp only[evalOp,R.run,Oper.upon,hdst,aAH]at hK ⊢;refine hK _ _ _ _ (h.alloc (nv:=nv) (t:=t) (tt:=t) hnv ht (C:=zv.cells) (o:=⟨false,true,P.cellsOf e,e,[Bc zv]⟩) (cap:=1) (d:=.optr t nv 0 0) (v:=.pointer (some ⟨w.heap.size,0,none⟩)) (w1:=w) rfl rfl rfl rfl rfl (λhr=>by simp_all) ?_ ?_) (AW _ hnv) (λv hv=>Cg _ _ hv)
 ·exact Au.Ik (w1:=w) hs hsz (by rw[c1,hsz]) (λj c hj=>by
   obtain⟨x,x1,x2,x3⟩:=c3 j c hj
   grind [Cel.Af])
 ·exact⟨_,w.heap.size,Ak _ _ _,rfl,by simp⟩
theorem Lp {Γ:Al} (h:Sim N Δ w0 F0 M B0 σ F β a w) {nv:Nat} (hnv:β nv=none) {o:Oper} {t:Nat} (hdst:o.dst=some t) (ht:t<N) (htr:Ad t=false) {e:TypeId} {x:Operand} (ho:o.op= .box e x) {y:Arg} (hy:Ao x=some y) (hs:0<P.cellsOf e)
  (hc:((evalOp Γ nv o.dst (.box y (P.cellsOf e) e)).run σ).c):Snd P N Δ w0 F0 M B0 σ β a w o nv ((evalOp Γ nv o.dst (.box y (P.cellsOf e) e)).run σ):=by
 have hv:=λhp=>Ax h hy hp
 simp only[evalOp,R.run_bind,R.run_pure,hdst,aAH]at hc ⊢;generalize((rdA y).run σ).2=d at *;generalize((rdA y).run σ).1=p at *;obtain⟨hp,hk,hl⟩:=hc;have hvx:=hv hp;obtain⟨x1,x2,x3⟩:=Cn hvx hk;intro K Q hK;have hrun:(execOp a.eval o).run P w= .ok (.value (.pointer (some ⟨w.heap.size,0,none⟩))) (w.alloc (.cells (a.eval x).cells e)):=by
  simp_all[execOp,Instr.box,newVar,newRow]
 unfold Oper.wp;rw[hrun];simp only[Oper.upon,hdst]at hK ⊢;refine hK _ _ _ _ (h.alloc (nv:=nv) (t:=t) (tt:=t) hnv ht (C:=(a.eval x).cells) (o:=⟨false,true,P.cellsOf e,e,[d]⟩) (cap:=1) (d:=.optr t nv 0 0) (v:=.pointer (some ⟨w.heap.size,0,none⟩)) (w1:=w) rfl rfl rfl rfl rfl (λhr=>by simp_all) ?_ ?_) (AW _ hnv) (λv hv=>Cg _ _ hv)
 ·exact Au.Ik (w1:=w) hs (by rw[x1,hl]) hl (λj c hj=>by
   obtain⟨v,v1,v2,v3⟩:=x3 j c hj
   exact⟨v,by simp_all,v2,v3.mono (NX.refl _) (AW _ hnv)⟩)
 ·exact⟨_,w.heap.size,Ak _ _ _,rfl,by simp⟩
theorem Lq {Γ:Al} (h:Sim N Δ w0 F0 M B0 σ F β a w) {nv:Nat} (hnv:β nv=none) {o:Oper} {t:Nat} (hdst:o.dst=some t) (ht:t<N) (htr:Ad t=false) {tt e:TypeId} {xl xc:Operand} (ho:o.op= .makeSlice tt xl xc) (hu:P.underlying tt=some (.slice e)) {z:D} (hz:CA P e=some z) (hs:0<P.cellsOf e)
  {yl yc:Arg} (hyl:Ao xl=some yl) (hyc:Ao xc=some yc)
  (hc:((evalOp Γ nv o.dst (.mkS (P.cellsOf e) e (P.bytesOf e) (Fa z) yl yc)).run σ).c):Snd P N Δ w0 F0 M B0 σ β a w o nv ((evalOp Γ nv o.dst (.mkS (P.cellsOf e) e (P.bytesOf e) (Fa z) yl yc)).run σ):=by
 obtain⟨i,zv,hi,hzv,hone,hsz,rfl⟩:=Dl hz;have hraw:Fa (Bc zv)=Bc zv\/Fa (Bc zv)=nrm (Bc zv):=by grind [Fa]
 have hbi:P.bytesOf e=i.bytes:=by grind [Program.bytesOf]
 have hsi:P.cellsOf e=i.size:=by grind [aAR]
 have hvl:=λhp=>Ax h hyl hp
 have hvc:=λhp=>Ax h hyc hp
 simp only[evalOp,R.run_bind,hdst,aAH]at hc ⊢;generalize((rdA yl).run σ).2=dl at *;generalize((rdA yl).run σ).1=pl at *;generalize((rdA yc).run σ).2=dc at *;generalize((rdA yc).run σ).1=pc at *;split at hc
 ·rename_i kl l kc c;simp only[R.run_pure]at hc ⊢;obtain⟨h1,h2,h3,h4,h5,h6⟩:=hc;have e1:=AN (hvl h1);have e2:=AN (hvc h2);have hbytes:(i.bytes:Int)*c<=281474976710656:=by
   have:i.bytes*c.toNat<=65536*16777216:=Nat.mul_le_mul (by omega) (by omega)
   grind
  have hmk:=run_make (P:=P) w tt e i zv hu hi hzv kl kc l c h3 h4 hbytes (by omega)
  intro K Q hK;have hrun:(execOp a.eval o).run P w= .ok (.value (.slice (some ⟨w.heap.size,0,none⟩) l.toNat c.toNat)) (w.alloc (.cells (madeCells zv.cells (c.toNat*i.size)) e)):=by
   simp_all[execOp]
  unfold Oper.wp;rw[hrun];simp only[Oper.upon,hdst]at hK ⊢;refine hK _ _ _ _ (h.alloc (nv:=nv) (t:=t) (tt:=t) hnv ht (C:=madeCells zv.cells (c.toNat*i.size)) (o:=⟨false,false,P.cellsOf e,e,aAj l.toNat (Fa (Bc zv))⟩) (cap:=c.toNat) (d:=.osl t nv 0 l.toNat) (v:=.slice (some ⟨w.heap.size,0,none⟩) l.toNat c.toNat) (w1:=w) rfl rfl rfl rfl rfl (λhr=>by simp_all) ?_ ?_) (AW _ hnv) (λv hv=>Cg _ _ hv)
  ·refine Au.Ig (w1:=w) hs (by rw[size_madeCells,hsi]) (by simp;omega) (by simp only[maxLen];omega) (λq hq=>?_) ?_
   ·rw[List.mem_replicate]at hq;rcases hraw with e|e
    ·rw[hq.2,e,(Cs (F:=F) zv hone).1,hsz]
    grind [DD]
   ·rcases hraw with e|e
    ·rw[e];exact Hv hone hsz hs (by rw[hsi];exact aAa _ (by omega))
    ·rw[e];exact Gj hone hsz hs (by rw[hsi];exact aAa _ (by omega))
  ·exact⟨_,_,Ak _ _ _,rfl,by simp;omega,λ_=>rfl,λ_=>⟨_,rfl,by simp⟩⟩
 simp_all
theorem Kk {Γ:Al} (h:Sim N Δ w0 F0 M B0 σ F β a w) {nv:Nat} (hnv:β nv=none) {o:Oper} {t:Nat} (hdst:o.dst=some t) (ht:t<N) (htr:Ad t=false) {tt e:TypeId} {len:Nat} {parts:Array (Nat×Operand)} (ho:o.op= .buildSlice tt len parts) (hu:P.underlying tt=some (.slice e)) {z:D} (hz:CA P e=some z) (hs:0<P.cellsOf e) (hlen:len*P.cellsOf e<=16777216)
  {ps:List (Nat×Arg)} (hps:DB parts.toList=some ps)
  (hc:((evalOp Γ nv o.dst (.bldS (P.cellsOf e) e (nrm z) len ps)).run σ).c):Snd P N Δ w0 F0 M B0 σ β a w o nv ((evalOp Γ nv o.dst (.bldS (P.cellsOf e) e (nrm z) len ps)).run σ):=by
 obtain⟨i,zv,hi,hzv,hone,hsz,rfl⟩:=Dl hz;have hsi:P.cellsOf e=i.size:=by grind [aAR]
 have hel:=λhc=>Fx h parts.toList ps hps hc
 simp only[evalOp,R.run_bind,R.run_pure,hdst,aAH]at hc ⊢;generalize((AR ps).run σ).2.1=rs at *;generalize((AR ps).run σ).2.2=ws at *;obtain⟨h1,h2⟩:=hc;obtain⟨f1,l1,r1⟩:=hel h1;obtain⟨F1,hF1,hS1,_⟩:=h.freeze f1;have hp:=r1 ws F1 f1 (λ_ hp=>hp) hF1 hS1
 obtain⟨C',g1,g2,g3,g4,g5⟩:=GN (F:=F1) hs (parts.toList.map λp=>(p.1,a.eval p.2)) rs (aAj len (nrm (Bc zv))) (madeCells zv.cells (len*P.cellsOf e))
  (by simp[size_madeCells]) (λq hq=>by grind [DD]) (Gj hone hsz hs (aAF _))
  (λp hp=>by grind) (by simp[l1]) hp
 rw[size_madeCells]at g2;simp only[List.length_replicate]at g3;intro K Q hK;have hrun:(execOp a.eval o).run P w= .ok (.value (.slice (some ⟨w.heap.size,0,none⟩) len len)) (w.alloc (.cells C' e)):=by
  unfold execOp;rw[ho];have hmap:(parts.map λ(i,x)=>(i,a.eval x)).toList=parts.toList.map λp=>(p.1,a.eval p.2):=by simp
  by_cases h0:len*i.size=0
  ·have hnot:¬ 16777216<len*i.size:=by omega
   have hmade:madeCells zv.cells (len*P.cellsOf e)= #[]:=by grind [madeCells]
   rw[hmade,hsi]at g1;have hpl:∀ p∈rs,False:=by
    intro p hp';have:=(h2 p hp').2.2;have:len=0:=by
     rcases Nat.eq_zero_or_pos len with hl|hl
     ·exact hl
     ·have:=Nat.mul_pos hl (by omega:0<i.size)
      omega
    omega
   have hrs:rs=[]:=aAV.2 hpl;have hparts:parts= #[]:=by
    grind
   subst hparts;simp only[List.map_nil,Instr.fill,Option.some.injEq]at g1;subst g1;simp[Instr.buildSlice,run_underlying hu,sizeOf,typeInfo,hi,h0,Instr.fill,newRow,Array.range_zero']
  ·have hb:=run_buildSlice (P:=P) w tt e len (parts.map λ(i,x)=>(i,a.eval x)) C' i zv hu hi hzv (by grind) h0 (by rw[hmap,<- hsi];exact g1)
   simp only[Sem.run_bind,hb,Result.andThen_ok];rfl
 unfold Oper.wp;rw[hrun];simp only[Oper.upon,hdst]at hK ⊢;have hA:=hS1.alloc (nv:=nv) (t:=t) (tt:=t) hnv ht (c:=((AR ps).run σ).1/\∀ p∈rs,known p.2=true/\(cells p.2).length=P.cellsOf e/\p.1<len) (C:=C') (o:=⟨false,false,P.cellsOf e,e,YJ (aAj len (nrm (Bc zv))) rs⟩) (cap:=len) (d:=.osl t nv 0 len) (v:=.slice (some ⟨w.heap.size,0,none⟩) len len) (w1:=w) rfl rfl rfl rfl rfl (λhr=>by grind)
  (Au.Ig (w1:=w) hs g2 (by omega) (by
   have:len<=len*P.cellsOf e:=Nat.le_mul_of_pos_right _ hs
   simp only[maxLen];omega) g4 g5) ⟨_,_,Ak _ _ _,rfl,by simp,λ_=>rfl,λ_=>⟨_,rfl,by simp⟩⟩
 refine hK _ _ F1 (upB β nv ⟨some w.heap.size,len,P.cellsOf e⟩) ?_ (AW _ hnv) (λv hv=>Cg _ _ hv)
 have e':(σ.app ⟨((AR ps).run σ).1/\∀ p∈rs,known p.2=true/\(cells p.2).length=P.cellsOf e/\p.1<len,Ah (some t) (.osl t nv 0 len),AP (some t) (some (nv,⟨false,false,P.cellsOf e,e,YJ (aAj len (nrm (Bc zv))) rs⟩))++ws⟩)=(S.mk σ.e (ws++σ.o) σ.n).app ⟨((AR ps).run σ).1/\∀ p∈rs,known p.2=true/\(cells p.2).length=P.cellsOf e/\p.1<len,Ah (some t) (.osl t nv 0 len),AP (some t) (some (nv,⟨false,false,P.cellsOf e,e,YJ (aAj len (nrm (Bc zv))) rs⟩))⟩:=by
  simp[S.app]
 grind
theorem Lm {Γ:Al} (h:Sim N Δ w0 F0 M B0 σ F β a w) {nv:Nat} (hnv:β nv=none) {o:Oper} {t:Nat} (hdst:o.dst=some t) (ht:t<N) (htr:Ad t=false) {tt e:TypeId} {x y:Operand} (ho:o.op= .call { callee:=.builtin .append,args:=#[x,y],argTypes:=#[tt,tt] })
  (hu:P.underlying tt=some (.slice e)) {i:TypeInfo} (hi:P.info? e=some i) {z:D} (hz:CA P e=some z) (hs:0<P.cellsOf e) (hby:i.bytes<=65536) {ax ay:Arg} (hx:Ao x=some ax) (hy:Ao y=some ay)
  (hc:((evalOp Γ nv o.dst (.app (P.cellsOf e) e i.bytes ax ay)).run σ).c):Snd P N Δ w0 F0 M B0 σ β a w o nv ((evalOp Γ nv o.dst (.app (P.cellsOf e) e i.bytes ax ay)).run σ):=by
 obtain⟨i',zv,hi',hzv,hone,hsz,rfl⟩:=Dl hz;rw[hi]at hi';cases hi';have hsi:P.cellsOf e=i.size:=by grind [aAR]
 have hvx:=λhp=>Ax h hx hp
 have hvy:=λhp=>Ax h hy hp
 simp only[evalOp,source,R.run_bind,R.run_pure,hdst,aAH]at hc ⊢;generalize((rdA ax).run σ).2=dx at *;generalize((rdA ax).run σ).1=px at *;generalize((rdA ay).run σ).2=dy at *;generalize((rdA ay).run σ).1=py at *;have hc':=hc;obtain⟨h1,h2,h3,h4,h5,h6,h7,h8⟩:=hc;obtain⟨v',w',β',r1,r2,r3,r4⟩:=Jc (P:=P) h hnv ht htr (hvx h1) (hvy h2) (ty:=o.type) hu hi hzv hsi.symm hsz hs hby h3 h4 h5 h7 h8 (px=true/\py=true/\((view dy).run σ).1/\((target (P.cellsOf e) e dx).run σ).1/\((target (P.cellsOf e) e dx).run σ).2.1.length+((view dy).run σ).2.length<=16777216/\i.bytes<=65536/\(∀ q∈((view dy).run σ).2,(cells q).length=P.cellsOf e)/\(((target (P.cellsOf e) e dx).run σ).2.2.2=true->∀ q∈((target (P.cellsOf e) e dx).run σ).2.1++((view dy).run σ).2,AO q=true));intro K Q hK;have hrun:(execOp a.eval o).run P w= .ok (.value v') w':=by
  simp_all[execOp,resolve,invoke,builtin]
 grind [Oper.wp,Oper.upon]
theorem Mp {Γ:Al} (h:Sim N Δ w0 F0 M B0 σ F β a w) {nv:Nat} {o:Oper} (hdst:o.dst=none) {tt:TypeId} {xa xv:Operand} (ho:o.op= .store tt xa xv) {aa av:Arg} (ha:Ao xa=some aa) (hv:Ao xv=some av) (hs:0<P.cellsOf tt)
  (hc:((evalOp Γ nv o.dst (.st (P.cellsOf tt) aa av)).run σ).c):Snd P N Δ w0 F0 M B0 σ β a w o nv ((evalOp Γ nv o.dst (.st (P.cellsOf tt) aa av)).run σ):=by
 have hti:=Ef hs;have hva:=λhp=>Ax h ha hp
 have hvv:=λhp=>Ax h hv hp
 simp only[evalOp,R.run_bind]at hc ⊢;generalize((rdA aa).run σ).2=da at *;generalize((rdA aa).run σ).1=pa at *;generalize((rdA av).run σ).2=d at *;generalize((rdA av).run σ).1=pv at *;cases da<;>try exact hc.elim
 case optr g v i off =>
  simp only[R.run]at hc ⊢;cases hg:σ.go g with
  | none=>simp_all
  | some p =>
   obtain⟨v',ow⟩:=p;rw[hg]at hc;simp only at hc ⊢;have fin:∀ {σ1:S} {F1:Fz} (hF1:NX F F1) (_:Sim N Δ w0 F0 M B0 σ1 F1 β a w) (u:Out) (w':World),(Instr.storeAt tt (a.eval xa) (a.eval xv)).run P w= .ok () w'->Sim N Δ w0 F0 M B0 (σ.app u) F1 β a w'->Snd P N Δ w0 F0 M B0 σ β a w o nv u:=by
    intro σ1 F1 _ _ u w' hr hS K Q hK;have hrun:(execOp a.eval o).run P w= .ok .skip w':=by
     simp_all[execOp]
    unfold Oper.wp;rw[hrun];simp only[Oper.upon];have:a.put o.dst undef=a:=by rw[hdst];rfl
    grind [Aw.refl]
   by_cases hrg:Ad g=true
   ·rw[if_pos hrg]at hc ⊢;simp only[R.run_bind,R.BT]at hc ⊢;obtain⟨h1,h2,h3,rfl,h4,h5,h6,h7,h8,h9⟩:=hc;obtain⟨w',r1,r2⟩:=IL (P:=P) h hg hrg h4 h5 (hva h1) (hvv h2) h6 h3 h7 h8 h9 tt hti rfl hs True
    grind [NX.refl]
   rw[if_neg hrg]at hc ⊢;have hng:Ad g=false:=by simp_all
   by_cases hvar:ow.var=true
   ·rw[if_pos hvar]at hc ⊢;simp only[R.run]at hc ⊢;obtain⟨h1,h2,rfl,h4,h5,h6,h7,h8⟩:=hc;obtain⟨w',r1,r2⟩:=Hg (P:=P) h hg hng h4 h5 (hva h1) (hvv h2) (λe=>by simp_all) h6 h7 h8 tt hti rfl hs (pa=true/\pv=true/\v=v/\ow.fz=false/\i<ow.es.length/\known d=true/\(cells d).length=P.cellsOf tt/\off+P.cellsOf tt<=(cells (ow.es.getD i .top)).length)
    grind [NX.refl]
   ·rw[if_neg hvar]at hc ⊢;have hvar':ow.var=false:=by simp_all
    simp only[R.run_bind,R.run_pure]at hc ⊢;have hres:=λhx hc=>Es h d (x:=a.eval xv) hx hc
    generalize((res d).run σ).2.1=d' at *;generalize((res d).run σ).2.2=ws at *;obtain⟨h1,h2,h3,rfl,h4,h5,h6,h7,h8,h9⟩:=hc;obtain⟨f1,r1⟩:=hres (hvv h2) h3;obtain⟨F1,hF1,hS1,_⟩:=h.freeze f1;have hfro:=r1 ws F1 f1 (λ_ hp=>hp) hF1 hS1
    have hgo:(S.mk σ.e (ws++σ.o) σ.n).go g=some (v,ow):=by
     rcases f1.go g with⟨v2,o2,_,_,k3,_⟩|⟨_,k2⟩
     all_goals grind
    obtain⟨w',q1,q2⟩:=Hg (P:=P) hS1 hgo hng h4 h5 (d:=d') (x:=a.eval xv) ((hva h1).mono hF1 (Aw.refl _)) (Val.Af hfro) (λ_=>hfro) h6 h7 h8 tt hti rfl hs True
    refine fin hF1 hS1 _ w' q1 ?_
    grind [S.app]
theorem Mo {Γ:Al} (h:Sim N Δ w0 F0 M B0 σ F β a w) {nv:Nat} (hnv:β nv=none) {o:Oper} (hd:∀ t,o.dst=some t->t<N) {t:TypeId} {x:Operand} (ho:o.op= .load t x) {n:Nat} {agg:Bool} {y:Arg} (hy:Ao x=some y)
  (h1:Cd P t=agg) (h2:(P.underlying t).isSome=true) (h3:agg=true->P.info? t≠none/\n=P.cellsOf t) (h4:agg=false->n=1)
  (hc:((evalOp Γ nv o.dst (.ld n agg y)).run σ).c):Snd P N Δ w0 F0 M B0 σ β a w o nv ((evalOp Γ nv o.dst (.ld n agg y)).run σ):=by
 have hv:=λhp=>Ax h hy hp
 simp only[evalOp,R.run_bind]at hc ⊢;generalize((rdA y).run σ).2=d at *;generalize((rdA y).run σ).1=p at *;have old:∀ (c:Prop),p=true->((On d).run σ).1->((On d).run σ).2.2+n<=(cells ((On d).run σ).2.1).length->Snd P N Δ w0 F0 M B0 σ β a w o nv ⟨c,Ah o.dst (Oj (cells ((On d).run σ).2.1) ((On d).run σ).2.2 n agg),[]⟩:=by
  intro c q1 q2 q3;obtain⟨v,r1,r2⟩:=HU (P:=P) h (hv q1) q2 t n agg h1 h2 h3 h4 q3;exact Snd.pure' h hd (v:=v) (by simp_all[execOp]) (Env.Ai r2)
 by_cases hptr:∃ g v i off,d= .optr g v i off
 ·obtain⟨g,v,i,off,rfl⟩:=hptr;simp only[R.run]at hc ⊢;cases hg:σ.go g with
  | none=>simp_all
  | some q =>
   obtain⟨v',ow⟩:=q;rw[hg]at hc;simp only at hc ⊢;have old':∀ (c:Prop),p=true->(v=v'/\i<ow.es.length)->off+n<=(cells (ow.es.getD i .top)).length->Snd P N Δ w0 F0 M B0 σ β a w o nv ⟨c,Ah o.dst (Oj (cells (ow.es.getD i .top)) off n agg),[]⟩:=by
    grind [On,R.run]
   split at hc
   ·
    rename_i s ty es hr hp;simp only[R.run]at hc ⊢;obtain⟨q1,⟨rfl,q2⟩,q3,q4,q5,rfl,rfl,q6⟩:=hc;obtain⟨t',ht'⟩:=aAM.1 q5;rw[ht']at q6;simp only[aAH]at q6;have hrow:(cells (ow.es.getD i .top))[off]? =some (.row s ty es):=by
     have hlt:off<(cells (ow.es.getD i .top)).length:=by omega
     simp only[Oj,aAY,if_false]at hp;simp_all
    obtain⟨b,L,xv,e1,e2,e3⟩:=HV h hnv (hd t' ht') hg hr q4 q2 hrow q6 (hv q1) True;intro K Q hK;have hagg:=Ev (P:=P) h2 w;rw[h1]at hagg;have hrun:(execOp a.eval o).run P w= .ok (.value xv) w:=by
     simp_all[execOp,aBC,aAd,loadVar]
    grind [Oper.wp,Oper.upon,AW,Cg]
   ·rename_i nm u m hr hp;simp only[R.run]at hc ⊢;obtain⟨q1,⟨rfl,q2⟩,q3,q4,rfl,rfl⟩:=hc;have hrow:(cells (ow.es.getD i .top))[off]? =some (.hole nm u m):=by
     have hlt:off<(cells (ow.es.getD i .top)).length:=by omega
     simp only[Oj,aAY,if_false]at hp;simp_all
    obtain⟨b,xv,e1,e2,e3⟩:=KW h hg hr q4 q2 hrow (hv q1);have hagg:=Ev (P:=P) h2 w;rw[h1]at hagg;refine Snd.pure' h hd (v:=xv) ?_ (Env.Ai (Val.Am (Cel.BZ e3)));simp_all[execOp,aBC,aAd,loadVar]
   grind [R.run]
 simp_all
end
section
variable {N:Nat} {Δ:List Deferred} {w0:World} {F0:Fz} {M:Nat->Prop} {B0:Bt} {σ:S} {F:Fz} {β:Bt} {a:Act} {w:World} {P:Program}
theorem EE {f:Int->Int->Int} {d e:D} {x y:Value} (hx:Val F β d x) (hy:Val F β e y) (hc:(Du f d e).1):∃ k m n,x= .int k m/\y= .int k n/\(Du f d e).2= .int k (f m n):=by
 cases d<;>try exact hc.elim
 cases e<;>try exact hc.elim
 rename_i k m k' n;obtain rfl:k=k':=hc;exact⟨k,m,n,AN hx,AN hy,rfl⟩
theorem Ht (h:Sim N Δ w0 F0 M B0 σ F β a w) {as:List Operand} {ys:List Arg} (hy:Ch as=some ys) {x y:D} (hds:(AD ys).run σ=[x,y]) :
  ∃ p q,as=[p,q]/\Env F β x (a.eval p)/\Env F β y (a.eval q):=by
 obtain⟨l,r⟩:=CD h hy;rw[hds]at l r
 match as,l with
 | [p,q],_=>exact⟨p,q,rfl,r 0 _ _ rfl rfl,r 1 _ _ rfl rfl⟩
theorem IP (h:Sim N Δ w0 F0 M B0 σ F β a w) {as:List Operand} {ys:List Arg} (hy:Ch as=some ys) {x y z:D} (hds:(AD ys).run σ=[x,y,z]) :
  ∃ p q r,as=[p,q,r]/\Env F β x (a.eval p)/\Env F β y (a.eval q)/\Env F β z (a.eval r):=by
 obtain⟨l,r⟩:=CD h hy;rw[hds]at l r
 match as,l with
 | [p,q,u],_=>exact⟨p,q,u,rfl,r 0 _ _ rfl rfl,r 1 _ _ rfl rfl,r 2 _ _ rfl rfl⟩
theorem Jo {g k:Nat} (hG:YQ P F) (h:HT P g=some k) (j:Nat):Fro F (.fptr (.agg (Gz k)) j) (.pointer (some ⟨g,0+j,none⟩)):=by
 have h1:=List.mem_of_find?_eq_some h;have h2:=List.find?_some h;simp only[decide_eq_true_eq]at h2;rw[aAe]at h1;have hm:CV.getD k ("",[])∈CV:=by
  simp_all
 have key:=hG _ hm g h2.2;refine .fptr _ g 0 j (λj=>(F g j).getD undef) (λj d hd=>?_) (λj d hd=>?_) λj d hd=>?_
 all_goals
  obtain⟨x,h1,h2,h3⟩:=key j d hd;simp only[aAf,h1,aAH]
 all_goals omega
theorem JZ {Γ:Al} (hΓ:∀ k sp,Γ k=some sp->Bm P F0 (k % 4096) sp) (h:Sim N Δ w0 F0 M B0 σ F β a w) {o:Oper} {dop:DOp} (hop:cOp P o.type o.op=some dop) (hdst:Cu N o.dst dop=true) {nv:Nat} (hnv:β nv=none)
  (hc:((evalOp Γ nv o.dst dop).run σ).c):Snd P N Δ w0 F0 M B0 σ β a w o nv ((evalOp Γ nv o.dst dop).run σ):=by
 have hd:=Jf hdst;have hdr:=JR hdst;cases ho:o.op with
 | move x =>
  simp only[ho,cOp,aAB,aA]at hop;obtain⟨y,hy,he⟩:=hop;cases he;simp only[evalOp,R.run_bind,R.run_pure];exact Snd.pure' h hd (by simp_all[execOp]) (Ce h hy)
 | assign x =>
  grind [cOp,aA,CE,Ln]
 | pick c x y =>
  simp only[ho,cOp,aAB,aA]at hop;obtain⟨ac,hac,ax,hax,ay,hay,he⟩:=hop;cases he;have h1:=λhp=>Ax h hac hp
  have h2:=λhp=>Ax h hax hp
  have h3:=λhp=>Ax h hay hp
  simp only[evalOp,R.run_bind]at hc ⊢;generalize((rdA ac).run σ).2=dc at *;generalize((rdA ac).run σ).1=pc at *;generalize((rdA ax).run σ).2=dx at *;generalize((rdA ax).run σ).1=px at *;generalize((rdA ay).run σ).2=dy at *;generalize((rdA ay).run σ).1=py at *;split at hc
  ·rename_i bc bx by';simp only[R.run_pure]at hc ⊢;obtain⟨q1,q2,q3⟩:=hc;have e1:=BB (h1 q1);cases bc with
   | true =>
    have e2:=BB (h2 (q2 rfl));refine Snd.pure' h hd (v:=.bool bx) (by simp_all[execOp,asBool]) (Env.Af (by simpa using .bool bx))
   | false =>
    have e3:=BB (h3 (q3 rfl));refine Snd.pure' h hd (v:=.bool by') (by simp_all[execOp,asBool]) (Env.Af (by simpa using .bool by'))
  simp_all
 | alloc e =>
  simp only[ho,cOp]at hop
  grind [aA,CE,Lr]
 | box e x =>
  simp only[ho,cOp]at hop
  grind [aA,CE,Lp]
 | build t parts =>
  simp only[ho,cOp,aAB,aA]at hop;obtain⟨z,hz,he⟩:=hop;obtain⟨i,zv,hi,hzv,hone,hsz,hzd⟩:=Dl hz;obtain⟨c1,c2,c3⟩:=Cs (F:=F) zv hone;have fin:∀ (cs:List D) (places:Nat->Option (Nat×Nat)) (ps:List (Nat×Nat×Arg)),z= .agg cs->Db places parts.toList=some ps->dop= .bld cs ps ->
    (∀ C,Instr.fill places zv.cells (parts.toList.map λp=>(p.1,a.eval p.2))=some C->(Instr.build t (parts.map λ(i,x)=>(i,a.eval x))).run P w= .ok (.agg C) w) ->
    Snd P N Δ w0 F0 M B0 σ β a w o nv ((evalOp Γ nv o.dst dop).run σ):=by
   rintro cs places ps rfl hps rfl hrun;obtain⟨l,r⟩:=Fy h parts.toList ps hps;simp only[evalOp,R.run_bind,R.run_pure]at hc ⊢;generalize(BQ ps).run σ=rs at *;have hcs:cells (Bc zv)=cs:=by rw[<- hzd];rfl
   rw[hcs]at c1 c3;have hval:∀ (n:Nat) (rs:List (Nat×Nat×D)),DH n rs->∀ p∈rs,known p.2.2=true:=by
    intro n rs
    induction rs with
    | nil=>simp_all
    | cons q rs ih =>
     intro hf p hp;obtain⟨f1,_,_,f4⟩:=hf
     grind
   obtain⟨C',f1,f2,f3,f4,f5⟩:=HQ (F:=F) (β:=β) (places:=places) (parts.toList.map λp=>(p.1,a.eval p.2)) rs cs zv.cells c1 (λj c hj=>by
     obtain⟨x,x1,x2,x3⟩:=c3 j c hj
     grind [Cel.Af]) c2 hc (by simp[l]) (λq i x off s d hq hd'=>by
     obtain⟨r1,r2⟩:=r q i x off s d hq hd';refine⟨r1,?_⟩;have hk:=hval _ rs hc _ (aAA hd');simp only at hk
     cases d<;>first|exact r2|cases hk)
   refine Snd.pure' h hd (v:=.agg C') (by simp_all[execOp]) ?_
   refine⟨C'.toList,by simp,by simp_all,λv hv=>f5 v (by simp_all),λj c v hc' hv=>?_⟩
   obtain⟨x,x1,x2,x3⟩:=f4 j c hc';simp_all
  split at he
  ·rename_i cs fs hu;simp only[aA]at he;obtain⟨ps,hps,he⟩:=he;split at he
   ·rename_i hall;cases he;refine fin _ _ ps rfl hps rfl (λC hC=>run_build w t _ C ?_)
    have hmap:(parts.map λ(i,x)=>(i,a.eval x)).toList=parts.toList.map λp=>(p.1,a.eval p.2):=by simp
    have hplaces:fs.toList.mapM (λf=>(P.info? f.type).map λi=>(f.offset,i.size))=some (fs.toList.map λf=>(f.offset,P.cellsOf f.type)):=by
     generalize fs.toList=l at hall
     induction l with
     | nil=>rfl
     | cons f l ih =>
      simp only[List.all_cons,aAP]at hall
      grind [aAM,aAR]
    simp_all[Program.built]
   ·cases he
  ·rename_i cs n e hu;simp only[aA]at he;obtain⟨ps,hps,he⟩:=he;split at he
   ·rename_i hie;cases he;obtain⟨ie,hie⟩:=aAM.1 hie;refine fin _ _ ps rfl hps rfl (λC hC=>run_build w t _ C ?_)
    simp_all[Program.built,aAR]
   ·cases he
  ·cases he
 | buildSlice t len parts =>
  simp only[ho,cOp]at hop;split at hop
  ·rename_i e hu;simp only[aAB,aA]at hop
   grind [aA,CE,Kk]
  ·cases hop
 | load t x =>
  simp only[ho,cOp]at hop;have key:∀ (n:Nat) (agg:Bool) (y:Arg),Ao x=some y->dop= .ld n agg y->Cd P t=agg->(P.underlying t).isSome=true->(agg=true->P.info? t≠none/\n=P.cellsOf t)->(agg=false->n=1)->Snd P N Δ w0 F0 M B0 σ β a w o nv ((evalOp Γ nv o.dst dop).run σ):=by
   grind [Mo]
  grind [aA,Dk,aAM,CR]
 | store t x y =>
  simp only[ho,cOp]at hop;split at hop
  ·rename_i hs;simp only[aAB,aA]at hop;obtain⟨ax,hax,ay,hay,he⟩:=hop;cases he;have hn:o.dst=none:=by
    unfold Cu at hdst
    grind
   grind [Mp]
  ·cases hop
 | nilCheck x =>
  simp only[ho,cOp,aAB,aA]at hop;obtain⟨y,hy,he⟩:=hop;cases he;have hv:=λhp=>Ax h hy hp
  simp only[evalOp,R.run_bind]at hc ⊢;generalize((rdA y).run σ).2=d at *;generalize((rdA y).run σ).1=p at *;cases d<;>try exact hc.elim
  case optr g v i off =>
   have hx:=hv hc;obtain⟨L,b,h1,h2,h3⟩:=hx;exact Snd.pure' h hd (v:=a.eval x) (by simp_all[execOp]) ⟨L,b,h1,h2,h3⟩
  case fptr e off =>
   have hx:=hv hc;have:∃ b o,a.eval x= .pointer (some ⟨b,o,none⟩):=by
    generalize a.eval x=xx at hx;cases hx with
    | fptr e b o off vf hF h1 hh=>simp_all
   obtain⟨b,o',hbo⟩:=this;exact Snd.pure' h hd (v:=a.eval x) (by simp_all[execOp]) hx
 | binOp op t x y t' =>
  have eqb:∀ (neg:Bool) (ax ay:Arg),op=(if neg then .neq else .eql)->P.underlying t=some .bool->Ao x=some ax->Ao y=some ay->dop= .eqB neg ax ay->Snd P N Δ w0 F0 M B0 σ β a w o nv ((evalOp Γ nv o.dst dop).run σ):=by
   rintro neg ax ay hneg hu hax hay rfl;have h1:=λhp=>Ax h hax hp
   have h2:=λhp=>Ax h hay hp
   simp only[evalOp,R.run_bind]at hc ⊢;generalize((rdA ax).run σ).2=dx at *;generalize((rdA ax).run σ).1=px at *;generalize((rdA ay).run σ).2=dy at *;generalize((rdA ay).run σ).1=py at *;split at hc
   ·rename_i bx by';simp only[R.run_pure]at hc ⊢;have e1:=BB (h1 hc.1);have e2:=BB (h2 hc.2);have e3:=LU (P:=P) hu bx by' neg x y w;rw[<- hneg]at e3;exact Snd.pure' h hd (v:=.bool (if neg then !(bx==by')else(bx==by'))) (by unfold execOp;rw[ho];simp only[Sem.run_bind,e1,e2]at e3 ⊢;simp[e3]) (Env.Af (.bool _))
   simp_all
  have eqa:∀ (n:Nat) (neg:Bool) (ax ay:Arg),op=(if neg then .neq else .eql)->DJ P t=some n->Ao x=some ax->Ao y=some ay->dop= .eqA n neg ax ay->Snd P N Δ w0 F0 M B0 σ β a w o nv ((evalOp Γ nv o.dst dop).run σ):=by
   rintro n neg ax ay hneg hu hax hay rfl;have h1:=λhp=>Ax h hax hp
   have h2:=λhp=>Ax h hay hp
   simp only[evalOp,R.run_bind]at hc ⊢;generalize((rdA ax).run σ).2=dx at *;generalize((rdA ax).run σ).1=px at *;generalize((rdA ay).run σ).2=dy at *;generalize((rdA ay).run σ).1=py at *;split at hc
   ·rename_i bx by';simp only[R.run_pure]at hc ⊢;have e3:=LS (P:=P) hu (h1 hc.1) (h2 hc.2.1) hc.2.2.1 hc.2.2.2 neg x y w;rw[<- hneg]at e3;exact Snd.pure' h hd (v:=.bool (if neg then !(eqL bx by').2 else(eqL bx by').2)) (by unfold execOp;rw[ho];simp only[Sem.run_bind]at e3 ⊢;simp[e3]) (Env.Af (.bool _))
   simp_all
  have gen:(Ao x).bind (λax=>(Ao y).bind λay=>some (DOp.bin op ax ay))=some dop->Snd P N Δ w0 F0 M B0 σ β a w o nv ((evalOp Γ nv o.dst dop).run σ):=by
   intro hop;simp only[aA]at hop;obtain⟨ax,hax,ay,hay,he⟩:=hop;cases he;have h1:=λhp=>Ax h hax hp
   have h2:=λhp=>Ax h hay hp
   simp only[evalOp,R.run_bind,R.run_pure,BC]at hc ⊢;obtain⟨⟨q1,q2⟩,q3⟩:=hc;obtain⟨v,r1,r2⟩:=KB (P:=P) (h1 q1) (h2 q2) q3 t x y w;exact Snd.pure' h hd (v:=v) (by unfold execOp;rw[ho];simp only[Sem.run_bind]at r1 ⊢;simp[r1]) (Env.Ai r2)
  simp only[ho,cOp]at hop;split at hop
  all_goals grind [aA]
 | unOp op t x =>
  simp only[ho,cOp,aAB,aA]at hop;obtain⟨ax,hax,he⟩:=hop;cases he;have h1:=λhp=>Ax h hax hp
  simp only[evalOp,R.run_bind,R.run_pure,BC]at hc ⊢;obtain⟨q1,q3⟩:=hc;obtain⟨v,r1,r2⟩:=Mz (P:=P) (h1 q1) q3 w;exact Snd.pure' h hd (v:=v) (by simp_all[execOp]) (Env.Ai r2)
 | convert s t x =>
  simp only[ho,cOp]at hop;split at hop
  ·rename_i k hu;split at hop
   ·rename_i hs;simp only[aAB,aA]at hop;obtain⟨ax,hax,he⟩:=hop;cases he;have h1:=λhp=>Ax h hax hp
    simp only[evalOp,R.run_bind]at hc ⊢;generalize((rdA ax).run σ).2=d at *;generalize((rdA ax).run σ).1=p at *;cases d<;>try exact hc.elim
    case int k' n =>
     have e:=AN (h1 hc);obtain⟨ds,hds⟩:=aAM.1 hs;refine Snd.pure' h hd (v:=.int k (k.wrap n)) ?_ (Env.Af (.int _ _));simp_all[execOp,convert,run_underlying,Conv.intToInt]
   ·cases hop
  ·cases hop;exact hc.elim
 | makeSlice t xl xc =>
  simp only[ho,cOp]at hop;split at hop
  all_goals grind [aA,CE,Lq]
 | slice t x lo hi mx =>
  cases mx with
  | some m =>
   simp only[ho,cOp,Option.some.injEq]at hop;subst hop;exact hc.elim
  | none =>
   simp only[ho,cOp]at hop;have hopt:∀ {x? :Option Operand} {y? :Option Arg} (n:Int),Ei x? =some y? ->(bound ((BE y?).run σ) n).1->(∀ d,(BE y?).run σ=some d->∃ x,x?.map a.eval=some x/\Val F β d x)/\((BE y?).run σ=none->x?.map a.eval=none):=by
    grind [Ml,Jh]
   split at hop
   ·rename_i e hu;split at hop
    ·rename_i hie;obtain⟨hie,hpos⟩:=hie;have hie':P.info? e≠none:=by grind
     simp only[aAB,aA]at hop;obtain⟨ax,hax,alo,halo,ahi,hahi,he⟩:=hop;cases he;have h1:=λhp=>Ax h hax hp
     simp only[evalOp,R.run_bind,R.run_pure,BC]at hc ⊢;generalize((rdA ax).run σ).2=d at *;generalize((rdA ax).run σ).1=p at *;obtain⟨⟨q1,q2⟩,q3⟩:=hc;have hb:∃ n:Int,(bound ((BE alo).run σ) 0).1/\(bound ((BE ahi).run σ) n).1:=by
      cases d<;>first|exact q3.elim|(exact⟨_,q3.1,q3.2.1⟩)|skip
     obtain⟨n,hb1,hb2⟩:=hb;obtain⟨l1,l2⟩:=hopt 0 halo hb1;obtain⟨m1,m2⟩:=hopt n hahi hb2
     obtain⟨v,r1,r2⟩:=Kj (P:=P) h hu hie' (h1 q1) (λg v i n L e1 e2 _=>by
       subst e1;simp only[fits,R.run]at q2;cases hg:σ.go g with
       | none=>simp_all
       | some pp =>
        obtain⟨v',ow⟩:=pp;rw[hg]at q2;obtain⟨_,rfl,q4⟩:=q2;obtain⟨L',e3,hz,hk⟩:=h.own g v ow hg;rw[e2]at e3;cases e3;rw[<- q4];cases hfz:ow.fz with
        | true=>exact(hz hfz).elim (λm=>by omega) λm=>m.2.1
        | false=>exact(hk hfz).1) (λes q e1 hq=>by
       subst e1
       exact q2.2 q hq) l1 l2 m1 m2 (λs e1=>by
       subst e1;have q2':P.cellsOf e=0:=q2
       omega) q3
     exact Snd.pure' h hd (v:=v) (by simp_all[execOp]) (Env.Ai r2)
    ·cases hop
   ·rename_i hu;simp only[aAB,aA]at hop;obtain⟨ax,hax,alo,halo,ahi,hahi,he⟩:=hop;cases he;have h1:=λhp=>Ax h hax hp
    simp only[evalOp,R.run_bind,R.run_pure,BC]at hc ⊢;generalize((rdA ax).run σ).2=d at *;generalize((rdA ax).run σ).1=p at *;obtain⟨⟨q1,q2⟩,q3⟩:=hc;cases d<;>try exact q3.elim
    case str s =>
     obtain⟨l1,l2⟩:=hopt 0 halo q3.1;obtain⟨m1,m2⟩:=hopt s.length hahi q3.2.1;obtain⟨v,r1,r2⟩:=HA (P:=P) hu (h1 q1) l1 l2 m1 m2 q3 w;exact Snd.pure' h hd (v:=v) (by simp_all[execOp]) (Env.Ai r2)
    all_goals grind [fits,R.run]
   ·cases hop
 | fieldAddr s x f =>
  simp only[ho,cOp]at hop;split at hop
  ·rename_i fs hu;simp only[aAB,aA]at hop;obtain⟨fd,hfd,hop⟩:=hop;split at hop
   ·rename_i hs;simp only[aA]at hop;obtain⟨ax,hax,he⟩:=hop;cases he;obtain⟨fi,hfi⟩:=Option.ne_none_iff_exists'.1 (Ef hs);have hsz:fi.size≠0:=by
     grind [aAR]
    have h1:=λhp=>Ax h hax hp
    have hrun:∀ b o',a.eval x= .pointer (some ⟨b,o',none⟩)->(execOp a.eval o).run P w= .ok (.value (.pointer (some ⟨b,o'+fd.offset,none⟩))) w:=by
     simp_all[execOp,Instr.fieldAt,run_underlying,aAd,fieldPlace,sizeOf,typeInfo,Bs]
    simp only[evalOp,R.run_bind]at hc ⊢;generalize((rdA ax).run σ).2=d at *;generalize((rdA ax).run σ).1=p at *;cases d<;>try exact hc.elim
    case optr g v i off =>
     obtain⟨L,b,k1,k2,k3⟩:=h1 hc;exact Snd.pure' h hd (hrun _ _ k3) ⟨L,b,k1,k2,by simp_all⟩
    case fptr e off =>
     have hx:=h1 hc;generalize hxx:a.eval x=xx at hx hrun;cases hx with
     | fptr e b o' off vf hF h1' hh =>
      refine Snd.pure' h hd (hrun _ _ rfl) (Env.Af ?_);rw[Nat.add_assoc];exact .fptr e b o' (off+fd.offset) vf hF h1' hh
   ·cases hop
  ·cases hop
 | field s x f =>
  simp only[ho,cOp]at hop;split at hop
  ·rename_i fs hu;simp only[aAB,aA]at hop;obtain⟨fd,hfd,hop⟩:=hop;have key:∀ (n:Nat) (agg:Bool) (y:Arg),Ao x=some y->dop= .fld fd.offset n agg y->Cd P fd.type=agg->(P.underlying fd.type).isSome=true->(agg=true->P.info? fd.type≠none/\n=P.cellsOf fd.type)->(agg=false->n=1)->Snd P N Δ w0 F0 M B0 σ β a w o nv ((evalOp Γ nv o.dst dop).run σ):=by
    rintro n agg y hy rfl g1 g2 g3 g4;have hv:=λhp=>Ax h hy hp
    simp only[evalOp,R.run_bind]at hc ⊢;generalize((rdA y).run σ).2=d at *;generalize((rdA y).run σ).1=p at *;cases d<;>try exact hc.elim
    case agg cs =>
     obtain⟨q1,q2⟩:=hc;obtain⟨vs,e1,hl,hone,hcel⟩:=hv q1;obtain⟨v,r1,r2⟩:=GY (P:=P) hl hone hcel fd.type fd.offset n agg g1 g2 g3 g4 q2 w;exact Snd.pure' h hd (v:=v) (by simp_all[execOp,Instr.field,run_underlying,asAgg]) (Env.Ai r2)
   grind [aA,Dk,aAM,CR]
  ·cases hop
 | indexAddr t x i =>
  simp only[ho,cOp]at hop;split at hop
  ·rename_i g;unfold JN at hop;split at hop
   ·rename_i n e ds hu hds;split at hop
    ·rename_i hne;simp only[aAB,aA]at hop;obtain⟨ai,hai,he⟩:=hop;cases he;have h2:=λhp=>Ax h hai hp
     simp only[evalOp,R.run_bind]at hc ⊢;generalize((rdA ai).run σ).2=di at *;generalize((rdA ai).run σ).1=pi at *;split at hc
     ·rename_i k j;simp only[R.run_pure]at hc ⊢;obtain⟨q1,q2,q3,k0,sp0,q4⟩:=hc;have hG:=(hΓ k0 sp0 q4).2.2.2.2.mono h.step.sub;obtain⟨ie,hie⟩:∃ ie,P.info? e=some ie:=by
       cases hx:P.info? e with
       | none=>simp_all
       | some ie=>simp_all
      have hsz:P.cellsOf e=ie.size:=by grind [aAR]
      have e2:=AN (h2 q1);have hj:0<=j/\j<(n:Int):=⟨q2,q3⟩;refine Snd.pure' h hd (v:=.pointer (some ⟨g,0+j.toNat*P.cellsOf e,none⟩)) ?_ (Env.Af (Jo hG hds (j.toNat*P.cellsOf e)));unfold execOp;rw[ho];have e1:a.eval (Operand.global g)= .pointer (some ⟨g,0,none⟩):=rfl;simp[Instr.indexAt,asIntOf,run_underlying hu,e1,e2,aAd,sizeOf,typeInfo,hie,hj,Bs,hsz]
     simp_all
    ·cases hop;exact hc.elim
   ·cases hop;exact hc.elim
  unfold JM at hop;split at hop
  ·rename_i e hu;split at hop
   ·rename_i hie;have hie':P.info? e≠none:=by grind
    simp only[aAB,aA]at hop;obtain⟨ax,hax,ai,hai,he⟩:=hop;cases he;have h1:=λhp=>Ax h hax hp
    have h2:=λhp=>Ax h hai hp
    simp only[evalOp,R.run_bind]at hc ⊢;generalize((rdA ax).run σ).2=d at *;generalize((rdA ax).run σ).1=p at *;generalize((rdA ai).run σ).2=di at *;generalize((rdA ai).run σ).1=pi at *;split at hc
    ·rename_i g v i0 n k j;simp only[R.run]at hc ⊢;cases hg:σ.go g with
     | none=>simp_all
     | some pp =>
      obtain⟨v',ow⟩:=pp;rw[hg]at hc;simp only[R.run]at hc ⊢;obtain⟨q1,q2,q3,q4,q5,q6,q7⟩:=hc;have e2:=AN (h2 q2);obtain⟨y,r1,r2⟩:=(Jr (P:=P) h hu hie' (h1 q1) k j).1 g v i0 n v' ow rfl hg ⟨q3,q5⟩ q6 q7;exact Snd.pure' h hd (v:=y) (by simp_all[execOp]) (Env.Ai r2)
    ·rename_i es k j;simp only[R.run_pure]at hc ⊢;obtain⟨q1,q2,q3,q4,q5⟩:=hc;have e2:=AN (h2 q2);obtain⟨y,r1,r2⟩:=(Jr (P:=P) h hu hie' (h1 q1) k j).2 es rfl q3 q4 q5;exact Snd.pure' h hd (v:=y) (by simp_all[execOp]) (Env.Ai r2)
    simp_all
   ·cases hop
  ·rename_i n e hu;split at hop
   ·rename_i hie;obtain⟨ie,hie⟩:=aAM.1 hie;simp only[aAB,aA]at hop;obtain⟨ax,hax,ai,hai,he⟩:=hop;cases he;have h1:=λhp=>Ax h hax hp
    have h2:=λhp=>Ax h hai hp
    have hsz:P.cellsOf e=ie.size:=by grind [aAR]
    have hrun:∀ b o' k j,a.eval x= .pointer (some ⟨b,o',none⟩)->a.eval i= .int k j->0<=j->j<(n:Int)->(execOp a.eval o).run P w= .ok (.value (.pointer (some ⟨b,o'+j.toNat*P.cellsOf e,none⟩))) w:=by
     intro b o' k j e1 e2 e3 e4;have hj:0<=j/\j<(n:Int):=⟨e3,e4⟩;unfold execOp;rw[ho];simp[Instr.indexAt,asIntOf,run_underlying hu,e1,e2,aAd,sizeOf,typeInfo,hie,hj,Bs,hsz]
    simp only[evalOp,R.run_bind]at hc ⊢;generalize((rdA ax).run σ).2=d at *;generalize((rdA ax).run σ).1=p at *;generalize((rdA ai).run σ).2=di at *;generalize((rdA ai).run σ).1=pi at *;split at hc
    ·rename_i g v i0 off k j;simp only[R.run_pure]at hc ⊢;obtain⟨q1,q2,q3,q4⟩:=hc;obtain⟨L,b,k1,k2,k3⟩:=h1 q1;exact Snd.pure' h hd (hrun _ _ k j k3 (AN (h2 q2)) q3 q4) ⟨L,b,k1,k2,by simp_all⟩
    ·rename_i e' off k j;simp only[R.run_pure]at hc ⊢;obtain⟨q1,q2,q3,q4⟩:=hc;have hx:=h1 q1;generalize hxx:a.eval x=xx at hx hrun;cases hx with
     | fptr e' b o' off vf hF h1' hh =>
      refine Snd.pure' h hd (hrun _ _ k j rfl (AN (h2 q2)) q3 q4) (Env.Af ?_);rw[Nat.add_assoc];exact .fptr e' b o' _ vf hF h1' hh
    simp_all
   ·cases hop
  ·cases hop
 | index t x i =>
  simp only[ho,cOp]at hop;split at hop
  ·rename_i n e hu;split at hop
   ·rename_i hie;obtain⟨hie,hue⟩:=hie;obtain⟨ie,hie⟩:=aAM.1 hie;have hsz:P.cellsOf e=ie.size:=by grind [aAR]
    have key:∀ (s:Nat) (agg:Bool) (y yi:Arg),Ao x=some y->Ao i=some yi->dop= .ix s n agg y yi->Cd P e=agg->s=P.cellsOf e->(agg=false->s=1)->Snd P N Δ w0 F0 M B0 σ β a w o nv ((evalOp Γ nv o.dst dop).run σ):=by
     rintro s agg y yi hy hyi rfl g1 g2 g4;have h1:=λhp=>Ax h hy hp
     have h2:=λhp=>Ax h hyi hp
     simp only[evalOp,R.run_bind]at hc ⊢;generalize((rdA y).run σ).2=d at *;generalize((rdA y).run σ).1=p at *;generalize((rdA yi).run σ).2=di at *;generalize((rdA yi).run σ).1=pi at *;split at hc
     ·rename_i cs k j;simp only[R.run_pure]at hc ⊢;obtain⟨q1,q2,q3,q4,q5⟩:=hc;obtain⟨vs,e1,hl,hone,hcel⟩:=h1 q1;have e2:=AN (h2 q2);have hle:j.toNat*s+s<=cs.length:=by
       have:(j.toNat+1)*s<=n*s:=aAa _ (by omega)
       grind
      obtain⟨v,r1,r2⟩:=GY (P:=P) hl hone hcel e (j.toNat*s) s agg g1 hue (λ_=>⟨by simp_all,g2⟩) g4 hle w
      have hj:0<=j/\j<(n:Int):=⟨q3,q4⟩;refine Snd.pure' h hd (v:=v) ?_ (Env.Ai r2);simp_all[execOp,Instr.index,asIntOf,run_underlying,sizeOf,typeInfo]
     simp_all
    grind [aA]
   ·cases hop
  ·cases hop
 | extract x i =>
  simp only[ho,cOp,aAB,aA]at hop;obtain⟨y,hy,he⟩:=hop;cases he;have h1:=λhp=>Ax h hy hp
  simp only[evalOp,R.run_bind]at hc ⊢;generalize((rdA y).run σ).2=d at *;generalize((rdA y).run σ).1=p at *;cases d<;>try exact hc.elim
  case tup ds =>
   obtain⟨q1,q2⟩:=hc;obtain⟨vs,e1,hl,hcel⟩:=h1 q1;have hlt:i<vs.length:=by omega
   refine Snd.pure' h hd (v:=vs[i]) (by simp_all[execOp,Instr.extract]) (Env.Ai (Val.Am ?_))
   refine hcel i _ _ ?_ (aAC hlt);simp[q2]
 | makeFunc fn first caps =>
  simp only[ho,cOp]at hop;split at hop
  ·rename_i f;split at hop
   ·rename_i hf4;have hblt:Nat.blt f 4096=true:=by simp_all
    split at hop
    ·rename_i hfirst;simp only[aAB,aA]at hop;obtain⟨ys,hy,he⟩:=hop;cases he;obtain⟨l,r⟩:=CD h hy;simp only[evalOp,R.run_bind,R.run_pure]at hc ⊢;have hf:first= #[]:=aAn hfirst
     refine Snd.pure' h hd (v:=fnV f (caps.toList.map a.eval)) ?_ ?_
     ·rw[Fq hblt];unfold execOp;rw[ho];have:(caps.toList.map a.eval).toArray=caps.map a.eval:=by grind
      simp_all[Instr.makeFunc]
     ·refine⟨caps.toList.map a.eval,rfl,by simp[l],λj c v hc' hv=>?_⟩
      have:=r j c v hc' hv;have hk:=hc c (aAA hc');cases c<;>first|exact this|cases hk
    ·split at hop
     ·rename_i hcaps;simp only[aAB,aA]at hop;obtain⟨ys,hy,he⟩:=hop;cases he;obtain⟨l,r⟩:=CD h hy;simp only[evalOp,R.run_bind,R.run_pure]at hc ⊢;have hf:caps= #[]:=aAn hcaps;refine Snd.pure' h hd (v:=fnV (4096+f) (first.toList.map a.eval)) ?_ ?_
      ·rw[HR];unfold execOp;rw[ho];have:(first.toList.map a.eval).toArray=first.map a.eval:=by grind
       simp_all[Instr.makeFunc]
      ·refine⟨first.toList.map a.eval,rfl,by simp[l],λj c v hc' hv=>?_⟩
       have:=r j c v hc' hv;have hk:=hc c (aAA hc');cases c<;>first|exact this|cases hk
     ·cases hop
   ·cases hop
  ·cases hop
 | call c =>
  simp only[ho,cOp]at hop;obtain⟨cal,as,ts⟩:=c;unfold Iw at hop;simp only at hop;split at hop
  ·grind [aA,Kl]
  ·rename_i x t has hts;have e1:as= #[x]:=by grind
   have e2:ts= #[t]:=by grind
   subst e1;subst e2;have fin:∀ (str:Bool) (y:Arg),Ao x=some y->dop= .len str y->(str=false->∃ e,P.underlying t=some (.slice e))->(str=true->P.underlying t=some .string)->Snd P N Δ w0 F0 M B0 σ β a w o nv ((evalOp Γ nv o.dst dop).run σ):=by
    rintro str y hy rfl g1 g2;have hv:=λhp=>Ax h hy hp
    simp only[evalOp,R.run_bind]at hc ⊢;generalize((rdA y).run σ).2=d at *;generalize((rdA y).run σ).1=p at *;have hrun:∀ A n c,str=false->a.eval x= .slice A n c->(execOp a.eval o).run P w= .ok (.value (.int .i64 n)) w:=by
     intro A n c hs hx;obtain⟨e,hu⟩:=g1 hs;unfold execOp;rw[ho];simp[resolve,invoke,builtin,Builtin.len_,run_underlying hu,hx,goInt]
    cases d<;>try exact hc.elim
    case sl es =>
     obtain⟨q1,q2⟩:=hc;have hx:=hv q1;have:∃ A c,a.eval x= .slice A es.length c:=by
      generalize a.eval x=xx at hx;cases hx with
      | sl0 A c=>simp_all
      | sl es b o c s vf hc hs hF h1 hh=>simp_all
     obtain⟨A,c,hA⟩:=this;exact Snd.pure' h hd (hrun A _ c q2 hA) (Env.Af (.int _ _))
    case osl g v i n =>
     obtain⟨q1,q2⟩:=hc;obtain⟨L,A,_,hA,_⟩:=hv q1;exact Snd.pure' h hd (hrun A _ _ q2 hA) (Env.Af (.int _ _))
    case nils =>
     obtain⟨q1,q2⟩:=hc;exact Snd.pure' h hd (hrun none 0 0 q2 (Eb (hv q1))) (Env.Af (.int _ _))
    case str s =>
     obtain⟨q1,q2⟩:=hc;have e1:=Co (hv q1);refine Snd.pure' h hd (v:=.int .i64 s.length) ?_ (Env.Af (.int _ _));unfold execOp;rw[ho];have e3:(⟨s.toArray⟩:ByteArray).size=s.length:=by simp[ByteArray.size]
     simp[resolve,invoke,builtin,Builtin.len_,run_underlying (g2 q2),e1,goInt,e3]
   grind [aA]
  ·rename_i x y t u has hts;have e1:as= #[x,y]:=by grind
   have e2:ts= #[t,u]:=by grind
   subst e1;subst e2;split at hop
   ·rename_i e e' hu hu';simp only[aAB,aA]at hop
    grind [aA,CE,Lm]
   ·cases hop
  ·rename_i as' hcal has;simp only[aAB,aA]at hop;obtain⟨ys,hy,he⟩:=hop;cases he;simp only[evalOp,R.run_bind]at hc ⊢;generalize hds:(AD ys).run σ=ds at *;split at hc
   ·rename_i x y;simp only[R.run_pure,BC]at hc ⊢;obtain⟨⟨q1,q2⟩,q3⟩:=hc;obtain⟨p,q,has',e1,e2⟩:=Ht h hy hds;obtain⟨k,m,n,r1,r2,r3⟩:=EE (e1.strip q1) (e2.strip q2) q3;have hasA:as= #[p,q]:=by grind
    subst hasA;rw[r3];refine Snd.pure' h hd (v:=.int k (OM m n)) ?_ (Env.Af (.int _ _));simp_all[execOp,resolve,invoke,builtin,Builtin.max_,Builtin.max2,OM]
   ·rename_i x y z;simp only[R.run_pure,BC]at hc ⊢;obtain⟨⟨q1,q2,q3,q4⟩,q5⟩:=hc;obtain⟨p,q,r,has',e1,e2,e3⟩:=IP h hy hds;obtain⟨k,m,n,r1,r2,r3⟩:=EE (e1.strip q1) (e2.strip q2) q4;rw[r3]at q5 ⊢;obtain⟨k',m',n',r4,r5,r6⟩:=EE (F:=F) (β:=β) (x:=.int k (OM m n)) ((Env.Af (.int _ _)).strip rfl) (e3.strip q3) q5;injection r4 with i1 i2
    subst i1;subst i2;have r6:(Du OM (.int k (OM m n)) (strip z).2).2= .int k (OM (OM m n) n'):=r6;have hasA:as= #[p,q,r]:=by grind
    subst hasA;rw[r6];refine Snd.pure' h hd (v:=.int k (OM (OM m n) n')) ?_ (Env.Af (.int _ _));unfold execOp;rw[ho];simp[resolve,invoke,builtin,Builtin.max_,Builtin.max2,r1,r2,r5,OM];rfl
   simp_all
  ·rename_i as' hcal has;simp only[aAB,aA]at hop;obtain⟨ys,hy,he⟩:=hop;cases he;simp only[evalOp,R.run_bind]at hc ⊢;generalize hds:(AD ys).run σ=ds at *;split at hc
   ·rename_i x y;simp only[R.run_pure,BC]at hc ⊢;obtain⟨⟨q1,q2⟩,q3⟩:=hc;obtain⟨p,q,has',e1,e2⟩:=Ht h hy hds;obtain⟨k,m,n,r1,r2,r3⟩:=EE (e1.strip q1) (e2.strip q2) q3;have hasA:as= #[p,q]:=by grind
    subst hasA;rw[r3];refine Snd.pure' h hd (v:=.int k (Tw m n)) ?_ (Env.Af (.int _ _));simp_all[execOp,resolve,invoke,builtin,Builtin.min_,Builtin.min2,Tw]
   simp_all
  ·cases hop;exact hc.elim
 | _ =>
  simp only[ho,cOp,Option.some.injEq]at hop;subst hop;exact hc.elim
end
section
variable {N:Nat} {Δ:List Deferred} {w0:World} {F0:Fz} {M:Nat->Prop} {B0:Bt} {σ:S} {F:Fz} {β:Bt} {a:Act} {w:World} {P:Program}
theorem Sim.skip (h:Sim N Δ w0 F0 M B0 σ F β a w) {dst:Option Nat} (hd:∀ t,dst=some t->t<N) (c:Prop) :
  Sim N Δ w0 F0 M B0 (σ.app ⟨c,Ah dst (.when false (.bool false)),[]⟩) F β (a.put dst undef) w:=by
 have henv:∀ t,Env F β ((σ.app ⟨c,Ah dst (.when false (.bool false)),[]⟩).ge t) ((a.put dst undef).tmps.getD t undef):=by
  intro t;rw[EZ]
  by_cases hdt:dst=some t
  ·rw[if_pos ⟨hdt,by rw[h.size];simp_all⟩]
   subst hdt;simp only[S.ge,S.app,Ah,List.cons_append,List.nil_append,look,if_true,aAH];exact⟨λe=>(by cases e),λ_=>rfl⟩
  ·rw[if_neg (λe=>hdt e.1)]
   have:(σ.app ⟨c,Ah dst (.when false (.bool false)),[]⟩).ge t=σ.ge t:=by
    cases dst with
    | none=>rfl
    | some t' =>
     simp only[S.ge,S.app,Ah,List.cons_append,List.nil_append,look]
     grind
   rw[this];exact h.env t
 exact{ nam:=h.nam,size:=by rw[BJ];exact h.size,defers:=by rw[Bo];exact h.defers,env:=henv,own:=h.own,dist:=h.dist,sep:=h.sep,Ad:=(by obtain⟨φ,hφ⟩:=h.Ad;exact⟨φ,hφ.congr λ_=>rfl⟩),frz:=h.frz,fin:=h.fin,step:=h.step }
theorem Ka {Γ:Al} (h:Sim N Δ w0 F0 M B0 σ F β a w) {ops:Array Oper} {draw:Bool} {i:Nat} {o:Oper} {o':Ar} (hop:Cr P N ops draw i o=some o') {nv:Nat}
  (hc:((At Γ nv o').run σ).c) (K:Act->World->Prop) (Q:Exit->Act->World->Prop)
  (hon:∀ dop,cOp P o.type o.op=some dop->Cu N o.dst dop=true->o'.op=dop->((evalOp Γ nv o.dst dop).run σ).c->σ.app ((At Γ nv o').run σ)=σ.app ((evalOp Γ nv o.dst dop).run σ)->o.wp P a w K Q)
  (hoff:(∀ t,o.dst=some t->t<N)->σ.app ((At Γ nv o').run σ)=σ.app ⟨True,Ah o.dst (.when false (.bool false)),[]⟩->K (a.put o.dst undef) w) :
  if Region.wanted o (yielded ops a.tmps)then o.wp P a w K Q else K (a.put o.dst undef) w:=by
 unfold Cr at hop;simp only[aA]at hop;obtain⟨dop,hdop,g,hg,he⟩:=hop;split at he
 ·rename_i hcond;simp only[aAP]at hcond;obtain⟨hdst,_⟩:=hcond;cases he;cases hgd:o.guard with
  | none =>
   rw[hgd]at hg;simp only[Fj,Option.some.injEq]at hg;subst hg;rw[if_pos (by grind [Region.wanted])]
   exact hon dop hdop hdst rfl hc rfl
  | some p =>
   obtain⟨j,want⟩:=p;rw[hgd]at hg;simp only[Fj,aA]at hg;obtain⟨oj,hoj,t,ht,hg⟩:=hg;cases hg;simp only[At,R.Jz]at hc hon hoff;have hwant:Region.wanted o (yielded ops a.tmps)=(guardOf (σ.ge t) want).2:=by
    have hy:yielded ops a.tmps j=match a.tmps[t]? with|some (.bool b)=>some b|_=>none:=by
     grind [yielded]
    have henv:=h.env t;have hget:∀ b:Bool,a.tmps.getD t undef= .bool b->a.tmps[t]? =some (.bool b):=by
     intro b hb;rw[aAD]at hb;cases hh:a.tmps[t]? with
     | none=>rw[hh]at hb;cases hb
     | some v=>simp_all
    have hgc:(guardOf (σ.ge t) want).1:=by
     split at hc
     all_goals simp_all
    simp only[Region.wanted,hgd];rw[hy];generalize σ.ge t=d at henv hgc ⊢;cases d<;>try exact hgc.elim
    case bool b =>
     rw[hget b (BB (β:=β) (F:=F) henv)]
     grind [guardOf]
    case when p d =>
     cases d<;>try exact hgc.elim
     case bool b =>
      cases p with
      | true =>
       rw[hget b (BB (β:=β) (F:=F) (henv.1 rfl))];simp_all[guardOf]
      | false =>
       have hz:=henv.2 rfl;simp only[guardOf,Bool.false_and];have:∀ b:Bool,a.tmps[t]? ≠some (.bool b):=by
        intro b e;rw[aAD,e]at hz;cases hz
       simp_all
   rw[hwant];cases hq:(guardOf (σ.ge t) want).2 with
   | true =>
    simp only[hq,if_true,R.run_bind,R.run_pure]at hc hon hoff ⊢;exact hon dop hdop hdst rfl hc.2 rfl
   | false =>
    simp only[hq,aAY,if_false,R.BT]at hc hon hoff ⊢
    grind [Jf]
 ·cases he
theorem Fw {Γ:Al} (hΓ:∀ k sp,Γ k=some sp->Bm P F0 (k % 4096) sp) (h:Sim N Δ w0 F0 M B0 σ F β a w) {ops:Array Oper} {draw:Bool} {i:Nat} {o:Oper} {o':Ar} (hop:Cr P N ops draw i o=some o') {nv:Nat} (hnv:β nv=none)
  (hc:((At Γ nv o').run σ).c) (K:Act->World->Prop) (Q:Exit->Act->World->Prop)
  (hK:∀ a' w' F' β',Sim N Δ w0 F0 M B0 (σ.app ((At Γ nv o').run σ)) F' β' a' w'->Aw β β'->(∀ v,v≠nv->β' v=β v)->K a' w') :
  if Region.wanted o (yielded ops a.tmps)then o.wp P a w K Q else K (a.put o.dst undef) w :=
 Ka h hop hc K Q (λ_ hdop hdst e hc' e'=>JZ hΓ h hdop hdst hnv hc' K Q λa' w' F' β' hS=>hK a' w' F' β' (by simp_all))
  λhd e=>hK _ w F β (by rw[e];exact h.skip hd _) (Aw.refl _) λ_ _=>rfl
end
variable {e:TypeId} {off nv t g v i ty j np:Nat} {d z:D} {es ds es':List D} {o:Oper} {px x:Value} {L:Loc} {Γ:Al} {as:List Operand} {ys:List Arg} {ops:Array Oper} {draw:Bool} {o':Ar} {a:Act} {K:List (Nat×D)} {l:List (Nat×Spec)} {ws:List (Nat×Aa)} {F:Fz} {β:Bt} {rv:ResultVar} {fn:Func} {Mb:List Hd} {ptr:List (Nat×(Nat×Nat))} {xs:List Value} {sp:Spec} {dc:OX}
def S.get (σ:S):Key->D×Aa
 | .e t=>(σ.ge t,none)
 | .o g=>(.top,σ.go g)
theorem S.Kg (σ τ:S) (k:Key):σ.same τ k↔σ.get k=τ.get k:=by
 cases k<;>simp[S.same,S.get]
variable {σ:S}
def wrs (u:Out):List Key:=u.we.map (λx=>.e x.1)++u.wo.map (λx=>.o x.1)
theorem DL (σ:S) (u:Out) (k:Key) (h:k∉wrs u):(σ.app u).get k=σ.get k:=by
 cases k with
 | e t =>
  simp only[S.get,S.ge,S.app,Bq];cases hl:look u.we t with
  | none=>rfl
  | some d=>exact absurd (List.mem_append_left _ (aAW.2 ⟨_,Bj hl,rfl⟩)) h
 | o g =>
  simp only[S.get,S.go,S.app,Bq];cases hl:look u.wo g with
  | none=>rfl
  | some d=>exact absurd (List.mem_append_right _ (aAW.2 ⟨_,Bj hl,rfl⟩)) h
theorem CP {α:Type} {l:List (Nat×α)} (h:∃ x,(t,x)∈l):∃ x,look l t=some x:=by
 obtain⟨x,hx⟩:=h;cases hl:look l t with
 | none=>grind [En]
 | some y=>simp_all
theorem DK (σ τ:S) (u:Out) (k:Key) (h:k∈wrs u):(σ.app u).get k=(τ.app u).get k:=by
 cases k with
 | e t =>
  have:∃ d,look u.we t=some d:=by
   rcases aAU.1 h with h|h
   all_goals simp_all[CP]
  grind [S.get,S.ge,S.app,Bq]
 | o g =>
  have:∃ d,look u.wo g=some d:=by
   rcases aAU.1 h with h|h
   all_goals simp_all[CP]
  grind [S.get,S.go,S.app,Bq]
def AV (L:Nat->Bool):List Out->Nat->S->S
 | [],_,σ=>σ
 | u::r,i,σ=>AV L r (i+1) (if L i then σ.app u else σ)
theorem DO (L L':Nat->Bool) (k:Key):∀ (us:List Out) (i:Nat) (σ σ':S),(∀ (j:Nat) u,us[j]? =some u->k∈wrs u->L (i+j)=L' (i+j))->σ.get k=σ'.get k->(AV L us i σ).get k=(AV L' us i σ').get k
 | [],_,_,_,_,h=>h
 | u::us,i,σ,σ',hL,h=>by
  simp only[AV]
  refine DO L L' k us (i+1) _ _ (λj v hj hk=>by
   have:=hL (j+1) v (by simp_all) hk
   grind) ?_
  by_cases hm:k∈wrs u
  ·have h0:=hL 0 u rfl hm;simp only[Nat.add_zero]at h0;rw[<- h0];cases L i with
   | true=>simp only[if_true];grind [DK]
   | false=>simp_all
  grind [DL]
section
variable {N:Nat} {Δ:List Deferred} {w0:World} {F0:Fz} {M:Nat->Prop} {B0:Bt} {σ:S} {F:Fz} {β:Bt} {a:Act} {w:World} {P:Program}
theorem Sim.congr {σ':S} (h:Sim N Δ w0 F0 M B0 σ F β a w) (hk:∀ k,σ'.get k=σ.get k):Sim N Δ w0 F0 M B0 σ' F β a w:=by
 have he:∀ t,σ'.ge t=σ.ge t:=λt=>by have:=hk (.e t);grind [S.get]
 have ho:∀ g,σ'.go g=σ.go g:=λg=>by have:=hk (.o g);grind [S.get]
 refine{ nam:=h.nam,size:=h.size,defers:=h.defers,env:=λt=>by rw[he];exact h.env t,own:=?_,dist:=?_,sep:=?_,Ad:=(by obtain⟨φ,hφ⟩:=h.Ad;exact⟨φ,hφ.congr ho⟩),frz:=h.frz,fin:=h.fin,step:=h.step }
 ·intro g v o hg;rw[ho]at hg;exact h.own g v o hg
 ·intro g g' v v' o o' L L' b hg hg';rw[ho]at hg hg';exact h.dist g g' v v' o o' L L' b hg hg'
 ·intro g v o L b hg;rw[ho]at hg;exact h.sep g v o L b hg
def outs (Γ:Al):List Ar->Nat->S->List Out
 | [],_,_=>[]
 | o::r,nv,σ=>(At Γ nv o).run σ::outs Γ r (nv+1) (σ.app ((At Γ nv o).run σ))
theorem CQ (Γ:Al):∀ (ds:List Ar) (nv:Nat) (σ:S) (i:Nat) (L:Nat->Bool),(∀ j,L (i+j)=true) ->
  (outs Γ ds nv σ).length=ds.length/\(∀ K,Dw.wpOps Γ ds nv σ K->K (AV L (outs Γ ds nv σ) i σ)/\∀ u∈outs Γ ds nv σ,u.c)
 | [],nv,σ,i,L,hL=>⟨rfl,λK hK=>⟨hK,λu hu=>by cases hu⟩⟩
 | o::ds,nv,σ,i,L,hL=>by
  obtain⟨h1,h2⟩:=CQ Γ ds (nv+1) (σ.app ((At Γ nv o).run σ)) (i+1) L (λj=>by have:=hL (j+1);grind)
  refine⟨by grind [outs],λK hK=>?_⟩
  obtain⟨k1,k2⟩:=hK;obtain⟨k3,k4⟩:=h2 K k2;have hi:L i=true:=by have:=hL 0;omega
  grind [outs,AV]
theorem EY (Γ:Al):∀ (ds:List Ar) (nv:Nat) (σ:S) (i j:Nat) (o:Ar),ds[j]? =some o ->
  ∃ u,(outs Γ ds nv σ)[j]? =some u/\u=(At Γ (nv+j) o).run (AV (λq=>decide (q<i+j)) (outs Γ ds nv σ) i σ) /\
   (Cv Γ ds nv σ)[j]? =some ((At Γ (nv+j) o).rd (AV (λq=>decide (q<i+j)) (outs Γ ds nv σ) i σ),wrs u,o.after)
 | [],nv,σ,i,j,o,h=>by simp at h
 | o0::ds,nv,σ,i,j,o,h=>by
  rcases j with _|j
  ·simp only[aAG,Option.some.injEq]at h;subst h;have hz:∀ (us:List Out) (k:Nat) (τ:S),i<=k->AV (λq=>decide (q<i+0)) us k τ=τ:=by
    intro us
    induction us with
    | nil=>intro k τ _;rfl
    | cons u us ih =>
     intro k τ hk;simp only[AV]
     grind
   refine⟨_,rfl,?_,?_⟩
   ·simp_all
   ·rw[hz _ i σ (aAF _)];rfl
  ·simp only[aAK]at h;obtain⟨u,h1,h2,h3⟩:=EY Γ ds (nv+1) (σ.app ((At Γ nv o0).run σ)) (i+1) j o h;have e1:i+1+j=i+(j+1):=by omega
   have e2:nv+1+j=nv+(j+1):=by omega
   rw[e1,e2]at h2 h3;have hi:(decide (i<i+(j+1)))=true:=by simp
   simp_all[outs,AV,Cv]
inductive Dep (L:List (List Nat)):Nat->Nat->Prop
 | one {j e:Nat} {a:List Nat} (h:L[j]? =some a) (he:e∈a):Dep L j e
 | more {j e i:Nat} {a:List Nat} (h:L[j]? =some a) (he:e∈a) (hd:Dep L e i):Dep L j i
theorem HK (L:List (List Nat)):∀ (r acc:List (List Nat)) (pre:List (List Nat)),L=pre++r->pre.length=acc.length->(∀ j i,i∈acc.getD j []->Dep L j i)->∀ j i,i∈(JI acc r).getD j []->Dep L j i
 | [],acc,_,_,_,h=>h
 | a::r,acc,pre,hL,hlen,h=>by
  refine HK L r _ (pre++[a]) (by simp[hL]) (by simp[hlen]) (λj i hi=>?_)
  have ha:L[acc.length]? =some a:=by simp_all
  rcases aAc j acc.length with hj|hj|hj
  ·grind
  ·subst hj;rw[aAr,aAO (aAF _),Nat.sub_self]at hi;simp only[aAG,aAH,List.mem_eraseDups,aAU,List.mem_flatMap]at hi;rcases hi with hi|⟨e,he,hi⟩
   ·exact .one ha hi
   ·exact .more ha he (h e i hi)
  grind
theorem EJ {f:List (List Key×List Key×List Nat)} (h:DF f=true) {x y:List Key×List Key×List Nat} (hij:i<j) (hx:f[i]? =some x) (hy:f[j]? =some y) (hc:ApH x y=true):Dep (f.map λx=>x.2.2) j i:=by
 unfold DF HM at h;rw[aAJ]at h;have hj:j<f.length:=(aAE.1 hy).1;have h1:=h j (aAe.2 hj);rw[aAJ]at h1;have h2:=h1 i (aAe.2 hij);have ex:f.getD i ([],[],[])=x:=by simp_all
 have ey:f.getD j ([],[],[])=y:=by simp_all
 rw[ex,ey,hc]at h2;exact HK _ _ [] [] rfl rfl (λj i hi=>by simp at hi) j i (by simp_all)
theorem FJ {a b:List Key} {k:Key} (h1:k∈a) (h2:k∈b):meet a b=true:=by
 grind [meet]
theorem CU {ops:Array Oper} {draw:Bool}:∀ (l:List Oper) (i:Nat) (ds:List Ar),Bu P N ops draw i l=some ds->ds.length=l.length/\∀ (j:Nat) o,l[j]? =some o->∃ o',ds[j]? =some o'/\Cr P N ops draw (i+j) o=some o'
 | [],i,ds,h=>by
  grind [Bu]
 | o0::l,i,ds,h=>by
  simp only[Bu,aAB,aA]at h;obtain⟨o',ho',r,hr,he⟩:=h;cases he;obtain⟨k1,k2⟩:=CU l (i+1) r hr
  grind
theorem CI (h:Cr P N ops draw i o=some o'):o'.after=AA draw o/\∀ e∈AA draw o,e<i:=by
 unfold Cr at h;simp only[aA]at h
 grind
theorem Fl (p:Nat->Bool) (i:Nat):∀ l:List Nat,l.Nodup->i∈l->p i=true->l.countP p=l.countP (λj=>p j&&j != i)+1
 | [],_,h,_=>by cases h
 | x::l,hn,h,hp=>by
  simp only[List.nodup_cons]at hn
  by_cases hx:x=i
  ·grind [List.countP_congr]
  ·have hm:i∈l:=by
    grind
   have ih:=Fl p i l hn.2 hm hp
   grind
end
section
variable {N:Nat} {Δ:List Deferred} {w0:World} {F0:Fz} {M:Nat->Prop} {B0:Bt} {P:Program}
theorem FU (hΓ:∀ k sp,Γ k=some sp->Bm P F0 (k % 4096) sp) {ds:List Ar} (hds:Bu P N ops true 0 ops.toList=some ds) {n:Nat} {KD:S->Prop} (hw:Dw.wpOps Γ ds n σ KD) (hdraw:DF (Cv Γ ds n σ)=true) {Q:Exit->Act->World->Prop} (hQ:∀ τ F' β' a' w',Sim N Δ w0 F0 M B0 τ F' β' a' w'->(∀ v,n+ds.length<=v->β' v=none)->(∃ τ',KD τ'/\∀ k,τ'.get k=τ.get k)->Q .normal a' w') :
  ∀ (fuel:Nat) (listed:Array Bool) (F:Fz) (β:Bt) (a:Act) (w:World),listed.size=ops.size->(aBB ops.size).countP (λi=>!listed.getD i true)=fuel ->
   (∀ (j:Nat) o,ops[j]? =some o->listed.getD j true=true->∀ e∈AA true o,listed.getD e true=true) ->
   (∀ v,n<=v->β v≠none->v-n<ops.size/\listed.getD (v-n) true=true) ->
   Sim N Δ w0 F0 M B0 (AV (λi=>listed.getD i true) (outs Γ ds n σ) 0 σ) F β a w->wpAny P .any ops Q fuel listed a w:=by
 obtain⟨hlen,hget⟩:=CU ops.toList 0 ds hds;simp only[aAp]at hlen;have hall:=(CQ Γ ds n σ 0 (λ_=>true) (λ_=>rfl)).2 KD hw
 have hol:=(CQ Γ ds n σ 0 (λ_=>true) (λ_=>rfl)).1
 have hready:∀ (listed:Array Bool) i,i∈Region.ready .any ops listed↔i<ops.size/\listed.getD i true=false/\∃ o,ops[i]? =some o/\∀ e∈AA true o,listed.getD e false=true:=by
  intro listed i;simp only[Region.ready,aAb,aAe,aAP,aAt];constructor
  ·rintro⟨h1,h2,h3⟩;refine⟨h1,h2,ops[i],aAN h1,λe he=>?_⟩
   rw[aAN h1]at h3;simp only[aAo,aAH,aAi]at h3;simp only[AA,if_true,aAW,aAb]at he
   grind
  ·rintro⟨h1,h2,o,ho,h3⟩;refine⟨h1,h2,?_⟩;rw[ho];simp only[aAo,aAH,aAi];intro ed hed;cases hb:Region.binds .any ed with
   | false=>rfl
   | true =>
    have:=h3 ed.on (by
     simp only[AA,if_true,aAW,aAb]
     grind)
    simp_all
 have hafter:∀ (j:Nat) o,ops[j]? =some o->∀ e∈AA true o,e<j:=by
  intro j o ho;obtain⟨o',_,h2⟩:=hget j o (by simp_all)
  have:=(CI h2).2;simp_all
 have hnone:∀ (listed:Array Bool),listed.size=ops.size->Region.ready .any ops listed=[]->∀ i,i<ops.size->listed.getD i true=true:=by
  intro listed hsz hr i
  induction i using Nat.strongRecOn with
  | _ i ih =>
   grind [Region.ready]
 have hfin:∀ (listed:Array Bool) (F:Fz) (β:Bt) (a:Act) (w:World),listed.size=ops.size->(∀ i,i<ops.size->listed.getD i true=true)->(∀ v,n<=v->β v≠none->v-n<ops.size/\listed.getD (v-n) true=true) ->
   Sim N Δ w0 F0 M B0 (AV (λi=>listed.getD i true) (outs Γ ds n σ) 0 σ) F β a w->Q .normal a w:=by
  intro listed F β a w hsz hl hfr hS;refine hQ _ F β a w hS (λv hv=>?_) ⟨_,hall.1,λk=>?_⟩
  all_goals grind
 intro fuel
 induction fuel with
 | zero =>
  intro listed F β a w hsz hcount hclosed hfr hS;have hl:∀ i,i<ops.size->listed.getD i true=true:=by
   grind [List.countP_eq_zero]
  refine⟨?_,hfin listed F β a w hsz hl hfr hS⟩;rw[aAV]
  grind
 | succ fuel ih =>
  intro listed F β a w hsz hcount hclosed hfr hS;refine⟨λhr=>hfin listed F β a w hsz (hnone listed hsz hr) hfr hS,λi hi=>?_⟩
  obtain⟨hi1,hi2,o,ho,hdone⟩:=(hready listed i).1 hi;obtain⟨o',ho1,ho2⟩:=hget i o (by grind)
  simp only[aAf]at ho2;obtain⟨haf,_⟩:=CI ho2;obtain⟨u,u1,u2,u3⟩:=EY Γ ds n σ 0 i o' ho1;simp only[aAf]at u2 u3;have hdone':∀ e∈o'.after,listed.getD e true=true:=by
   intro e he;rw[haf]at he;have h1:=hdone e he;have hel:e<listed.size:=by
    have:=hafter i o ho e he;omega
   simpa[hel]using h1
  have hother:∀ (j:Nat) v,(outs Γ ds n σ)[j]? =some v->∃ oj,ops[j]? =some oj/\∃ oj',ds[j]? =some oj'/\oj'.after=AA true oj/\∃ rd,(Cv Γ ds n σ)[j]? =some (rd,wrs v,oj'.after):=by
   intro j v hv;have hj:j<ops.size:=by rw[<- hlen,<- hol];exact(aAE.1 hv).1
   obtain⟨oj',q1,q2⟩:=hget j ops[j] (by simp[hj])
   obtain⟨v',v1,_,v3⟩:=EY Γ ds n σ 0 j oj' q1;rw[hv]at v1;cases v1;exact⟨ops[j],aAN hj,oj',q1,(CI q2).1,_,v3⟩
  have hfeet:∀ (j:Nat) a,((Cv Γ ds n σ).map λx=>x.2.2)[j]? =some a->∃ oj,ops[j]? =some oj/\a=AA true oj:=by
   intro j a hja;rw[aAS,aAL]at hja;obtain⟨x,hx,rfl⟩:=hja;have hfl:∀ (ds:List Ar) (nv:Nat) (σ:S),(Cv Γ ds nv σ).length=(outs Γ ds nv σ).length:=by
    intro ds
    induction ds with
    | nil=>intro _ _;rfl
    | cons o r ih=>intro nv σ;simp[Cv,outs,ih]
   have hjl:j<(outs Γ ds n σ).length:=by rw[<- hfl];exact(aAE.1 hx).1
   obtain⟨oj,p1,oj',_,p3,rd,p4⟩:=hother j _ (aAC hjl);rw[hx]at p4;cases p4;exact⟨oj,p1,p3⟩
  have hdep:∀ (j q:Nat),Dep ((Cv Γ ds n σ).map λx=>x.2.2) j q->listed.getD j true=true->listed.getD q true=true:=by
   intro j q hd
   induction hd with
   | one h he =>
    intro hl;obtain⟨oj,p1,rfl⟩:=hfeet _ _ h;exact hclosed _ oj p1 hl _ he
   | more h he _ ih =>
    intro hl;obtain⟨oj,p1,rfl⟩:=hfeet _ _ h;exact ih (hclosed _ oj p1 hl _ he)
  have hlater:∀ (j:Nat) v (k:Key),i<j->(outs Γ ds n σ)[j]? =some v->k∈wrs v->(k∈(At Γ (n+i) o').rd (AV (λq=>decide (q<i)) (outs Γ ds n σ) 0 σ)\/k∈wrs u)->listed.getD j true=false:=by
   intro j v k hij hv hk hk';obtain⟨oj,p1,oj',_,p3,rd,p4⟩:=hother j v hv
   have hmem:=EJ hdraw hij u3 p4 (by
    unfold ApH;rcases hk' with hk'|hk'
    ·rw[FJ hk' hk];simp
    ·rw[FJ hk' hk];simp)
   cases hlj:listed.getD j true with
   | false=>rfl
   | true =>
    have:=hdep j i hmem hlj;rw[hi2]at this;cases this
  have hsame:∀ k∈(At Γ (n+i) o').rd (AV (λq=>decide (q<i)) (outs Γ ds n σ) 0 σ),(AV (λq=>decide (q<i)) (outs Γ ds n σ) 0 σ).same (AV (λq=>listed.getD q true) (outs Γ ds n σ) 0 σ) k:=by
   intro k hk;rw[S.Kg];refine DO _ _ k _ 0 σ σ (λj v hv hkv=>?_) rfl
   simp only[aAf];rcases aAc j i with hji|hji|hji
   ·have hlj:listed.getD j true=true:=by
     obtain⟨oj,p1,oj',_,_,rd,p4⟩:=hother j v hv;have hmem:=EJ hdraw hji p4 u3 (by unfold ApH;rw[FJ hkv hk];simp)
     cases hmem with
     | one h he =>
      rw[aAS,u3]at h;cases h;exact hdone' j he
     | more h he hd =>
      rw[aAS,u3]at h;cases h;exact hdep _ j hd (hdone' _ he)
    rw[hlj];simp[hji]
   ·subst hji;rw[hi2];simp
   ·rw[hlater j v k hji hv hkv (.inl hk)];have:¬ j<i:=by omega
    simp[this]
  obtain⟨hrun,_⟩:=R.local _ _ _ hsame;have hu:(At Γ (n+i) o').run (AV (λq=>listed.getD q true) (outs Γ ds n σ) 0 σ)=u:=by rw[hrun,<- u2]
  have hβi:β (n+i)=none:=by
   cases hb:β (n+i)with
   | none=>rfl
   | some L =>
    have:=(hfr (n+i) (by omega) (by rw[hb];simp)).2
    rw[show n+i-n=i by omega,hi2]at this
    cases this
  have huc:u.c:=hall.2 u (aAA u1);unfold wpOp;rw[ho];simp only
  have key:=Fw hΓ hS ho2 hβi (by rw[hu];exact huc) (wpAny P .any ops Q fuel (listed.setIfInBounds i true)) Q (λa' w' F' β' hS' hb1 hb2=>by
   have hsetne:∀ j,j≠i->(listed.setIfInBounds i true).getD j true=listed.getD j true:=λj hj=>getD_set_ne true (Ne.symm hj)
   have hset:(listed.setIfInBounds i true).getD i true=true:=by
    rw[aAD,Array.getElem?_setIfInBounds_self_of_lt (by omega)];rfl
   refine ih _ F' β' a' w' (by simpa using hsz) ?_ ?_ ?_ (hS'.congr λk=>?_)
   ·have hcl:=Fl (λj=>!listed.getD j true) i (aBB ops.size) List.nodup_range (aAe.2 hi1) (by rw[hi2];rfl)
    rw[hcount]at hcl;have:(aBB ops.size).countP (λj=>!(listed.setIfInBounds i true).getD j true)=(aBB ops.size).countP (λj=>(!listed.getD j true)&&j != i):=by
     apply List.countP_congr;intro j _
     by_cases hj:j=i
     ·subst hj;rw[hset];simp
     ·rw[hsetne j hj];simp[hj]
    omega
   ·intro j oj hoj hlj e he
    by_cases hj:j=i
    ·subst hj;rw[ho]at hoj;cases hoj;have h1:=hdone' e (by rw[haf];exact he)
     by_cases hei:e=j
     ·subst hei;exact hset
     ·rw[hsetne e hei];exact h1
    ·rw[hsetne j hj]at hlj;have h1:=hclosed j oj hoj hlj e he
     by_cases hei:e=i
     ·subst hei;exact hset
     ·rw[hsetne e hei];exact h1
   ·intro v hv hb
    by_cases hvi:v=n+i
    ·subst hvi;rw[show n+i-n=i by omega]
     exact⟨hi1,hset⟩
    ·rw[hb2 v hvi]at hb;obtain⟨h1,h2⟩:=hfr v hv hb;refine⟨h1,?_⟩;rw[hsetne _ (by omega)]
     exact h2
   ·rw[hu]
    by_cases hk:k∈wrs u
    ·
     have h2:∀ (us:List Out) (i0:Nat) (τ τ':S) (L:Nat->Bool) (q:Nat),us[q]? =some u->L (i0+q)=true->(∀ (j:Nat) v,q<j->us[j]? =some v->k∈wrs v->L (i0+j)=false)->(AV L us i0 τ).get k=(τ'.app u).get k:=by
      intro us
      induction us with
      | nil=>intro i0 τ τ' L q hq;simp at hq
      | cons v us ihu =>
       intro i0 τ τ' L q hq hL hlast;rcases q with _|q
       ·simp only[aAG,Option.some.injEq]at hq;subst hq;simp only[Nat.add_zero]at hL;simp only[AV,hL,if_true]
        have:=DO L (λ_=>false) k us (i0+1) (τ.app v) (τ.app v) (λj v' hj hk'=>by
         have:=hlast (j+1) v' (by omega) (by simpa using hj) hk'
         rw[show i0+(j+1)=i0+1+j by omega]at this
         exact this) rfl
        rw[this];have hid:∀ (us:List Out) (i:Nat) (τ:S),AV (λ_=>false) us i τ=τ:=by
         intro us
         induction us with
         | nil=>intro i τ;rfl
         | cons v us ih=>intro i τ;simp only[AV,aAY,if_false];exact ih _ _
        rw[hid];exact DK _ _ _ _ hk
       ·simp only[aAK]at hq;simp only[AV]
        exact ihu (i0+1) _ τ' L q hq (by rw[show i0+1+q=i0+(q+1)by omega];exact hL) (λj v' hj hv' hk'=>by
         rw[show i0+1+j=i0+(j+1)by omega]
         exact hlast (j+1) v' (by omega) (by simpa using hv') hk')
     exact h2 _ 0 σ (AV (λq=>listed.getD q true) (outs Γ ds n σ) 0 σ) _ i u1 (by rw[aAf];exact hset) (λj v hj hv hk'=>by
      simp only[aAf];rw[hsetne j (by omega)]
      exact hlater j v k hj hv hk' (.inr hk))
    ·rw[DL _ _ _ hk];refine DO _ _ k _ 0 σ σ (λj v hv hkv=>?_) rfl
     simp only[aAf];refine hsetne j ?_;rintro rfl;rw[u1]at hv;cases hv
     exact hk hkv)
  grind
theorem Hu {w:World} {K:Act->World->Prop} {Q Q':Exit->Act->World->Prop} (h:∀ e a w,e≠Exit.normal->Q' e a w->Q e a w) (hh:o.wp P a w K Q'):o.wp P a w K Q:=by
 unfold Oper.wp at *;generalize(execOp a.eval o).run P w=r at *;cases r with
 | ok n w' =>
  cases n<;>simp only[Oper.upon]at hh ⊢ <;>first|exact hh|exact Calls.mono hh λe w'' he=>by cases e<;>first|exact he|exact h _ _ _ (by simp) he|exact he.elim λa he=>he.elim λw he=>⟨a,w,h _ _ _ (by simp) he⟩
 | halt x w'=>cases x<;>simp only[Oper.upon]at hh ⊢ <;>first|exact hh|simp_all
theorem Br (listed:Array Bool) (i:Nat):i∈Region.ready .any ops listed↔i<ops.size/\listed.getD i true=false/\∃ o,ops[i]? =some o/\∀ e∈AA true o,listed.getD e false=true:=by
 simp only[Region.ready,aAb,aAe,aAP,aAt];constructor
 ·rintro⟨h1,h2,h3⟩;refine⟨h1,h2,ops[i],aAN h1,λe he=>?_⟩
  rw[aAN h1]at h3;simp only[aAo,aAH,aAi]at h3;simp only[AA,if_true,aAW,aAb]at he
  grind
 ·rintro⟨h1,h2,o,ho,h3⟩;refine⟨h1,h2,?_⟩;rw[ho];simp only[aAo,aAH,aAi];intro ed hed;cases hb:Region.binds .any ed with
  | false=>rfl
  | true =>
   have:=h3 ed.on (by
    simp only[AA,if_true,aAW,aAb]
    grind)
   simp_all
theorem FW {init:Array Oper} {listed:Array Bool} (hc:∀ (j:Nat) o,init[j]? =some o->listed.getD j false=true->∀ e∈AA true o,listed.getD e false=true) :
  ∀ (n:Nat) (A:List Nat),(∀ e∈A,listed.getD e false=true)->DE init n A=true->∀ j,j<n->listed.getD j false=true
 | 0,_,_,_,j,hj=>by omega
 | n+1,A,hA,h,j,hj=>by
  simp only[DE,aAP,List.contains_iff_mem]at h;have hn:=hA n h.1
  by_cases e:j=n
  ·simp_all
  ·refine FW hc n _ (λe he=>?_) h.2 j (by omega)
   grind
theorem JJ {init:Array Oper} {l:Oper} {Q Q':Exit->Act->World->Prop} (hg:∀ o∈(init.push l).toList,o.guard=none) (haf:∀ (j:Nat) o,init[j]? =some o->∀ e∈AA true o,e<j) (hcov:DE init init.size (AA true l)=true) (hl:∀ e∈AA true l,e<init.size)
  (hex:∀ e a w,e≠Exit.normal->Q' e a w->Q e a w) (hQ:∀ a w,Q' .normal a w->l.wp P a w (Q .normal) Q\/(l.asks P a w/\LetsOut Q)) :
  ∀ (fuel:Nat) (listed:Array Bool) (a:Act) (w:World),listed.size=init.size->(∀ (j:Nat) o,init[j]? =some o->listed.getD j false=true->∀ e∈AA true o,listed.getD e false=true) ->
   wpAny P .any init Q' fuel listed a w->wpAny P .any (init.push l) Q (fuel+1) (listed.push false) a w:=by
 have hop:∀ i,i<init.size->(init.push l)[i]? =init[i]?:=λi hi=>by grind
 have hopl:(init.push l)[init.size]? =some l:=by simp
 have hL:∀ (listed:Array Bool) (i:Nat) (b:Bool),listed.size=init.size->i<init.size->(listed.push false).getD i b=listed.getD i b:=λlisted i b hs hi=>by
  simp_all[aAz]
 have hLm:∀ (listed:Array Bool) (b:Bool),listed.size=init.size->(listed.push false).getD init.size b=false:=λlisted b hs=>by
  rw[<- hs];simp[aAD]
 have hft:∀ (listed:Array Bool) (i:Nat),listed.size=init.size->i<init.size->(listed.getD i true=listed.getD i false):=λlisted i hs hi=>by
  simp_all
 have key1:∀ (listed:Array Bool) (i:Nat),listed.size=init.size->i<init.size->(i∈Region.ready .any (init.push l) (listed.push false)↔i∈Region.ready .any init listed):=by
  intro listed i hs hi;rw[Br,Br,hL listed i true hs hi,hop i hi];simp only[aAx];refine⟨λ⟨_,h2,o,ho,h3⟩=>⟨hi,h2,o,ho,λe he=>?_⟩,λ⟨_,h2,o,ho,h3⟩=>⟨by omega,h2,o,ho,λe he=>?_⟩⟩
  ·rw[<- hL listed e false hs (by have:=haf i o ho e he;omega)];simp_all
  ·rw[hL listed e false hs (by have:=haf i o ho e he;omega)];exact h3 e he
 have key2:∀ (listed:Array Bool),listed.size=init.size->(∀ (j:Nat) o,init[j]? =some o->listed.getD j false=true->∀ e∈AA true o,listed.getD e false=true)->init.size∈Region.ready .any (init.push l) (listed.push false)->∀ j,j<init.size->listed.getD j false=true:=by
  intro listed hs hc hm;rw[Br]at hm;obtain⟨_,_,o,ho,h3⟩:=hm;rw[hopl]at ho;cases ho;exact FW hc _ _ (λe he=>by rw[<- hL listed e false hs (hl e he)];exact h3 e he) hcov
 have allr:∀ (listed:Array Bool),listed.size=init.size->(∀ j,j<init.size->listed.getD j false=true)->Region.ready .any init listed=[]:=by
  intro listed hs h;rw[aAV];intro i hi;rw[Br]at hi;obtain⟨h1,h2,_⟩:=hi;rw[hft listed i hs h1,h i h1]at h2;cases h2
 have never:∀ (listed:Array Bool),listed.size=init.size->Region.ready .any (init.push l) (listed.push false)≠[]:=by
  intro listed hs hr;have hall:∀ i,i<init.size->listed.getD i true=true:=by
   intro i
   induction i using Nat.strongRecOn with
   | _ i ih =>
    intro hi;cases hli:listed.getD i true with
    | true=>rfl
    | false =>
     exfalso;have:i∈Region.ready .any (init.push l) (listed.push false):=by
      rw[key1 listed i hs hi,Br];refine⟨hi,hli,init[i],aAN hi,λe he=>?_⟩
      have hlt:=haf i _ (aAN hi) e he;rw[<- hft listed e hs (by omega)]
      exact ih e hlt (by omega)
     rw[hr]at this;cases this
  have:init.size∈Region.ready .any (init.push l) (listed.push false):=by
   rw[Br];refine⟨by simp,hLm listed true hs,l,hopl,λe he=>?_⟩
   rw[hL listed e false hs (hl e he),<- hft listed e hs (hl e he)];exact hall e (hl e he)
  rw[hr]at this;cases this
 have lastStep:∀ (k:Nat) (listed:Array Bool) (a:Act) (w:World),listed.size=init.size->(∀ j,j<init.size->listed.getD j false=true)->Q' .normal a w ->
   wpOp P (init.push l) Q init.size (wpAny P .any (init.push l) Q k ((listed.push false).setIfInBounds init.size true)) a w:=by
  intro k listed a w hs hall hq;have hr:Region.ready .any (init.push l) ((listed.push false).setIfInBounds init.size true)=[]:=by
   rw[aAV];intro i hi;rw[Br]at hi;obtain⟨h1,h2,_⟩:=hi;simp only[aAx]at h1
   by_cases e:i=init.size
   ·subst e;rw[<- hs]at h2;simp[aAD]at h2
   ·have h3:((listed.push false).setIfInBounds init.size true).getD i true=listed.getD i true:=by
     simp only[aAD,aAg,if_neg (Ne.symm e),aAz (show i<listed.size by omega),aAN (show i<listed.size by omega)]
    grind
  unfold wpOp;rw[hopl];have hgl:l.guard=none:=hg l (by simp)
  have hw:Region.wanted l (yielded (init.push l) a.tmps)=true:=by grind [Region.wanted]
  simp only[hw,if_true];refine(hQ a w hq).imp (Oper.wp_mono λa w hq=>?_) id
  cases k with
  | zero=>exact⟨hr,hq⟩
  | succ k=>exact⟨λ_=>hq,λi hi=>by grind⟩
 intro fuel
 induction fuel with
 | zero =>
  intro listed a w hs hc ⟨h1,h2⟩;refine⟨λe=>(never listed hs e).elim,λi hi=>?_⟩
  have hi':i<init.size+1:=by have:=((Br _ _).1 hi).1;simpa using this
  by_cases e:i=init.size
  ·subst e;exact lastStep 0 listed a w hs (key2 listed hs hc hi) h2
  ·rw[key1 listed i hs (by omega),h1]at hi
   cases hi
 | succ fuel ih =>
  intro listed a w hs hc ⟨h1,h2⟩;refine⟨λe=>(never listed hs e).elim,λi hi=>?_⟩
  have hi':i<init.size+1:=by have:=((Br _ _).1 hi).1;simpa using this
  by_cases e:i=init.size
  ·subst e;have hall:=key2 listed hs hc hi;exact lastStep _ listed a w hs hall (h1 (allr listed hs hall))
  ·have hlt:i<init.size:=by omega
   have hr:=(key1 listed i hs hlt).1 hi;have hk:=h2 i hr;obtain⟨_,hli,o,ho,hdone⟩:=(Br _ _).1 hr;have hset:(listed.push false).setIfInBounds i true=(listed.setIfInBounds i true).push false:=by
    apply Array.ext';simp only[Array.toList_setIfInBounds,Array.toList_push];rw[List.set_append_left _ _ (by simpa using(show i<listed.size by omega))]
   have hc':∀ (j:Nat) o,init[j]? =some o->(listed.setIfInBounds i true).getD j false=true->∀ e∈AA true o,(listed.setIfInBounds i true).getD e false=true:=by
    intro j oj hj hjl e he;have hej:=haf j oj hj e he;have up:listed.getD e false=true->(listed.setIfInBounds i true).getD e false=true:=λh=>by
     by_cases q:i=e
     ·subst q;simp[aAD,show i<listed.size by omega]
     ·simpa[aAD,aAg,q]using h
    by_cases q:i=j
    ·subst q;rw[ho]at hj;cases hj;exact up (hdone e he)
    ·refine up (hc j oj hj ?_ e he);simpa[aAD,aAg,q]using hjl
   have hgo:o.guard=none:=hg o (by
    have:=Array.mem_of_getElem? ho
    simp[this])
   unfold wpOp at hk ⊢;rw[hop i hlt];rw[ho]at hk ⊢;simp only[Region.wanted,hgo,if_true]at hk ⊢;rw[hset];refine hk.imp (λhk=>Hu hex (Oper.wp_mono (λa w hk=>ih _ a w (by simpa using hs) hc' hk) hk)) λhk=>⟨hk.1,?_⟩
   obtain⟨a',w',h⟩:=hk.2;exact⟨a',w',hex _ _ _ (by simp) h⟩
end
theorem BA (g g':Nat):∀ l:List D,Fb g g' l=l.map (ren g g')
 | []=>rfl
 | d::r=>by simp[Fb,BA g g' r]
theorem Bi (g v:Nat) (z:D):∀ l:List D,BU g v z l=l.map (frp g v z)
 | []=>rfl
 | d::r=>by simp[BU,Bi g v z r]
section
variable {N:Nat} {Δ:List Deferred} {w0:World} {F0:Fz} {M:Nat->Prop} {B0:Bt} {σ:S} {F:Fz} {β:Bt} {a:Act} {w:World}
theorem KN (g g':Nat) (h:Fro F d x):Fro F (ren g g' d) x:=by
 have key:∀ (cs:List D) (vs:List Value),(∀ (j:Nat) c v,cs[j]? =some c->vs[j]? =some v->Fro F (ren g g' c) v)->∀ (j:Nat) c v,(Fb g g' cs)[j]? =some c->vs[j]? =some v->Fro F c v:=by
  grind [BA]
 induction h with
 | agg cs vs hl h1 _ ih=>exact .agg _ vs (by grind [BA]) h1 (key cs vs ih)
 | clo f cs vs hl _ ih=>exact .clo f _ vs (by grind [BA]) (key cs vs ih)
 | tup cs vs hl _ ih=>exact .tup _ vs (by grind [BA]) (key cs vs ih)
 | top v=>exact .top v
 | row s ty es v=>exact .row s ty es v
 | hole nm u n v=>exact .hole nm u n v
 | int k n=>exact .int k n
 | bool b=>exact .bool b
 | str s=>exact .str s
 | nils=>exact .nils
 | nilf=>exact .nilf
 | nilp=>exact .nilp
 | sl0 a c=>exact .sl0 a c
 | sl es b o c s vf hc hs hF h1 h _=>exact .sl es b o c s vf hc hs hF h1 h
 | fptr e b o off vf hF h1 h _=>exact .fptr e b o off vf hF h1 h
theorem HZ (g g':Nat) (h:Ref F β d x):Ref F β (ren g g' d) x:=by
 cases d<;>first|exact h|exact Ref.Af (KN g g' h)
theorem AQ (g g':Nat) (h:Cel F β d x):Cel F β (ren g g' d) x:=by
 by_cases hcl:∃ f cs,d= .clo f cs
 case neg =>
  have h':Ref F β d x:=by cases d<;>first|exact h|simp_all
  grind [Cel.BZ,HZ]
 obtain⟨f,cs,rfl⟩:=hcl;obtain⟨vs,rfl,hl,hv⟩:=h;refine⟨vs,rfl,by grind [BA],λj c v hc hv'=>?_⟩
 grind [BA,HZ]
theorem AY (g g':Nat) (h:Val F β d x):Val F β (ren g g' d) x:=by
 cases d with
 | agg cs =>
  obtain⟨vs,rfl,hl,h1,hv⟩:=h;refine⟨vs,rfl,by grind [BA],h1,λj c v' hc hv'=>?_⟩
  grind [BA,AQ]
 | tup cs =>
  obtain⟨vs,rfl,hl,hv⟩:=h;refine⟨vs,rfl,by grind [BA],λj c v' hc hv'=>?_⟩
  grind [BA,AQ]
 | top =>exact Val.Am (AQ g g' (show Cel F β (.top ) x from h))
 | int x0 x1=>exact Val.Am (AQ g g' (show Cel F β (.int x0 x1) x from h))
 | bool x0=>exact Val.Am (AQ g g' (show Cel F β (.bool x0) x from h))
 | str x0=>exact Val.Am (AQ g g' (show Cel F β (.str x0) x from h))
 | sl x0=>exact Val.Am (AQ g g' (show Cel F β (.sl x0) x from h))
 | nils =>exact Val.Am (AQ g g' (show Cel F β (.nils ) x from h))
 | osl x0 x1 x2 x3=>exact Val.Am (AQ g g' (show Cel F β (.osl x0 x1 x2 x3) x from h))
 | optr x0 x1 x2 x3=>exact Val.Am (AQ g g' (show Cel F β (.optr x0 x1 x2 x3) x from h))
 | fptr x0 x1=>exact Val.Am (AQ g g' (show Cel F β (.fptr x0 x1) x from h))
 | clo x0 x1=>exact Val.Am (AQ g g' (show Cel F β (.clo x0 x1) x from h))
 | nilf =>exact Val.Am (AQ g g' (show Cel F β (.nilf ) x from h))
 | nilp=>exact Val.Am (AQ g g' (show Cel F β (.nilp) x from h))
 | when x0 x1=>exact Val.Am (AQ g g' (show Cel F β (.when x0 x1) x from h))
 | row x0 x1 x2=>exact Val.Am (AQ g g' (show Cel F β (.row x0 x1 x2) x from h))
 | hole x0 x1 x2=>exact Val.Am (AQ g g' (show Cel F β (.hole x0 x1 x2) x from h))
theorem KI (g g':Nat) (h:Env F β d x):Env F β (ren g g' d) x:=by
 cases d with
 | top =>exact Env.Ai (AY g g' (show Val F β (.top ) x from h))
 | int x0 x1=>exact Env.Ai (AY g g' (show Val F β (.int x0 x1) x from h))
 | bool x0=>exact Env.Ai (AY g g' (show Val F β (.bool x0) x from h))
 | str x0=>exact Env.Ai (AY g g' (show Val F β (.str x0) x from h))
 | agg x0=>exact Env.Ai (AY g g' (show Val F β (.agg x0) x from h))
 | sl x0=>exact Env.Ai (AY g g' (show Val F β (.sl x0) x from h))
 | nils =>exact Env.Ai (AY g g' (show Val F β (.nils ) x from h))
 | osl x0 x1 x2 x3=>exact Env.Ai (AY g g' (show Val F β (.osl x0 x1 x2 x3) x from h))
 | optr x0 x1 x2 x3=>exact Env.Ai (AY g g' (show Val F β (.optr x0 x1 x2 x3) x from h))
 | fptr x0 x1=>exact Env.Ai (AY g g' (show Val F β (.fptr x0 x1) x from h))
 | clo x0 x1=>exact Env.Ai (AY g g' (show Val F β (.clo x0 x1) x from h))
 | nilf =>exact Env.Ai (AY g g' (show Val F β (.nilf ) x from h))
 | nilp=>exact Env.Ai (AY g g' (show Val F β (.nilp) x from h))
 | tup x0=>exact Env.Ai (AY g g' (show Val F β (.tup x0) x from h))
 | row x0 x1 x2=>exact Env.Ai (AY g g' (show Val F β (.row x0 x1 x2) x from h))
 | hole x0 x1 x2=>exact Env.Ai (AY g g' (show Val F β (.hole x0 x1 x2) x from h))
 | when p d=>exact h
structure GD (F':Fz) (β:Bt) (v:Nat) (z:D):Prop where
 at_:∀ L b off,β v=some L->L.b=some b->Fro F' (.fptr z off) (.pointer (some ⟨b,off,none⟩))
theorem KM (h:Fro F d x):Fro F (frp g v z d) x:=by
 have key:∀ (cs:List D) (vs:List Value),(∀ (j:Nat) c v',cs[j]? =some c->vs[j]? =some v'->Fro F (frp g v z c) v')->∀ (j:Nat) c v',(BU g v z cs)[j]? =some c->vs[j]? =some v'->Fro F c v':=by
  grind [Bi]
 induction h with
 | agg cs vs hl h1 _ ih=>exact .agg _ vs (by grind [Bi]) h1 (key cs vs ih)
 | clo f cs vs hl _ ih=>exact .clo f _ vs (by grind [Bi]) (key cs vs ih)
 | tup cs vs hl _ ih=>exact .tup _ vs (by grind [Bi]) (key cs vs ih)
 | top v=>exact .top v
 | row s ty es v=>exact .row s ty es v
 | hole nm u n v=>exact .hole nm u n v
 | int k n=>exact .int k n
 | bool b=>exact .bool b
 | str s=>exact .str s
 | nils=>exact .nils
 | nilf=>exact .nilf
 | nilp=>exact .nilp
 | sl0 a c=>exact .sl0 a c
 | sl es b o c s vf hc hs hF h1 h _=>exact .sl es b o c s vf hc hs hF h1 h
 | fptr e b o off vf hF h1 h _=>exact .fptr e b o off vf hF h1 h
theorem HY (hz:GD F β v z) (h:Ref F β d x):Ref F β (frp g v z d) x:=by
 cases d<;>first|exact h|exact Ref.Af (KM h)|skip
 rename_i k u i off;simp only[frp];cases hb:(Nat.beq k g&&Nat.beq u v&&Nat.beq i 0)with
 | false=>exact h
 | true =>
  simp only[aAP]at hb;obtain⟨⟨_,h2⟩,h3⟩:=hb;have h2:=aAk h2;have h3:=aAk h3;subst h2;subst h3;obtain⟨L,b,hL,hb,rfl⟩:=h;have:=hz.at_ L b off hL hb;simp_all[Ref.Af]
theorem AL (hz:GD F β v z) (h:Cel F β d x):Cel F β (frp g v z d) x:=by
 by_cases hcl:∃ f cs,d= .clo f cs
 case neg =>
  have h':Ref F β d x:=by cases d<;>first|exact h|simp_all
  grind [Cel.BZ,HY]
 obtain⟨f,cs,rfl⟩:=hcl;obtain⟨vs,rfl,hl,hv⟩:=h;refine⟨vs,rfl,by grind [Bi],λj c v' hc hv'=>?_⟩
 grind [Bi,HY]
theorem AX (hz:GD F β v z) (h:Val F β d x):Val F β (frp g v z d) x:=by
 cases d with
 | agg cs =>
  obtain⟨vs,rfl,hl,h1,hv⟩:=h;refine⟨vs,rfl,by grind [Bi],h1,λj c v' hc hv'=>?_⟩
  grind [Bi,AL]
 | tup cs =>
  obtain⟨vs,rfl,hl,hv⟩:=h;refine⟨vs,rfl,by grind [Bi],λj c v' hc hv'=>?_⟩
  grind [Bi,AL]
 | top =>exact Val.Am (AL hz (show Cel F β (.top ) x from h))
 | int x0 x1=>exact Val.Am (AL hz (show Cel F β (.int x0 x1) x from h))
 | bool x0=>exact Val.Am (AL hz (show Cel F β (.bool x0) x from h))
 | str x0=>exact Val.Am (AL hz (show Cel F β (.str x0) x from h))
 | sl x0=>exact Val.Am (AL hz (show Cel F β (.sl x0) x from h))
 | nils =>exact Val.Am (AL hz (show Cel F β (.nils ) x from h))
 | osl x0 x1 x2 x3=>exact Val.Am (AL hz (show Cel F β (.osl x0 x1 x2 x3) x from h))
 | optr x0 x1 x2 x3 =>
  exact Val.Am (AL (g:=g) hz (show Cel F β (.optr x0 x1 x2 x3) x from h))
 | fptr x0 x1=>exact Val.Am (AL hz (show Cel F β (.fptr x0 x1) x from h))
 | clo x0 x1=>exact Val.Am (AL hz (show Cel F β (.clo x0 x1) x from h))
 | nilf =>exact Val.Am (AL hz (show Cel F β (.nilf ) x from h))
 | nilp=>exact Val.Am (AL hz (show Cel F β (.nilp) x from h))
 | when x0 x1=>exact Val.Am (AL hz (show Cel F β (.when x0 x1) x from h))
 | row x0 x1 x2=>exact Val.Am (AL hz (show Cel F β (.row x0 x1 x2) x from h))
 | hole x0 x1 x2=>exact Val.Am (AL hz (show Cel F β (.hole x0 x1 x2) x from h))
theorem KH (hz:GD F β v z) (h:Env F β d x):Env F β (frp g v z d) x:=by
 cases d with
 | top =>exact Env.Ai (AX hz (show Val F β (.top ) x from h))
 | int x0 x1=>exact Env.Ai (AX hz (show Val F β (.int x0 x1) x from h))
 | bool x0=>exact Env.Ai (AX hz (show Val F β (.bool x0) x from h))
 | str x0=>exact Env.Ai (AX hz (show Val F β (.str x0) x from h))
 | agg x0=>exact Env.Ai (AX hz (show Val F β (.agg x0) x from h))
 | sl x0=>exact Env.Ai (AX hz (show Val F β (.sl x0) x from h))
 | nils =>exact Env.Ai (AX hz (show Val F β (.nils ) x from h))
 | osl x0 x1 x2 x3=>exact Env.Ai (AX hz (show Val F β (.osl x0 x1 x2 x3) x from h))
 | optr x0 x1 x2 x3=>exact Env.Ai (AX hz (show Val F β (.optr x0 x1 x2 x3) x from h))
 | fptr x0 x1=>exact Env.Ai (AX hz (show Val F β (.fptr x0 x1) x from h))
 | clo x0 x1=>exact Env.Ai (AX hz (show Val F β (.clo x0 x1) x from h))
 | nilf =>exact Env.Ai (AX hz (show Val F β (.nilf ) x from h))
 | nilp=>exact Env.Ai (AX hz (show Val F β (.nilp) x from h))
 | tup x0=>exact Env.Ai (AX hz (show Val F β (.tup x0) x from h))
 | row x0 x1 x2=>exact Env.Ai (AX hz (show Val F β (.row x0 x1 x2) x from h))
 | hole x0 x1 x2=>exact Env.Ai (AX hz (show Val F β (.hole x0 x1 x2) x from h))
 | when p d=>exact h
theorem GQ (f:D->D) (hf:f .top= .top) (e:List (Nat×D)) (o:List (Nat×Aa)) (n t:Nat):(S.mk (e.map λp=>(p.1,f p.2)) o n).ge t=f ((S.mk e o n).ge t):=by
 simp only[S.ge]
 induction e with
 | nil=>grind [look]
 | cons p e ih =>
  grind [look]
theorem IJ {φ:Nat->Nat->Nat->Nat->Prop} (hφ:Ay F β w0.heap.size M σ w φ) {o:Own} (hok:Au F β w L o) (hvar:o.var=false) (hfz:o.fz=false) {n:Nat} (hg:σ.go g=some (v,o)) (hx:Ref F β (.osl g v 0 n) x) (hL:β v=some L) (hn:n<=o.es.length) (hp:(Ad g=true/\∀ e∈o.es,∀ c∈cells e,∀ nm u n,c≠ .hole nm u n)\/∀ e∈o.es,AO e=true):Bd F w (λb=>L.b=some b\/∃ i j,φ g i j b) o.s o.ty (o.es.take n) x:=by
 obtain⟨L',A,hL',rfl,hcap,hA,_⟩:=hx;rw[hL]at hL';cases hL';obtain⟨e1,e2,e3,e4,e5,e6⟩:=hok;have hA:=hA rfl;subst hA;cases hb:L.b with
 | none =>
  rw[hb]at e6;have hn0:n=0:=by omega
  subst hn0;have hc0:L.cap-0=0:=by omega
  rw[hc0];simp only[Option.map_none,List.take_zero];exact .nil _ _ _ e2
 | some b =>
  rw[hb]at e6;obtain⟨C,hC,hCs,hcell⟩:=e6;have hlen:(o.es.take n).length=n:=by simp;omega
  have hidx:∀ (k:Nat) e,(o.es.take n)[k]? =some e->o.es[k]? =some e:=by
   grind
  have hx':∀ (i j:Nat) e d,(o.es.take n)[i]? =some e->(cells e)[j]? =some d->C[i*o.s+j]? =some ((C[i*o.s+j]?).getD undef)/\((C[i*o.s+j]?).getD undef).oneCell'=true/\Fro F d ((C[i*o.s+j]?).getD undef):=by
   grind
  have:=Bd.row (F:=F) (w:=w) (λb'=>some b=some b'\/∃ i j,φ g i j b') o.s o.ty (o.es.take n) b L.cap C (λi j=>φ g i j) (λi j=>(C[i*o.s+j]?).getD undef) e2 (by omega) (by simp_all) (λe he=>e5 e (aAm he)) hC hCs (.inl rfl)
   hx'
   (λi j e s' ty' es' he hj=>by
    rcases hp with⟨hr,_⟩|hp
    ·exact hφ.row g v o L b C i j e _ s' ty' es' hr hg hfz hL hb hC (hidx i e he) hj (hx' i j e _ he hj).1
    ·have:=aAJ.1 (hp e (aAA (hidx i e he))) _ (aAA hj)
     cases this)
   (λi j e nm u n' he hj=>by
    rcases hp with⟨_,hp⟩|hp
    ·grind
    ·have:=aAJ.1 (hp e (aAA (hidx i e he))) _ (aAA hj)
     cases this)
   (λi j b' hb'=>⟨.inr ⟨i,j,hb'⟩,λe=>by subst e;exact hφ.sep g i j _ g v o L hb' hg hfz hL hb⟩) (λi j i' j' b' h1 h2=>(hφ.dis _ _ _ _ _ _ _ h1 h2).2)
  simp_all
theorem Kd (h:Sim N Δ w0 F0 M B0 σ F β a w) {g' v' m:Nat} {og o':Own} {c:D} (hg:σ.go g=some (v,og)) (hr:Ad g=true) (hfz:og.fz=false) (hi:i<og.es.length) (hc:(cells (og.es.getD i .top))[off]? =some c) (hh:c= .hole g' v' m\/(c= .osl g' v' 0 m/\og.var=true)) (hg':σ.go g'=some (v',o')) (hfz':o'.fz=false) (hvar:o'.var=false) (hm:m<=o'.es.length) (hp:(Ad g'=true/\∀ e∈o'.es,∀ c∈cells e,∀ nm u n,c≠ .hole nm u n)\/∀ e∈o'.es,AO e=true) (hne:g≠g') :
  Sim N Δ w0 F0 M B0 ⟨σ.e,(g,some (v,{ og with es:=og.es.set i (Ps (og.es.getD i .top) off [.row o'.s o'.ty (o'.es.take m)]) }))::(g',none)::σ.o,σ.n⟩ F β a w:=by
 obtain⟨φ,hφ⟩:=h.Ad;obtain⟨L,hL,_,hk⟩:=h.own g v og hg;obtain⟨e1,e2,e3,e4,e5,e6⟩:=hk hfz;have hget:og.es[i]? =some (og.es.getD i .top):=by simp[hi]
 have hoff:off<(cells (og.es.getD i .top)).length:=(aAE.1 hc).1;cases hb:L.b with
 | none =>
  simp_all
 | some b =>
 rw[hb]at e6;obtain⟨C,hC,hCs,hcell⟩:=e6;obtain⟨x,x1,x2,x3⟩:=hcell i off _ _ hget hc;obtain⟨L',hL',_,hk'⟩:=h.own g' v' o' hg';have hok':=hk' hfz';have hx:Ref F β (.osl g' v' 0 m) x:=by
  rcases hh with rfl|⟨rfl,hv⟩
  ·exact hφ.hole g v og L b C i off _ x _ v' m hr hg hfz hL hb hC hget hc x1
  ·rw[if_pos hv]at x3;exact x3
 have hrat:=IJ hφ hok' hvar hfz' hg' hx hL' hm hp;obtain⟨on,hon⟩:∃ on:Own,on={ og with es:=og.es.set i (Ps (og.es.getD i .top) off [.row o'.s o'.ty (o'.es.take m)]) }:=⟨_,rfl⟩
 obtain⟨og1,og2,og3,og4⟩:on.fz=false/\on.var=og.var/\on.s=og.s/\on.ty=og.ty:=by simp_all
 have hogc:∀ (i' j':Nat) e d,on.es[i']? =some e->(cells e)[j']? =some d->(i'=i/\j'=off/\d= .row o'.s o'.ty (o'.es.take m))\/(¬ (i'=i/\j'=off)/\∃ e',og.es[i']? =some e'/\(cells e')[j']? =some d):=by
  intro i' j' e d he hd;subst hon;simp only at he
  by_cases hii:i'=i
  ·subst hii;rw[aAT hi]at he;cases he;obtain⟨_,q2⟩:=BH (d:=.row o'.s o'.ty (o'.es.take m)) hoff rfl j'
   grind
  grind
 have honok:Au F β w L on:=by
  refine⟨by omega,by omega,by simp_all,by simp_all,λe he=>?_,?_⟩
  ·subst hon;simp only at he ⊢;rcases aAZ he with hm'|hm'
   ·exact e5 e hm'
   ·subst hm';rw[(BH (d:=.row o'.s o'.ty (o'.es.take m)) hoff rfl 0).1];exact e5 _ (aAA hget)
  ·rw[hb];refine⟨C,by rw[og4];exact hC,by simp_all,λi' j' e d he hd=>?_⟩
   rw[og3,og2];rcases hogc i' j' e d he hd with⟨rfl,rfl,rfl⟩|⟨_,e',k1,k2⟩
   ·refine⟨x,x1,x2,?_⟩;split
    ·exact Cel.Af (.row _ _ _ _)
    ·exact .row _ _ _ _
   ·exact hcell i' j' e' d k1 k2
 rw[<- hon];have hgo:∀ k u q,(S.mk σ.e ((g,some (v,on))::(g',none)::σ.o) σ.n).go k=some (u,q)->(k=g/\u=v/\q=on)\/(k≠g/\k≠g'/\σ.go k=some (u,q)):=by
  intro k u q hk;rw[Cc]at hk;split at hk
  ·rename_i e;cases hk;exact .inl ⟨e,rfl,rfl⟩
  ·rename_i n1;rw[Cc]at hk;split at hk
   ·cases hk
   ·rename_i n2;exact .inr ⟨n1,n2,hk⟩
 refine h.change (row:=λx=>x=b) rfl rfl rfl (aAF _) (λ_ _ _=>rfl) ?_ (NX.refl _) (λ_ _ _ _=>rfl) h.frz h.fin (Aw.refl _) h.size h.defers h.env ?_ ?_ ?_
 ·rintro b' rfl;exact(h.sep g v og L b' hg hfz hL hb).2.2.imp id And.left
 ·intro k u q hk;rcases hgo k u q hk with⟨rfl,rfl,rfl⟩|⟨n1,n2,hk⟩
  ·refine .inr ⟨L,hL,og1,honok,λb' hb'=>?_⟩
   obtain⟨s1,s2,s3⟩:=h.sep k u og L b' hg hfz hL hb';rw[hb]at hb';cases hb';exact⟨s1,s2,s3,.inl rfl⟩
  ·refine .inl ⟨hk,λL1 b1 hf hL1 hb1 e=>?_⟩
   subst e;exact n1 (h.dist k g u v q og L1 L b1 hk hg hf hfz hL1 hL hb1 hb)
 ·intro g1 g2 v1 v2 o1 o2 L1 L2 b' hg1 hg2 hf1 hf2 hL1 hL2 hb1 hb2 _;have key:∀ k u q,(S.mk σ.e ((g,some (v,on))::(g',none)::σ.o) σ.n).go k=some (u,q)->∃ q',σ.go k=some (u,q')/\q'.fz=q.fz:=by
   grind
  obtain⟨p1,q1,r1⟩:=key _ _ _ hg1;obtain⟨p2,q2,r2⟩:=key _ _ _ hg2;exact h.dist g1 g2 v1 v2 p1 p2 L1 L2 b' q1 q2 (r1.trans hf1) (r2.trans hf2) hL1 hL2 hb1 hb2
 ·intro _ _
  let K:Nat->Prop:=λb'=>L'.b=some b'\/∃ i j,φ g' i j b'
  let φ':Nat->Nat->Nat->Nat->Prop:=λg1 i1 j1 b'=>(g1=g/\i1=i/\j1=off/\K b')\/(¬ (g1=g/\i1=i/\j1=off)/\g1≠g'/\φ g1 i1 j1 b')
  have hKs:∀ b' k u q L1,K b'->k≠g'->σ.go k=some (u,q)->q.fz=false->β u=some L1->L1.b≠some b':=by
   rintro b' k u q L1 (hK|⟨i1,j1,hK⟩) hk hgk hf hL1 hb1
   ·exact hk (h.dist k g' u v' q o' L1 L' b' hgk hg' hf hfz' hL1 hL' hb1 hK)
   ·exact hφ.sep g' i1 j1 b' k u q L1 hK hgk hf hL1 hb1
  have hKφ:∀ b' g1 i1 j1,K b'->g1≠g'->¬ φ g1 i1 j1 b':=by
   rintro b' g1 i1 j1 (hK|⟨i2,j2,hK⟩) hk h1
   ·exact hφ.sep g1 i1 j1 b' g' v' o' L' h1 hg' hfz' hL' hK
   ·exact hk (hφ.dis _ _ _ _ _ _ _ h1 hK).1
  refine⟨φ',?_,?_,?_,?_,?_,?_,?_⟩
  ·intro k u q L1 b1 C1 i' j' e y s ty es hr' hk hf' hL1 hb1 hC1 he hj hy;rcases hgo k u q hk with⟨rfl,rfl,rfl⟩|⟨n1,n2,hk⟩
   ·rw[hL]at hL1;cases hL1;rw[hb]at hb1;cases hb1;rw[og4]at hC1;rw[og3]at hy;rcases hogc i' j' e _ he hj with⟨rfl,rfl,z⟩|⟨z0,e',z1,z2⟩
    ·cases z;rw[hC]at hC1;cases hC1;rw[x1]at hy;cases hy;exact hrat.keep (NX.refl _) (λ_ _=>rfl) (λb' hb'=>.inl ⟨rfl,rfl,rfl,hb'⟩)
    ·exact(hφ.row k u og _ b C1 i' j' e' y s ty es hr' hg hfz hL hb hC1 z1 z2 hy).keep (NX.refl _) (λ_ _=>rfl) (λb' hb'=>.inr ⟨λe=>z0 e.2,hne,hb'⟩)
   ·exact(hφ.row k u q L1 b1 C1 i' j' e y s ty es hr' hk hf' hL1 hb1 hC1 he hj hy).keep (NX.refl _) (λ_ _=>rfl) (λb' hb'=>.inr ⟨λe=>n1 e.1,n2,hb'⟩)
  ·intro k u q L1 b1 C1 i' j' e y nm u' n' hr' hk hf' hL1 hb1 hC1 he hj hy;rcases hgo k u q hk with⟨rfl,rfl,rfl⟩|⟨n1,n2,hk⟩
   ·rw[hL]at hL1;cases hL1;rw[hb]at hb1;cases hb1;rw[og4]at hC1;rw[og3]at hy;rcases hogc i' j' e _ he hj with⟨rfl,rfl,z⟩|⟨z0,e',z1,z2⟩
    ·cases z
    ·exact hφ.hole k u og _ b C1 i' j' e' y _ u' n' hr' hg hfz hL hb hC1 z1 z2 hy
   ·exact hφ.hole k u q L1 b1 C1 i' j' e y _ u' n' hr' hk hf' hL1 hb1 hC1 he hj hy
  ·rintro g1 i1 j1 b' (⟨_,_,_,hK|⟨i2,j2,hK⟩⟩|⟨_,_,hb'⟩)
   ·exact(h.sep g' v' o' L' b' hg' hfz' hL' hK).1
   ·exact hφ.none_ _ _ _ _ hK
   ·exact hφ.none_ _ _ _ _ hb'
  ·rintro g1 i1 j1 b' (⟨_,_,_,hK|⟨i2,j2,hK⟩⟩|⟨_,_,hb'⟩)
   ·exact(h.sep g' v' o' L' b' hg' hfz' hL' hK).2.1
   ·exact hφ.lt _ _ _ _ hK
   ·exact hφ.lt _ _ _ _ hb'
  ·rintro g1 i1 j1 b' (⟨_,_,_,hK|⟨i2,j2,hK⟩⟩|⟨_,_,hb'⟩)
   ·exact(h.sep g' v' o' L' b' hg' hfz' hL' hK).2.2.imp id And.left
   ·exact hφ.new _ _ _ _ hK
   ·exact hφ.new _ _ _ _ hb'
  ·intro g1 i1 j1 b' k u q L1 hb' hk hf hL1 hb1;rcases hgo k u q hk with⟨rfl,rfl,rfl⟩|⟨n1,n2,hk⟩
   ·rcases hb' with⟨_,_,_,hK⟩|⟨_,_,hb'⟩
    ·exact hKs b' k u og L1 hK hne hg hfz hL1 hb1
    ·exact hφ.sep g1 i1 j1 b' k u og L1 hb' hg hfz hL1 hb1
   ·rcases hb' with⟨_,_,_,hK⟩|⟨_,_,hb'⟩
    ·exact hKs b' k u q L1 hK n2 hk hf hL1 hb1
    ·exact hφ.sep g1 i1 j1 b' k u q L1 hb' hk hf hL1 hb1
  ·rintro g1 i1 j1 g2 i2 j2 b' (⟨rfl,rfl,rfl,hK⟩|⟨n1,m1,h1⟩) (⟨rfl,rfl,rfl,hK'⟩|⟨n2,m2,h2⟩)
   ·exact⟨rfl,rfl,rfl⟩
   ·exact(hKφ b' g2 i2 j2 hK m2 h2).elim
   ·exact(hKφ b' g1 i1 j1 hK' m1 h1).elim
   ·exact hφ.dis _ _ _ _ _ _ _ h1 h2
end
theorem Bl (rn:Nat->Nat):∀ l:List D,Fg rn l=l.map (rnm rn)
 | []=>rfl
 | d::r=>by simp[Fg,Bl rn r]
section
variable {N:Nat} {Δ:List Deferred} {w0:World} {F0:Fz} {M:Nat->Prop} {B0:Bt} {σ:S} {F:Fz} {β:Bt} {a:Act} {w:World}
theorem KO (rn:Nat->Nat) (h:Fro F d x):Fro F (rnm rn d) x:=by
 have key:∀ (cs:List D) (vs:List Value),(∀ (j:Nat) c v,cs[j]? =some c->vs[j]? =some v->Fro F (rnm rn c) v)->∀ (j:Nat) c v,(Fg rn cs)[j]? =some c->vs[j]? =some v->Fro F c v:=by
  grind [Bl]
 induction h with
 | agg cs vs hl h1 _ ih=>exact .agg _ vs (by grind [Bl]) h1 (key cs vs ih)
 | clo f cs vs hl _ ih=>exact .clo f _ vs (by grind [Bl]) (key cs vs ih)
 | tup cs vs hl _ ih=>exact .tup _ vs (by grind [Bl]) (key cs vs ih)
 | top v=>exact .top v
 | row s ty es v=>exact .row s ty es v
 | hole nm u n v=>exact .hole nm u n v
 | int k n=>exact .int k n
 | bool b=>exact .bool b
 | str s=>exact .str s
 | nils=>exact .nils
 | nilf=>exact .nilf
 | nilp=>exact .nilp
 | sl0 a c=>exact .sl0 a c
 | sl es b o c s vf hc hs hF h1 h _=>exact .sl es b o c s vf hc hs hF h1 h
 | fptr e b o off vf hF h1 h _=>exact .fptr e b o off vf hF h1 h
theorem Ia (rn:Nat->Nat) (h:Ref F β d x):Ref F β (rnm rn d) x:=by
 cases d<;>first|exact h|exact Ref.Af (KO rn h)
theorem AM (rn:Nat->Nat) (h:Cel F β d x):Cel F β (rnm rn d) x:=by
 by_cases hcl:∃ f cs,d= .clo f cs
 case neg =>
  have h':Ref F β d x:=by cases d<;>first|exact h|simp_all
  grind [Cel.BZ,Ia]
 obtain⟨f,cs,rfl⟩:=hcl;obtain⟨vs,rfl,hl,hv⟩:=h;refine⟨vs,rfl,by grind [Bl],λj c v hc hv'=>?_⟩
 grind [Bl,Ia]
theorem AZ (rn:Nat->Nat) (h:Val F β d x):Val F β (rnm rn d) x:=by
 cases d with
 | agg cs =>
  obtain⟨vs,rfl,hl,h1,hv⟩:=h;refine⟨vs,rfl,by grind [Bl],h1,λj c v' hc hv'=>?_⟩
  grind [Bl,AM]
 | tup cs =>
  obtain⟨vs,rfl,hl,hv⟩:=h;refine⟨vs,rfl,by grind [Bl],λj c v' hc hv'=>?_⟩
  grind [Bl,AM]
 | top =>exact Val.Am (AM rn (show Cel F β (.top ) x from h))
 | int x0 x1=>exact Val.Am (AM rn (show Cel F β (.int x0 x1) x from h))
 | bool x0=>exact Val.Am (AM rn (show Cel F β (.bool x0) x from h))
 | str x0=>exact Val.Am (AM rn (show Cel F β (.str x0) x from h))
 | sl x0=>exact Val.Am (AM rn (show Cel F β (.sl x0) x from h))
 | nils =>exact Val.Am (AM rn (show Cel F β (.nils ) x from h))
 | osl x0 x1 x2 x3=>exact Val.Am (AM rn (show Cel F β (.osl x0 x1 x2 x3) x from h))
 | optr x0 x1 x2 x3=>exact Val.Am (AM rn (show Cel F β (.optr x0 x1 x2 x3) x from h))
 | fptr x0 x1=>exact Val.Am (AM rn (show Cel F β (.fptr x0 x1) x from h))
 | clo x0 x1=>exact Val.Am (AM rn (show Cel F β (.clo x0 x1) x from h))
 | nilf =>exact Val.Am (AM rn (show Cel F β (.nilf ) x from h))
 | nilp=>exact Val.Am (AM rn (show Cel F β (.nilp) x from h))
 | when x0 x1=>exact Val.Am (AM rn (show Cel F β (.when x0 x1) x from h))
 | row x0 x1 x2=>exact Val.Am (AM rn (show Cel F β (.row x0 x1 x2) x from h))
 | hole x0 x1 x2=>exact Val.Am (AM rn (show Cel F β (.hole x0 x1 x2) x from h))
theorem KJ (rn:Nat->Nat) (h:Env F β d x):Env F β (rnm rn d) x:=by
 cases d with
 | top =>exact Env.Ai (AZ rn (show Val F β (.top ) x from h))
 | int x0 x1=>exact Env.Ai (AZ rn (show Val F β (.int x0 x1) x from h))
 | bool x0=>exact Env.Ai (AZ rn (show Val F β (.bool x0) x from h))
 | str x0=>exact Env.Ai (AZ rn (show Val F β (.str x0) x from h))
 | agg x0=>exact Env.Ai (AZ rn (show Val F β (.agg x0) x from h))
 | sl x0=>exact Env.Ai (AZ rn (show Val F β (.sl x0) x from h))
 | nils =>exact Env.Ai (AZ rn (show Val F β (.nils ) x from h))
 | osl x0 x1 x2 x3=>exact Env.Ai (AZ rn (show Val F β (.osl x0 x1 x2 x3) x from h))
 | optr x0 x1 x2 x3=>exact Env.Ai (AZ rn (show Val F β (.optr x0 x1 x2 x3) x from h))
 | fptr x0 x1=>exact Env.Ai (AZ rn (show Val F β (.fptr x0 x1) x from h))
 | clo x0 x1=>exact Env.Ai (AZ rn (show Val F β (.clo x0 x1) x from h))
 | nilf =>exact Env.Ai (AZ rn (show Val F β (.nilf ) x from h))
 | nilp=>exact Env.Ai (AZ rn (show Val F β (.nilp) x from h))
 | tup x0=>exact Env.Ai (AZ rn (show Val F β (.tup x0) x from h))
 | row x0 x1 x2=>exact Env.Ai (AZ rn (show Val F β (.row x0 x1 x2) x from h))
 | hole x0 x1 x2=>exact Env.Ai (AZ rn (show Val F β (.hole x0 x1 x2) x from h))
 | when p d=>exact h
theorem FV (rn:Nat->Nat) (d:D):cells (rnm rn d)=(cells d).map (rnm rn):=by
 cases d<;>simp[cells,rnm,Bl]
theorem Eo {rn:Nat->Nat} {ks:List Nat} (h:CG rn ks=true):(∀ k∈ks,Ad (rn k)=Ad k)/\∀ k∈ks,∀ k'∈ks,rn k=rn k'->k=k':=by
 simp only[CG,aAJ,aAP,Bool.or_eq_true,aAt,beq_iff_eq]at h;refine⟨λk hk=>(h k hk).1,λk hk k' hk' e=>?_⟩
 rcases(h k hk).2 k' hk' with h1|h1
 all_goals simp_all
theorem Ge {rn:Nat->Nat} {ks:List Nat} (hi:∀ k∈ks,∀ k'∈ks,rn k=rn k'->k=k'):∀ (l:List (Nat×Aa)) (g':Nat) (y:Aa),(∀ p∈l,p.1∈ks)->look (l.map λp=>(rn p.1,rnO rn p.2)) g'=some y->∃ g x,g∈ks/\rn g=g'/\look l g=some x/\y=rnO rn x
 | [],g',y,_,h=>by grind [look]
 | (k,x)::r,g',y,hk,h=>by
  simp only[List.map_cons,look]at h;have hkk:=hk (k,x) (List.mem_cons_self ..);split at h
  ·grind [look]
  ·rename_i hne;obtain⟨g,x',h1,h2,h3,h4⟩:=Ge hi r g' y (λp hp=>hk p (List.mem_cons_of_mem _ hp)) h
   grind [look]
theorem CF {rn:Nat->Nat} (hn:CG rn (σ.o.map Prod.fst)=true) {g':Nat} {q:Own} (h:(S.mk (σ.e.map (λp=>(p.1,rnm rn p.2))) (σ.o.map (λp=>(rn p.1,rnO rn p.2))) σ.n).go g'=some (v,q)) :
  ∃ g o,g∈σ.o.map Prod.fst/\rn g=g'/\σ.go g=some (v,o)/\q={ o with es:=bif o.var then o.es.map (rnm rn)else o.es }:=by
 obtain⟨_,hi⟩:=Eo hn;simp only[S.go]at h;cases hl:look (σ.o.map (λp=>(rn p.1,rnO rn p.2))) g' with
 | none=>simp_all
 | some y =>
  rw[hl]at h;simp only[aAH]at h;obtain⟨g,x,h1,h2,h3,h4⟩:=Ge hi σ.o g' y (λp hp=>aAW.2 ⟨p,hp,rfl⟩) hl
  subst h4;cases x with
  | none=>cases h
  | some p =>
   obtain⟨u,o⟩:=p;cases h
   grind [S.go]
theorem FI {rn:Nat->Nat} {o:Own} {e c:D} (he:(bif o.var then o.es.map (rnm rn)else o.es)[i]? =some e) (hc:(cells e)[j]? =some c):∃ e0 c0,o.es[i]? =some e0/\(cells e0)[j]? =some c0/\(c=c0\/(o.var=true/\c=rnm rn c0)):=by
 cases hv:o.var with
 | false=>simp_all
 | true =>
  rw[hv]at he;simp only[cond_true,aAS,aAL]at he
  grind [FV]
theorem Ie {rn:Nat->Nat}:(∀ s ty es,rnm rn d= .row s ty es->d= .row s ty es)/\∀ nm u n,rnm rn d= .hole nm u n->d= .hole nm u n:=by
 cases d<;>exact⟨λ_ _ _ e=>(by first|exact e|cases e),λ_ _ _ e=>(by first|exact e|cases e)⟩
theorem Lk (h:Sim N Δ w0 F0 M B0 σ F β a w) {rn:Nat->Nat} (hn:CG rn (σ.o.map Prod.fst)=true) :
  Sim N Δ w0 F0 M B0 ⟨σ.e.map (λp=>(p.1,rnm rn p.2)),σ.o.map (λp=>(rn p.1,rnO rn p.2)),σ.n⟩ F β a w:=by
 obtain⟨hrc,hi⟩:=Eo hn;have hlen:∀ o:Own,(bif o.var then o.es.map (rnm rn)else o.es).length=o.es.length:=by grind
 have hcl:∀ o:Own,(∀ e∈o.es,(cells e).length=o.s)->∀ e∈(bif o.var then o.es.map (rnm rn)else o.es),(cells e).length=o.s:=by
  grind [FV]
 have hok:∀ {L:Loc} {o:Own},Au F β w L o->Au F β w L { o with es:=bif o.var then o.es.map (rnm rn)else o.es }:=by
  rintro L o ⟨e1,e2,e3,e4,e5,e6⟩;refine⟨e1,e2,by grind,e4,hcl o e5,?_⟩
  cases hb:L.b with
  | none=>grind
  | some b =>
   rw[hb]at e6;obtain⟨C,hC,hCs,hcell⟩:=e6;refine⟨C,hC,hCs,λi j e c h1 h2=>?_⟩
   obtain⟨e0,c0,k1,k2,k3⟩:=FI h1 h2;obtain⟨x,x1,x2,x3⟩:=hcell i j e0 c0 k1 k2;refine⟨x,x1,x2,?_⟩;rcases k3 with rfl|⟨hv,rfl⟩
   ·exact x3
   ·rw[if_pos hv]at x3;rw[if_pos hv];grind [AM]
 refine{ nam:=h.nam,size:=h.size,defers:=h.defers,env:=λt=>?_,own:=?_,dist:=?_,sep:=?_,Ad:=?_,frz:=h.frz,fin:=h.fin,step:=h.step }
 ·rw[GQ (rnm rn) rfl];exact KJ rn (h.env t)
 ·intro g' v q hg;obtain⟨g,o,_,_,hgo,rfl⟩:=CF hn hg;obtain⟨L,hL,h1,h2⟩:=h.own g v o hgo;refine⟨L,hL,λhf=>?_,λhf=>hok (h2 hf)⟩
  have hz:=h1 hf;have hv:o.var=false:=hz.var;have:({ o with es:=bif o.var then o.es.map (rnm rn)else o.es }:Own)=o:=by cases o;grind
  grind
 ·intro g1 g2 v1 v2 q1 q2 L1 L2 b h1 h2 f1 f2 l1 l2 b1 b2;obtain⟨k1,o1,_,r1,s1,rfl⟩:=CF hn h1;obtain⟨k2,o2,_,r2,s2,rfl⟩:=CF hn h2;have:=h.dist k1 k2 v1 v2 o1 o2 L1 L2 b s1 s2 f1 f2 l1 l2 b1 b2
  grind
 ·intro g' v q L b hg hf hL hb;obtain⟨g,o,m,r,s,rfl⟩:=CF hn hg;obtain⟨z1,z2,z3⟩:=h.sep g v o L b s hf hL hb
  grind
 ·obtain⟨φ,hφ⟩:=h.Ad;refine⟨λg' i j b=>∃ g,g∈σ.o.map Prod.fst/\rn g=g'/\φ g i j b,?_,?_,λg i j b ⟨k,_,_,hb⟩=>hφ.none_ k i j b hb,λg i j b ⟨k,_,_,hb⟩=>hφ.lt k i j b hb,λg i j b ⟨k,_,_,hb⟩=>hφ.new k i j b hb,?_,?_⟩
  ·intro g' v q L b C i j e x s ty es hr hg hf hL hb hC he hj hx;obtain⟨g,o,m,r,hgo,rfl⟩:=CF hn hg;obtain⟨e0,c0,k1,k2,k3⟩:=FI he hj;have hc0:c0= .row s ty es:=by
    rcases k3 with k3|⟨_,k3⟩
    ·grind
    ·exact Ie.1 _ _ _ k3.symm
   subst hc0;have hr':Ad g=true:=by grind
   exact(hφ.row g v o L b C i j e0 x s ty es hr' hgo hf hL hb hC k1 k2 hx).keep (NX.refl _) (λ_ _=>rfl) λb hb=>⟨g,m,r,hb⟩
  ·intro g' v q L b C i j e x nm u n hr hg hf hL hb hC he hj hx;obtain⟨g,o,m,r,hgo,rfl⟩:=CF hn hg;obtain⟨e0,c0,k1,k2,k3⟩:=FI he hj;have hc0:c0= .hole nm u n:=by
    rcases k3 with k3|⟨_,k3⟩
    ·grind
    ·exact Ie.2 _ _ _ k3.symm
   subst hc0;have hr':Ad g=true:=by grind
   exact hφ.hole g v o L b C i j e0 x _ u n hr' hgo hf hL hb hC k1 k2 hx
  ·rintro g1 i j b g' v' q L' ⟨k,_,_,hb⟩ hg hf hL;obtain⟨g,o,m,r,hgo,rfl⟩:=CF hn hg;exact hφ.sep k i j b g v' o L' hb hgo hf hL
  ·rintro g1 i j g2 i' j' b ⟨k,_,r,hb⟩ ⟨k',_,r',hb'⟩;obtain⟨e1,e2,e3⟩:=hφ.dis k i j k' i' j' b hb hb'
   grind
end
section
variable {N:Nat} {Δ:List Deferred} {w0:World} {F0:Fz} {M:Nat->Prop} {B0:Bt} {σ:S} {F:Fz} {β:Bt} {a:Act} {w:World}
theorem Sim.Hc (h:Sim N Δ w0 F0 M B0 σ F β a w) {σ':S} {F':Fz} {g2:Nat} {o on:Own} (hg:σ.go g=some (v,o)) (hfz:o.fz=false) (hL:β v=some L) (hfz2:on.fz=false) (hgo:∀ k u q,σ'.go k=some (u,q)->(k=g2/\u=v/\q=on)\/(k≠g2/\k≠g/\σ.go k=some (u,q))) (hon:Au F' β w L on) (henv:∀ t,Env F' β (σ'.ge t) (a.tmps.getD t undef)) {Z:Nat->Prop} (hZ:∀ b,Z b->∃ φ,Ay F β w0.heap.size M σ w φ/\∃ i j,φ g i j b) (hF:NX F F') (hFold:∀ b i,¬ Z b->F' b i=F b i) (hfrz:Fok F' w) (hfin:∀ b i x,F' b i=some x->b<w.heap.size) (hr2:Dw.Ad g=true->Dw.Ad g2=true) (hov:on.var=o.var) (hrich:∀ φ,Ay F β w0.heap.size M σ w φ->∃ φ',Ay F' β w0.heap.size M σ' w φ'):Sim N Δ w0 F0 M B0 σ' F' β a w:=by
 have hLb:∀ b,L.b=some b->¬ Z b:=by
  intro b hb hz;obtain⟨φ,hφ,i,j,hij⟩:=hZ b hz;exact hφ.sep g i j b g v o L hij hg hfz hL hb
 refine h.change (row:=λb=>L.b=some b\/Z b) rfl rfl rfl (aAF _) (λ_ _ _=>rfl) ?_ hF (λb i _ hn=>hFold b i λhz=>hn (.inr hz)) hfrz hfin (Aw.refl _) h.size h.defers henv ?_ ?_ hrich
 ·rintro b (hb|hz)
  ·exact(h.sep g v o L b hg hfz hL hb).2.2.imp id And.left
  ·obtain⟨φ,hφ,i,j,hij⟩:=hZ b hz;exact hφ.new g i j b hij
 ·intro k u q hk;rcases hgo k u q hk with⟨rfl,rfl,rfl⟩|⟨n1,n2,hk⟩
  ·refine .inr ⟨L,hL,hfz2,hon,λb' hb'=>?_⟩
   obtain⟨s1,s2,s3⟩:=h.sep g u o L b' hg hfz hL hb'
   grind
  ·refine .inl ⟨hk,?_⟩;rintro L1 b1 hf hL1 hb1 (hb|hz)
   ·exact n2 (h.dist k g u v q o L1 L b1 hk hg hf hfz hL1 hL hb1 hb)
   ·obtain⟨φ,hφ,i,j,hij⟩:=hZ b1 hz;exact hφ.sep g i j b1 k u q L1 hij hk hf hL1 hb1
 ·intro g1 g3 v1 v3 o1 o3 L1 L3 b' hg1 hg3 hf1 hf3 hL1 hL3 hb1 hb3 _;rcases hgo g1 v1 o1 hg1 with⟨rfl,rfl,rfl⟩|⟨n1,n2,hk⟩
  ·rcases hgo g3 v3 o3 hg3 with⟨rfl,rfl,rfl⟩|⟨n1',n2',hk'⟩
   ·rfl
   ·exact(n2' (h.dist g3 g v3 v1 o3 o L3 L1 b' hk' hg hf3 hfz hL3 hL1 hb3 hb1)).elim
  ·rcases hgo g3 v3 o3 hg3 with⟨rfl,rfl,rfl⟩|⟨n1',n2',hk'⟩
   ·exact(n2 (h.dist g1 g v1 v3 o1 o L1 L3 b' hk hg hf1 hfz hL1 hL3 hb1 hb3)).elim
   ·exact h.dist g1 g3 v1 v3 o1 o3 L1 L3 b' hk hk' hf1 hf3 hL1 hL3 hb1 hb3
theorem DQ {R:D->D->Prop} {l l':List D} (h:Each R l l') {e':D} (he:l'[i]? =some e'):∃ e,l[i]? =some e/\R e e':=by
 have hlt:i<l.length:=by rw[<- h.1];grind
 exact⟨_,aAC hlt,h.2 i _ e' (aAC hlt) he⟩
theorem JA (h:Sim N Δ w0 F0 M B0 σ F β a w) {g2:Nat} {o:Own} (hg:σ.go g=some (v,o)) (hfz:o.fz=false) (hn:(g2=g/\Ad g=true)\/(Ad g=false/\g2=4096+g)) (he:Each (Enr (Ad g)) o.es es') :
  Sim N Δ w0 F0 M B0 ⟨σ.e.map (λp=>(p.1,ren g g2 p.2)),(g2,some (v,{ o with es:=es' }))::(g,bif Nat.beq g g2 then some (v,{ o with es:=es' })else none)::σ.o,σ.n⟩ F β a w:=by
 obtain⟨L,hL,_,hk⟩:=h.own g v o hg;obtain⟨e1,e2,e3,e4,e5,e6⟩:=hk hfz;have hr2:Ad g2=true:=by
  rcases hn with⟨rfl,hr⟩|⟨_,rfl⟩
  ·exact hr
  ·simp[Ad]
 have hgo:∀ k u q,(S.mk (σ.e.map (λp=>(p.1,ren g g2 p.2))) ((g2,some (v,{ o with es:=es' }))::(g,bif Nat.beq g g2 then some (v,{ o with es:=es' })else none)::σ.o) σ.n).go k=some (u,q)->(k=g2/\u=v/\q={ o with es:=es' })\/(k≠g2/\k≠g/\σ.go k=some (u,q)):=by
  intro k u q hk;rw[Cc]at hk;split at hk
  ·simp_all
  ·rename_i n1;rw[Cc]at hk;split at hk
   ·grind [aAk]
   ·rename_i n2;exact .inr ⟨n1,n2,hk⟩
 have hcel:∀ (i j:Nat) e c',es'[i]? =some e->(cells e)[j]? =some c'->∃ e0 c,o.es[i]? =some e0/\(cells e0)[j]? =some c/\((c'=c/\(Ad g=true\/plain c=true))\/(c= .nils/\∃ s ty,0<s/\c'= .row s ty [])):=by
  intro i j e c' h1 h2;obtain⟨e0,k1,k2,k3⟩:=DQ he h1
  grind
 refine h.Hc hg hfz hL (on:={ o with es:=es' }) hfz hgo ⟨e1,e2,by simp only[he.1];exact e3,e4,λe hm=>?_,?_⟩ (λt=>?_) (Z:=λ_=>False) (λ_ hz=>hz.elim) (NX.refl _) (λ_ _ _=>rfl) h.frz h.fin (λ_=>hr2) rfl λφ hφ=>?_
 ·obtain⟨i,hi⟩:=aAX hm;obtain⟨e0,k1,k2,_⟩:=DQ he hi
  grind
 ·cases hb:L.b with
  | none=>simp_all
  | some b =>
   rw[hb]at e6;obtain⟨C,hC,hCs,hcell⟩:=e6;refine⟨C,hC,hCs,λi j e c' h1 h2=>?_⟩
   obtain⟨e0,c,k1,k2,k3⟩:=hcel i j e c' h1 h2;obtain⟨x,x1,x2,x3⟩:=hcell i j e0 c k1 k2;refine⟨x,x1,x2,?_⟩;rcases k3 with⟨rfl,_⟩|⟨_,s,ty,_,rfl⟩
   ·exact x3
   ·split
    ·exact Cel.Af (.row _ _ _ _)
    ·exact .row _ _ _ _
 ·rw[GQ (ren g g2) rfl];exact KI g g2 (h.env t)
 ·let φ':Nat->Nat->Nat->Nat->Prop:=λk i j b=>(k=g2/\Ad g=true/\φ g i j b)\/(k≠g2/\k≠g/\φ k i j b)
  have hsub:∀ k i j b,φ' k i j b->∃ k',φ k' i j b:=by
   grind
  refine⟨φ',?_,?_,λk i j b hb=>?_,λk i j b hb=>?_,λk i j b hb=>?_,λk i j b g' v' o' L' hb hg' hf' hL'=>?_,?_⟩
  ·intro k u q L1 b C i j e x s ty es hr hk hf hL1 hb hC hei hj hx;rcases hgo k u q hk with⟨rfl,rfl,rfl⟩|⟨n1,n2,hk⟩
   ·obtain⟨e0,c,k1,k2,k3⟩:=hcel i j e _ hei hj;rcases k3 with⟨rfl,hpl⟩|⟨rfl,s',ty',hs',heq⟩
    ·have hrg:Ad g=true:=hpl.resolve_right (λh=>by cases h)
     exact(hφ.row g u o L1 b C i j e0 x s ty es hrg hg hfz hL1 hb hC k1 k2 hx).keep (NX.refl _) (λ_ _=>rfl) (λb hb=>.inl ⟨rfl,hrg,hb⟩)
    ·cases heq;rw[hL]at hL1;cases hL1;rw[hb]at e6;obtain⟨C',hC',_,hcell⟩:=e6;rw[hC']at hC;cases hC;obtain⟨y,y1,_,y3⟩:=hcell i j e0 _ k1 k2;rw[y1]at hx;cases hx;have:x= .slice none 0 0:=by
      split at y3
      ·exact Eb (β:=β) (Val.Am y3)
      ·exact Eb (β:=β) (Val.Af y3)
     subst this;exact .nil _ _ _ hs'
   ·exact(hφ.row k u q L1 b C i j e x s ty es hr hk hf hL1 hb hC hei hj hx).keep (NX.refl _) (λ_ _=>rfl) (λb hb=>.inr ⟨n1,n2,hb⟩)
  ·intro k u q L1 b C i j e x nm u' n' hr hk hf hL1 hb hC hei hj hx;rcases hgo k u q hk with⟨rfl,rfl,rfl⟩|⟨n1,n2,hk⟩
   ·obtain⟨e0,c,k1,k2,k3⟩:=hcel i j e _ hei hj;rcases k3 with⟨rfl,hpl⟩|⟨_,_,_,_,heq⟩
    ·have hrg:Ad g=true:=hpl.resolve_right (λh=>by cases h)
     exact hφ.hole g u o L1 b C i j e0 x _ u' n' hrg hg hfz hL1 hb hC k1 k2 hx
    ·cases heq
   ·exact hφ.hole k u q L1 b C i j e x _ u' n' hr hk hf hL1 hb hC hei hj hx
  ·obtain⟨k',hb⟩:=hsub k i j b hb;exact hφ.none_ _ _ _ _ hb
  ·obtain⟨k',hb⟩:=hsub k i j b hb;exact hφ.lt _ _ _ _ hb
  ·obtain⟨k',hb⟩:=hsub k i j b hb;exact hφ.new _ _ _ _ hb
  ·obtain⟨k',hb2⟩:=hsub k i j b hb;rcases hgo g' v' o' hg' with⟨rfl,rfl,rfl⟩|⟨_,_,hk⟩
   ·exact hφ.sep k' i j b g _ o L' hb2 hg hfz hL'
   ·exact hφ.sep k' i j b g' v' o' L' hb2 hk hf' hL'
  ·rintro k i j k' i' j' b (⟨rfl,_,h1⟩|⟨n1,n2,h1⟩) (⟨rfl,_,h2⟩|⟨m1,m2,h2⟩)
   ·exact⟨rfl,(hφ.dis _ _ _ _ _ _ _ h1 h2).2⟩
   ·exact(m2 (hφ.dis _ _ _ _ _ _ _ h2 h1).1).elim
   ·exact(n2 (hφ.dis _ _ _ _ _ _ _ h1 h2).1).elim
   ·exact hφ.dis _ _ _ _ _ _ _ h1 h2
theorem Kf (h:Sim N Δ w0 F0 M B0 σ F β a w) {o:Own} (hg:σ.go g=some (v,o)) (hr:Ad g=false) (hfz:o.fz=false) (hvar:o.var=false) :
  Sim N Δ w0 F0 M B0 ⟨σ.e,(g,some (v,{ o with es:=o.es.map nrm }))::σ.o,σ.n⟩ F β a w:=by
 obtain⟨L,hL,_,hk⟩:=h.own g v o hg;obtain⟨e1,e2,e3,e4,e5,e6⟩:=hk hfz;have hgo:∀ k u q,(S.mk σ.e ((g,some (v,{ o with es:=o.es.map nrm }))::σ.o) σ.n).go k=some (u,q)->(k=g/\u=v/\q={ o with es:=o.es.map nrm })\/(k≠g/\k≠g/\σ.go k=some (u,q)):=by
  intro k u q hk;rw[Cc]at hk;split at hk
  all_goals simp_all
 refine h.Hc hg hfz hL (on:={ o with es:=o.es.map nrm }) hfz hgo ⟨e1,e2,by simp_all,e4,λe hm=>?_,?_⟩ h.env (Z:=λ_=>False) (λ_ hz=>hz.elim) (NX.refl _) (λ_ _ _=>rfl) h.frz h.fin id rfl λφ hφ=>⟨φ,hφ.keep (NX.refl _) (Aw.refl _) (aAF _) (λ_ _ _ _ _ _=>rfl) (λ_ _ _ _ _=>rfl) (λk u q hk=>?_) (λk u q hrk hk hf=>.inl ?_) (λg1 i j b k u q L' hb hk hf hL'=>?_)⟩
 ·grind [Cl,BF]
 ·cases hb:L.b with
  | none=>simp_all
  | some b =>
   rw[hb]at e6;obtain⟨C,hC,hCs,hcell⟩:=e6;refine⟨C,hC,hCs,λi j e c' h1 h2=>?_⟩
   simp only[aAS,aAL]at h1;obtain⟨e0,k1,rfl⟩:=h1;rw[Cl,BF,aAS,aAL]at h2;obtain⟨c,k2,rfl⟩:=h2;obtain⟨x,x1,x2,x3⟩:=hcell i j e0 c k1 k2;rw[hvar]at x3;simp only[aAY,if_false]at x3;refine⟨x,x1,x2,?_⟩;simp only[hvar,aAY,if_false];exact x3.nrm
 ·obtain⟨L,hL,_⟩:=h.own k u q hk;simp_all
 ·grind
 ·rcases hgo k u q hk with⟨rfl,rfl,rfl⟩|⟨_,_,hk⟩
  ·exact hφ.sep g1 i j b k u o L' hb hg hfz hL'
  ·exact hφ.sep g1 i j b k u q L' hb hk hf hL'
open Classical in
theorem Ke (h:Sim N Δ w0 F0 M B0 σ F β a w) {o:Own} (hg:σ.go g=some (v,o)) (hr:Ad g=true) (hfz:o.fz=false) (he:Each Frr o.es es') :
  ∃ F',Sim N Δ w0 F0 M B0 ⟨σ.e,(g,some (v,{ o with es:=es' }))::σ.o,σ.n⟩ F' β a w:=by
 obtain⟨φ,hφ⟩:=h.Ad;obtain⟨L,hL,_,hk⟩:=h.own g v o hg;obtain⟨e1,e2,e3,e4,e5,e6⟩:=hk hfz
 let Fc:Nat->Nat->Prop:=λi j=>∃ e' es,es'[i]? =some e'/\(cells e')[j]? =some (.sl es)
 let Z:Nat->Prop:=λb=>∃ i j,Fc i j/\φ g i j b
 let F':Fz:=λb i=>if Z b then w.cell? ⟨b,i,none⟩else F b i
 have hZF:∀ b i,Z b->F' b i=w.cell? ⟨b,i,none⟩:=λb i hz=>if_pos hz
 have hFn:∀ b i,¬ Z b->F' b i=F b i:=λb i hz=>if_neg hz
 have hsub:NX F F':=by
  intro b i x hx
  by_cases hz:Z b
  ·obtain⟨i',j',_,hb⟩:=hz;rw[hφ.none_ g i' j' b hb i]at hx;cases hx
  ·rw[hFn b i hz];exact hx
 have hgo:∀ k u q,(S.mk σ.e ((g,some (v,{ o with es:=es' }))::σ.o) σ.n).go k=some (u,q)->(k=g/\u=v/\q={ o with es:=es' })\/(k≠g/\k≠g/\σ.go k=some (u,q)):=by
  intro k u q hk;rw[Cc]at hk;split at hk
  ·rename_i e;cases hk;exact .inl ⟨e,rfl,rfl⟩
  ·rename_i n1;exact .inr ⟨n1,n1,hk⟩
 have hcel:∀ (i j:Nat) e c',es'[i]? =some e->(cells e)[j]? =some c'->∃ e0 c,o.es[i]? =some e0/\(cells e0)[j]? =some c/\(c'=c\/∃ s ty es,c= .row s ty es/\(∀ q∈es,AO q=true)/\c'= .sl es):=by
  intro i j e c' h1 h2;obtain⟨e0,k1,k2,k3⟩:=DQ he h1;have hlt:j<(cells e0).length:=by rw[<- k2];exact(aAE.1 h2).1
  exact⟨e0,_,k1,aAC hlt,k3 j _ c' (aAC hlt) h2⟩
 have hfro:∀ (i j s ty:Nat) es x,Bd F w (φ g i j) s ty es x->(∀ b,φ g i j b->Z b)->Fro F' (.sl es) x:=by
  intro i j s ty es x hra hz;cases hra with
  | nil=>exact .sl0 _ _
  | row _ _ _ _ b cap C fp xf hs hc hm hl hC hCs hb hx _ _ _ _ =>
   refine .sl es b 0 cap s xf hc hl (λi' j' e d he hd=>?_) (λi' j' e d he hd=>(hx i' j' e d he hd).2.1) λi' j' e d he hd=>((hx i' j' e d he hd).2.2).mono hsub
   rw[hZF b _ (hz b hb)];simp[aAy,hC,(hx i' j' e d he hd).1]
 refine⟨F',?_⟩;refine h.Hc hg hfz hL (on:={ o with es:=es' }) hfz hgo ⟨e1,e2,by simp only[he.1];exact e3,e4,λe hm=>?_,?_⟩ (λt=>(h.env t).mono hsub (Aw.refl _)) (Z:=Z) (λb ⟨i,j,_,hb⟩=>⟨φ,hφ,i,j,hb⟩) hsub hFn (λb i x hx=>?_) (λb i x hx=>?_) id rfl λ_ _=>?_
 ·obtain⟨i,hi⟩:=aAX hm;obtain⟨e0,k1,k2,_⟩:=DQ he hi;rw[k2];exact e5 e0 (aAA k1)
 ·cases hb:L.b with
  | none=>rw[hb]at e6;exact e6
  | some b =>
   rw[hb]at e6;obtain⟨C,hC,hCs,hcell⟩:=e6;refine⟨C,hC,hCs,λi j e c' h1 h2=>?_⟩
   obtain⟨e0,c,k1,k2,k3⟩:=hcel i j e c' h1 h2;obtain⟨x,x1,x2,x3⟩:=hcell i j e0 c k1 k2;refine⟨x,x1,x2,?_⟩;rcases k3 with rfl|⟨s,ty,es,rfl,_,rfl⟩
   ·split at x3
    ·rename_i hv;rw[if_pos hv];exact x3.mono hsub (Aw.refl _)
    ·rename_i hv;rw[if_neg hv];exact x3.mono hsub
   ·have hra:=hφ.row g v o L b C i j e0 x s ty es hr hg hfz hL hb hC k1 k2 x1;have hf:=hfro i j s ty es x hra (λb' hb'=>⟨i,j,⟨e,es,h1,h2⟩,hb'⟩)
    split
    ·exact Cel.Af hf
    ·exact hf
 ·by_cases hz:Z b
  ·rw[hZF b i hz]at hx;exact hx
  ·rw[hFn b i hz]at hx;exact h.frz b i x hx
 ·by_cases hz:Z b
  ·obtain⟨i',j',_,hb⟩:=hz;exact hφ.lt g i' j' b hb
  ·rw[hFn b i hz]at hx;exact h.fin b i x hx
 ·have hnZ:∀ k i j b,φ k i j b->¬ (k=g/\Fc i j)->¬ Z b:=by
   rintro k i j b hb hn ⟨i',j',hf,hb'⟩;obtain⟨rfl,rfl,rfl⟩:=hφ.dis _ _ _ _ _ _ _ hb hb';exact hn ⟨rfl,hf⟩
  refine⟨λk i j b=>φ k i j b/\¬ (k=g/\Fc i j),?_,?_,λk i j b hb m=>?_,λk i j b hb=>hφ.lt k i j b hb.1,λk i j b hb=>hφ.new k i j b hb.1,λk i j b g' v' o' L' hb hg' hf' hL'=>?_,λk i j k' i' j' b h1 h2=>hφ.dis _ _ _ _ _ _ _ h1.1 h2.1⟩
  ·intro k u q L1 b C i j e x s ty es hrk hk hf hL1 hb hC hei hj hx;rcases hgo k u q hk with⟨rfl,rfl,rfl⟩|⟨n1,_,hk⟩
   ·obtain⟨e0,c,k1,k2,k3⟩:=hcel i j e _ hei hj;rcases k3 with rfl|⟨_,_,_,_,_,heq⟩
    ·refine(hφ.row k u o L1 b C i j e0 x s ty es hrk hg hfz hL1 hb hC k1 k2 hx).keep hsub (λ_ _=>rfl) (λb hb=>⟨hb,?_⟩)
     rintro⟨_,e'',es'',z1,z2⟩;rw[hei]at z1;cases z1;rw[hj]at z2;cases z2
    ·cases heq
   ·exact(hφ.row k u q L1 b C i j e x s ty es hrk hk hf hL1 hb hC hei hj hx).keep hsub (λ_ _=>rfl) (λb hb=>⟨hb,λe=>n1 e.1⟩)
  ·intro k u q L1 b C i j e x nm u' n' hrk hk hf hL1 hb hC hei hj hx;rcases hgo k u q hk with⟨rfl,rfl,rfl⟩|⟨n1,_,hk⟩
   ·obtain⟨e0,c,k1,k2,k3⟩:=hcel i j e _ hei hj;rcases k3 with rfl|⟨_,_,_,_,_,heq⟩
    ·exact(hφ.hole k u o L1 b C i j e0 x _ u' n' hrk hg hfz hL1 hb hC k1 k2 hx).mono hsub (Aw.refl _)
    ·cases heq
   ·exact(hφ.hole k u q L1 b C i j e x _ u' n' hrk hk hf hL1 hb hC hei hj hx).mono hsub (Aw.refl _)
  ·rw[hFn b m (hnZ k i j b hb.1 hb.2)];exact hφ.none_ k i j b hb.1 m
  ·rcases hgo g' v' o' hg' with⟨rfl,rfl,rfl⟩|⟨_,_,hk⟩
   ·exact hφ.sep k i j b g' v' o L' hb.1 hg hfz hL'
   ·exact hφ.sep k i j b g' v' o' L' hb.1 hk hf' hL'
theorem LV (g v:Nat) (z:D) (e:List (Nat×D)) (n:Nat):∀ (o:List (Nat×Aa)) (k:Nat),(S.mk e (o.map λp=>(p.1,frO g v z p.2)) n).go k=frO g v z ((S.mk e o n).go k):=by
 intro o k;simp only[S.go]
 induction o with
 | nil=>simp[look,frO]
 | cons p o ih =>
  grind [look]
theorem Ej (g v:Nat) (z:D) (e:D):(cells (frp g v z e)).length=(cells e).length/\∀ j:Nat,(cells (frp g v z e))[j]? =((cells e)[j]?).map (frp g v z):=by
 cases e with
 | agg cs=>grind [frp,cells,Bi]
 | optr k u i off =>
  grind [frp,cells]
 | _=>exact⟨rfl,λj=>by rcases j with _|j<;>simp[cells,frp]⟩
theorem KQ:(∀ s ty es,frp g v z d= .row s ty es->d= .row s ty es)/\∀ nm u n,frp g v z d= .hole nm u n->d= .hole nm u n:=by
 cases d with
 | optr k u i off =>
  grind [frp]
 | _=>exact⟨λ_ _ _ e=>(by first|exact e|cases e),λ_ _ _ e=>(by first|exact e|cases e)⟩
open Classical in
theorem Lj (h:Sim N Δ w0 F0 M B0 σ F β a w) {o:Own} (hg:σ.go g=some (v,o)) (hfz:o.fz=false) (hvar:o.var=true) (hz:o.es=[z]) (hc:(cells z).all OQ=true) :
  ∃ F',Sim N Δ w0 F0 M B0 ⟨σ.e.map (λp=>(p.1,frp g v z p.2)),(g,none)::σ.o.map (λp=>(p.1,frO g v z p.2)),σ.n⟩ F' β a w:=by
 obtain⟨L,hL,_,hk⟩:=h.own g v o hg;obtain⟨e1,e2,e3,e4,e5,e6⟩:=hk hfz
 let Z:Nat->Prop:=λb=>L.b=some b
 let F':Fz:=λb i=>if Z b then w.cell? ⟨b,i,none⟩else F b i
 have hZF:∀ b i,Z b->F' b i=w.cell? ⟨b,i,none⟩:=λb i hz=>if_pos hz
 have hFn:∀ b i,¬ Z b->F' b i=F b i:=λb i hz=>if_neg hz
 have hsep:=λb hb=>h.sep g v o L b hg hfz hL hb
 have hsub:NX F F':=by
  intro b i x hx
  by_cases hzb:Z b
  ·rw[(hsep b hzb).1 i]at hx;cases hx
  ·rw[hFn b i hzb];exact hx
 have hfr:GD F' β v z:=by
  refine⟨λL' b off hL' hb=>?_⟩
  rw[hL]at hL';cases hL';rw[hb]at e6;obtain⟨C,hC,hCs,hcell⟩:=e6;have hx:∀ (j:Nat) d,(cells z)[j]? =some d->∃ x,C[j]? =some x/\x.oneCell'=true/\Fro F d x:=by
   intro j d hd;obtain⟨x,x1,x2,x3⟩:=hcell 0 j z d (by rw[hz];rfl) hd
   rw[if_pos hvar]at x3;have hf:=aAJ.1 hc d (aAA hd);refine⟨x,by simpa using x1,x2,?_⟩
   cases d<;>try first|(cases hf;done)|exact x3
   obtain⟨vs,rfl,hl,hv⟩:=x3;refine .clo _ _ vs hl λk c v hk hkv=>?_
   have h1:=aAJ.1 hf c (aAA hk);have h2:=hv k c v hk hkv;cases c<;>first|(cases h1;done)|exact h2
  have:=Fro.fptr (F:=F') z b 0 off (λj=>(C[j]?).getD undef) (λj d hd=>by
    obtain⟨x,x1,_,_⟩:=hx j d hd;rw[hZF b _ hb]
    simp[aAy,hC,x1]) (λj d hd=>by
    obtain⟨x,x1,x2,_⟩:=hx j d hd
    rw[x1];exact x2) (λj d hd=>by
    obtain⟨x,x1,_,x3⟩:=hx j d hd
    rw[x1];exact x3.mono hsub)
  simpa using this
 have hgo:∀ k u q,(S.mk (σ.e.map (λp=>(p.1,frp g v z p.2))) ((g,none)::σ.o.map (λp=>(p.1,frO g v z p.2))) σ.n).go k=some (u,q)->k≠g/\∃ q0,σ.go k=some (u,q0)/\q={ q0 with es:=bif q0.var then q0.es.map (frp g v z)else q0.es }:=by
  intro k u q hk;rw[Cc]at hk;split at hk
  ·cases hk
  ·rename_i n1;rw[LV]at hk;have:(S.mk (σ.e.map (λp=>(p.1,frp g v z p.2))) σ.o σ.n).go k=σ.go k:=rfl
   rw[this]at hk;cases hs:σ.go k with
   | none=>rw[hs]at hk;cases hk
   | some p =>
    obtain⟨u',q0⟩:=p;rw[hs]at hk;simp only[frO,Option.some.injEq,Prod.mk.injEq]at hk;exact⟨n1,q0,by rw[<- hk.1],hk.2.symm⟩
 have hsame:∀ (q0:Own),q0.var=false->({ q0 with es:=bif q0.var then q0.es.map (frp g v z)else q0.es }:Own)=q0:=by
  intro q0 hv;cases q0;simp only at hv;subst hv;rfl
 have hne:∀ k u q L' b,k≠g->σ.go k=some (u,q)->q.fz=false->β u=some L'->L'.b=some b->¬ Z b:=by
  intro k u q L' b hn hk hf hL' hb hzb;exact hn (h.dist k g u v q o L' L b hk hg hf hfz hL' hL hb hzb)
 refine⟨F',?_⟩;refine{ nam:=h.nam,size:=h.size,defers:=h.defers,env:=λt=>?_,own:=?_,dist:=?_,sep:=?_,Ad:=?_,frz:=?_,fin:=?_,step:=?_ }
 ·rw[GQ (frp g v z) rfl];exact KH hfr ((h.env t).mono hsub (Aw.refl _))
 ·intro k u q hk;obtain⟨n1,q0,hk0,rfl⟩:=hgo k u q hk;obtain⟨L',hL',hzz,hkk⟩:=h.own k u q0 hk0;refine⟨L',hL',λhf=>?_,λhf=>?_⟩
  ·have h1:=(hzz hf);rw[hsame q0 h1.var];exact h1.mono hsub
  ·have h1:=hkk hf;cases hv:q0.var with
   | false=>
    have:=hsame q0 hv;rw[hv]at this;rw[this];exact h1.keep hsub (Aw.refl _) (λ_ _=>rfl)
   | true =>
    obtain⟨f1,f2,f3,f4,f5,f6⟩:=h1;refine⟨f1,f2,by simpa using f3,by simpa[hv]using f4,λe he=>?_,?_⟩
    ·simp only[cond_true,aAW]at he;obtain⟨e0,k1,rfl⟩:=he;rw[(Ej g v z e0).1];exact f5 e0 k1
    ·cases hb:L'.b with
     | none=>rw[hb]at f6;exact⟨f6.1,by rw[hv]at f6;exact f6.2⟩
     | some b =>
      rw[hb]at f6;obtain⟨C,hC,hCs,hcell⟩:=f6;refine⟨C,hC,hCs,λi j e d he hd=>?_⟩
      simp only[cond_true,aAS,aAL]at he;obtain⟨e0,k1,rfl⟩:=he;rw[(Ej g v z e0).2,aAL]at hd;obtain⟨d0,k2,rfl⟩:=hd;obtain⟨x,x1,x2,x3⟩:=hcell i j e0 d0 k1 k2;rw[if_pos hv]at x3;exact⟨x,x1,x2,by simpa using AL hfr (x3.mono hsub (Aw.refl _))⟩
 ·intro k k' u u' q q' L1 L2 b hk hk' hf hf' hL1 hL2 hb1 hb2;obtain⟨n1,q0,hk0,rfl⟩:=hgo k u q hk;obtain⟨n1',q0',hk0',rfl⟩:=hgo k' u' q' hk';exact h.dist k k' u u' q0 q0' L1 L2 b hk0 hk0' hf hf' hL1 hL2 hb1 hb2
 ·intro k u q L' b hk hf hL' hb;obtain⟨n1,q0,hk0,rfl⟩:=hgo k u q hk;obtain⟨s1,s2,s3⟩:=h.sep k u q0 L' b hk0 hf hL' hb;exact⟨λi=>by rw[hFn b i (hne k u q0 L' b n1 hk0 hf hL' hb)];exact s1 i,s2,s3⟩
 ·obtain⟨φ,hφ⟩:=h.Ad;have hφZ:∀ k i j b,φ k i j b->¬ Z b:=λk i j b hb hzb=>hφ.sep k i j b g v o L hb hg hfz hL hzb
  refine⟨φ,hφ.keep hsub (Aw.refl _) (aAF _) (λk i j b hb m=>hFn b m (hφZ k i j b hb)) (λ_ _ _ _ _=>rfl) (λk u q hk=>?_) (λk u q hrk hk hf=>.inl ?_) (λk i j b k' u' q' L' hb hk' hf' hL'=>?_)⟩
  ·obtain⟨L,hL,_⟩:=h.own k u q hk;exact⟨L,hL⟩
  ·obtain⟨n1,q0,hk0,rfl⟩:=hgo k u q hk;refine⟨q0,hk0,hf,rfl,rfl,λi j e c he hj hp=>⟨?_,λL b C x _ _ hC hx=>⟨C,hC,hx⟩⟩⟩
   cases hv:q0.var with
   | false=>simp only[hv,cond_false]at he;exact⟨e,he,hj⟩
   | true =>
    simp only[hv,cond_true,aAS,aAL]at he;obtain⟨e0,k1,rfl⟩:=he;rw[(Ej g v z e0).2,aAL]at hj;obtain⟨d0,k2,k3⟩:=hj;have hrr:=KQ (g:=g) (v:=v) (z:=z) (d:=d0);refine⟨e0,k1,?_⟩;cases c<;>first|(cases hp;done)|skip
    ·rw[hrr.1 _ _ _ k3]at k2;exact k2
    ·rw[hrr.2 _ _ _ k3]at k2;exact k2
  ·obtain⟨n1,q0,hk0,rfl⟩:=hgo k' u' q' hk';exact hφ.sep k i j b k' u' q0 L' hb hk0 hf' hL'
 ·intro b i x hx
  by_cases hzb:Z b
  ·rw[hZF b i hzb]at hx;exact hx
  ·rw[hFn b i hzb]at hx;exact h.frz b i x hx
 ·intro b i x hx
  by_cases hzb:Z b
  ·exact(hsep b hzb).2.1
  ·rw[hFn b i hzb]at hx;exact h.fin b i x hx
 ·refine⟨h.step.os,h.step.tape,h.step.output,h.step.size,h.step.block,h.step.sub.trans hsub,λb i hb hM=>?_⟩
  rw[<- h.step.old b i hb hM];refine hFn b i λhzb=>?_
  rcases(hsep b hzb).2.2 with h1|h1
  ·omega
  ·exact hM h1.1
theorem Sim.Mi (h:Sim N Δ w0 F0 M B0 σ F β a w) (hnv:β nv=none) {s:Nat} (hs:0<s) (n:Nat):Sim N Δ w0 F0 M B0 ⟨σ.e,(t,some (nv,⟨false,false,s,ty,[]⟩))::σ.o,n⟩ F (upB β nv ⟨none,0,s⟩) a w:=by
 have hβ:=AW (β:=β) (nv:=nv) ⟨none,0,s⟩ hnv;have hgo:∀ k,(S.mk σ.e ((t,some (nv,⟨false,false,s,ty,[]⟩))::σ.o) n).go k=if k=t then some (nv,⟨false,false,s,ty,[]⟩)else σ.go k:=by
  intro k;simp only[S.go,look]
  grind
 have hok:Au F (upB β nv ⟨none,0,s⟩) w ⟨none,0,s⟩ ⟨false,false,s,ty,[]⟩:=⟨rfl,hs,by simp,by simp,λe he=>by simp at he,rfl,rfl⟩
 have hold:∀ g v o L,σ.go g=some (v,o)->upB β nv ⟨none,0,s⟩ v=some L->β v=some L:=by
  intro g v o L hg hL;obtain⟨L0,e0,_⟩:=h.own g v o hg;have:=hβ _ _ e0;simp_all
 refine h.change (row:=λ_=>False) rfl rfl rfl (aAF _) (λ_ _ _=>rfl) (λ_ hr=>hr.elim) (NX.refl _) (λ_ _ _ _=>rfl) h.frz h.fin hβ h.size h.defers (λt'=>(h.env t').mono (NX.refl _) hβ) ?_ ?_ ?_
 ·grind [Ak]
 ·intro g g' v v' o o' L L' b hg hg' hf hf' hL hL' hb hb' hr;have hr:=hr.resolve_left id;have key:∀ g v o L,(S.mk σ.e ((t,some (nv,⟨false,false,s,ty,[]⟩))::σ.o) n).go g=some (v,o)->o.fz=false->upB β nv ⟨none,0,s⟩ v=some L->L.b=some b->False:=by
   intro g v o L hg hf hL hb;rw[hgo]at hg;split at hg
   ·grind [Ak]
   ·have:=(h.sep g v o L b hg hf (hold g v o L hg hL) hb).2.1;omega
  grind
 ·intro φ hφ;refine⟨φ,hφ.keep (NX.refl _) hβ (aAF _) (λ_ _ _ _ _ _=>rfl) (λ_ _ _ _ _=>rfl) (λg v o hg=>by obtain⟨L,hL,_⟩:=h.own g v o hg;simp_all) (λg1 v1 o1 hr hg1 hf=>?_) (λg1 i j b g2 v2 o2 L2 hb hg2 hf2 hL2=>?_)⟩
  ·grind
  ·rw[hgo]at hg2;split at hg2
   ·grind [Ak]
   ·exact hφ.sep g1 i j b g2 v2 o2 L2 hb hg2 hf2 (hold _ _ _ _ hg2 hL2)
theorem Ll (h:Sim N Δ w0 F0 M B0 σ F β a w) (hf:∀ v,σ.n<=v->β v=none) {s:Nat} {o:Own} (hg:σ.go g=some (v,o)) (hr:Dw.Ad g=false) (hfz:o.fz=false) (hvar:o.var=true) (hi:i<o.es.length) (hc:(cells (o.es.getD i .top))[off]? =some .nils) (hs:0<s) (hne:g≠t) (n:Nat) :
  Sim N Δ w0 F0 M B0 ⟨σ.e,(g,some (v,{ o with es:=o.es.set i (Ps (o.es.getD i .top) off [.osl t σ.n 0 0]) }))::(t,some (σ.n,⟨false,false,s,ty,[]⟩))::σ.o,n⟩ F (upB β σ.n ⟨none,0,s⟩) a w:=by
 have h1:=h.Mi (t:=t) (ty:=ty) (hf σ.n (aAF _)) hs n;have hg1:(S.mk σ.e ((t,some (σ.n,⟨false,false,s,ty,[]⟩))::σ.o) n).go g=some (v,o):=by
  simp_all[S.go,look]
 obtain⟨L,hL,_,hk⟩:=h1.own g v o hg1;have hok:Au F (upB β σ.n ⟨none,0,s⟩) w L { o with es:=o.es.set i (Ps (o.es.getD i .top) off [.osl t σ.n 0 0]) }:=by
  obtain⟨k1,k2,k3,k4,k5,k6⟩:=hk hfz;have hcl:∀ j,(cells (Ps (o.es.getD i .top) off [.osl t σ.n 0 0]))[j]? =if j=off then some (.osl t σ.n 0 0)else(cells (o.es.getD i .top))[j]?:=λj=>(BH (aAE.1 hc).1 rfl j).2
  have hln:(cells (Ps (o.es.getD i .top) off [.osl t σ.n 0 0])).length=(cells (o.es.getD i .top)).length:=(BH (aAE.1 hc).1 rfl 0).1;have hmem:o.es.getD i .top∈o.es:=by
   simp_all
  refine⟨k1,k2,by simp_all,k4,λe he=>?_,?_⟩
  ·grind
  ·cases hb:L.b with
   | none=>simp_all
   | some b =>
    rw[hb]at k6;obtain⟨C,hC,hCs,hcell⟩:=k6;refine⟨C,hC,hCs,λi' j e d he hd=>?_⟩
    by_cases e':i'=i
    ·subst e';rw[aAT hi]at he;cases he;rw[hcl]at hd;split at hd
     ·rename_i ej;subst ej;cases hd;obtain⟨x,x1,x2,x3⟩:=hcell i' j _ .nils (by simp[hi]) hc
      refine⟨x,x1,x2,?_⟩;rw[if_pos hvar]at x3 ⊢;have x3:Fro F .nils x:=x3;cases x3;exact⟨⟨none,0,s⟩,none,Ak _ _ _,rfl,aAF _,λ_=>rfl,λh=>absurd h (Nat.lt_irrefl 0)⟩
     simp_all
    grind
 have:=h1.wrote (c:=True) (dst:=none) (d:=.top) (x:=undef) hg1 hfz hL rfl rfl rfl (aAF _) (λ_ _ _=>rfl) hok (λe=>by simp_all) (λt e=>by cases e) (Env.top _)
 exact this
theorem Gh {e:D} (h:(cells e)[off]? =some d) (h1:cells d=[d]):cells (Ps e off [d])=cells e:=by
 obtain⟨k1,_⟩:=BH (aAE.1 h).1 h1 0;apply List.ext_getElem?
 grind [BH]
theorem JB (h:Sim N Δ w0 F0 M B0 σ F β a w) {gw vw k:Nat} {ow o:Own} (hgw:σ.go gw=some (vw,ow)) (hrw:Dw.Ad gw=false) (hfzw:ow.fz=false) (hi:i<ow.es.length) (hc:(cells (ow.es.getD i .top))[off]? =some (.osl g v 0 k)) (hg:σ.go g=some (v,o)) (hr:Dw.Ad g=false) (hfz:o.fz=false) (hk:k<=o.es.length) (hne:gw≠g) :
  Sim N Δ w0 F0 M B0 ⟨σ.e,(gw,some (vw,{ ow with es:=ow.es.set i (Ps (ow.es.getD i .top) off [.osl g v 0 (o.es.take k).length]) }))::(g,some (v,{ o with es:=o.es.take k }))::σ.o,σ.n⟩ F β a w:=by
 obtain⟨L,hL,_,hk1⟩:=h.own g v o hg;have hok:Au F β w L { o with es:=o.es.take k }:=Au.cut (o:=o) (es:=o.es) (hk1 hfz) k
 have h1:=h.wrote (c:=True) (dst:=none) (d:=.top) (x:=undef) hg hfz hL rfl rfl rfl (aAF _) (λ_ _ _=>rfl) hok (λe=>by simp_all) (λt e=>by cases e) (Env.top _)
 have hgw1:(σ.app ⟨True,Ah none .top,[(g,some (v,{ o with es:=o.es.take k }))]⟩).go gw=some (vw,ow):=by
  simp_all[S.CN,look]
 obtain⟨Lw,hLw,_,hkw⟩:=h1.own gw vw ow hgw1;have hlen:(o.es.take k).length=k:=by simp;omega
 have hsame:∀ e∈ow.es.set i (Ps (ow.es.getD i .top) off [.osl g v 0 (o.es.take k).length]),∃ e'∈ow.es,cells e=cells e':=by
  intro e he;rcases aAZ he with he|rfl
  ·grind
  ·have hm:ow.es[i]? =some (ow.es.getD i .top):=by simp[hi]
   refine⟨_,aAA hm,?_⟩;rw[hlen];exact Gh hc rfl
 have hget:∀ (i':Nat) e,(ow.es.set i (Ps (ow.es.getD i .top) off [.osl g v 0 (o.es.take k).length]))[i']? =some e->∃ e',ow.es[i']? =some e'/\cells e=cells e':=by
  intro i' e he
  by_cases e':i'=i
  ·subst e';rw[aAT hi]at he;cases he;refine⟨ow.es.getD i' .top,by simp[hi],?_⟩
   rw[hlen];exact Gh hc rfl
  grind
 have hokw:Au F β w Lw { ow with es:=ow.es.set i (Ps (ow.es.getD i .top) off [.osl g v 0 (o.es.take k).length]) }:=by
  obtain⟨k1,k2,k3,k4,k5,k6⟩:=hkw hfzw;refine⟨k1,k2,by simp_all,k4,λe he=>?_,?_⟩
  ·grind
  ·cases hb:Lw.b with
   | none=>simp_all
   | some b =>
    rw[hb]at k6
    grind
 have:=h1.wrote (c:=True) (dst:=none) (d:=.top) (x:=undef) hgw1 hfzw hLw rfl rfl rfl (aAF _) (λ_ _ _=>rfl) hokw (λe=>by simp_all) (λt e=>by cases e) (Env.top _)
 exact this
theorem Sim.rw {τ:S} (h:Sim N Δ w0 F0 M B0 σ F β a w) (hf:∀ v,σ.n<=v->β v=none) (hw:Rw σ τ):∃ F' β',Sim N Δ w0 F0 M B0 τ F' β' a w/\∀ v,τ.n<=v->β' v=none:=by
 cases hw with
 | close g v i off g' v' m og o' c hg hr hfz hi hc hh hg' hfz' hvar hm hp hne=>exact⟨F,β,Kd h hg hr hfz hi hc hh hg' hfz' hvar hm hp hne,hf⟩
 | enrich g g2 v o es' hg hfz hn he=>exact⟨F,β,JA h hg hfz hn he,hf⟩
 | frows g v o es' hg hr hfz he=>grind [Ke]
 | nilsl g v o hg hr hfz hvar=>exact⟨F,β,Kf h hg hr hfz hvar,hf⟩
 | nams rn hn=>exact⟨F,β,Lk h hn,hf⟩
 | fvar g v o z hg hfz hvar hz hc=>grind [Lj]
 | opn g v i off t s ty es o hg hr hfz hvar hi hrow hne =>
  obtain⟨L,h'⟩:=Mj h (hf σ.n (aAF _)) hg hr hfz hvar hi hrow hne (σ.n+1);refine⟨F,_,h',λv hv=>?_⟩
  have hv':σ.n+1<=v:=hv;simp only[upB]
  grind
 | shrink gw vw i off g v k ow o hgw hrw hfzw hvarw hi hc hg hr hfz hvar hk hne=>exact⟨F,β,JB h hgw hrw hfzw hi hc hg hr hfz hk hne,hf⟩
 | nilv g v i off t s ty o hg hr hfz hvar hi hc hs hne =>
  refine⟨F,_,Ll h hf hg hr hfz hvar hi hc hs hne (σ.n+1),λv hv=>?_⟩
  have hv':σ.n+1<=v:=hv;simp only[upB]
  grind
 | opnr g v i off t s ty es o hg hr hfz hvar hi hrow hne =>
  obtain⟨L,h'⟩:=La h (hf σ.n (aAF _)) hg hr hfz hi hrow hne (σ.n+1);refine⟨F,_,h',λv hv=>?_⟩
  have hv':σ.n+1<=v:=hv;simp only[upB]
  grind
end
section
variable {N:Nat} {Δ:List Deferred} {w0:World} {F0:Fz} {M:Nat->Prop} {B0:Bt} {P:Program}
theorem IG (hd:((AE d).run σ).1):cells d=[d]/\cells ((AE d).run σ).2.1=[((AE d).run σ).2.1]:=by
 cases d<;>first|exact hd.elim|exact⟨rfl,rfl⟩|skip
 refine⟨rfl,?_⟩;simp only[AE,R.run]at hd ⊢;split<;>simp_all<;>rfl
theorem DA.get {σ:S} {ws:List (Nat×Aa)}:∀ {cs cs':List D},DA σ ws cs cs'->cs'.length=cs.length/\∀ (j:Nat) c',cs'[j]? =some c'->∃ c,cs[j]? =some c/\CS σ ws c c'
 | [],[],_=>⟨rfl,λj c' h=>by simp at h⟩
 | c::r,c'::r',h=>by
  obtain⟨h1,h2⟩:=h;obtain⟨l,g⟩:=DA.get h2;refine⟨by simp[l],λj x hx=>?_⟩
  cases j with
  | zero=>simp at hx;subst hx;exact⟨c,by simp,h1⟩
  | succ j=>simp at hx;simpa using g j x hx
 | [],_::_,h=>h.elim
 | _::_,[],h=>h.elim
theorem Conv.cells {z':D} (h:Conv σ ws z z'):(Dw.cells z').length=(Dw.cells z).length/\∀ (j:Nat) c',(Dw.cells z')[j]? =some c'->∃ c,(Dw.cells z)[j]? =some c/\CS σ ws c c':=by
 rcases h with(rfl|⟨h1,rfl,h3⟩)|⟨cs,cs',rfl,rfl,h⟩
 ·exact⟨rfl,λj c' hc=>⟨c',hc,.inl rfl⟩⟩
 ·obtain⟨e1,e2⟩:=IG h1;rw[e1,e2];refine⟨rfl,λj c' hc=>?_⟩
  rcases j with _|j
  ·simp at hc;subst hc;exact⟨z,by simp,.inr ⟨h1,rfl,h3⟩⟩
  simp_all
 ·exact h.get
theorem Sim.Ez {τ:S} {w:World} (h:Sim N Δ w0 F0 M B0 σ F β a w) (hw:LN ws σ τ):∃ F',Sim N Δ w0 F0 M B0 τ F' β a w:=by
 obtain⟨F',hsub,hS,_⟩:=h.freeze hw.fz;refine⟨F',?_⟩;have hcel:∀ c c' v,CS σ ws c c'->Cel F β c v->Cel F' β c' v:=by
  rintro c c' v (rfl|⟨h1,rfl,h3⟩) hv
  ·exact hv.mono hsub (Aw.refl _)
  ·exact Cel.Af ((DM h c hv h1).2 ws F' hw.fz h3 hsub hS)
 have hval:∀ d d' x,Conv σ ws d d'->Env F β d x->Env F' β d' x:=by
  rintro d d' x ((rfl|⟨h1,rfl,h3⟩)|⟨cs,cs',rfl,rfl,hc⟩) hv
  ·exact hv.mono hsub (Aw.refl _)
  ·have hc:Cel F β d x:=by cases d<;>first|exact h1.elim|exact hv
   exact Env.Af ((DM h d hc h1).2 ws F' hw.fz h3 hsub hS)
  ·obtain⟨vs,rfl,hl,h1,hc1⟩:=hv;obtain⟨l,g⟩:=hc.get;refine⟨vs,rfl,by rw[l,hl],h1,λj c' v hc' hv'=>?_⟩
   grind
 have hgo:∀ g v o,τ.go g=some (v,o)->(S.mk σ.e (ws++σ.o) σ.n).go g=some (v,o)\/∃ o' z z',(S.mk σ.e (ws++σ.o) σ.n).go g=some (v,o')/\o'.var=true/\o'.es=[z]/\o={ o' with es:=[z'] }/\Conv σ ws z z':=by
  intro g v o hg;simp only[S.go]at hg;cases hl:look τ.o g with
  | none=>simp_all
  | some y =>
   rw[hl]at hg;simp only[aAH]at hg;subst hg;rcases hw.o _ (Bj hl)with h1|⟨v',o',z,z',h1,h2,h3,h4,h5⟩
   ·exact .inl h1
   ·simp only[Option.some.injEq,Prod.mk.injEq]at h4;obtain⟨rfl,rfl⟩:=h4;exact .inr ⟨o',z,z',h1,h2,h3,rfl,h5⟩
 have hgo':∀ g v o,τ.go g=some (v,o)->∃ o',(S.mk σ.e (ws++σ.o) σ.n).go g=some (v,o')/\o'.fz=o.fz/\o'.var=o.var:=by
  grind
 refine{ nam:=hS.nam,size:=hS.size,defers:=hS.defers,env:=λt=>?_,own:=λg v o hg=>?_,dist:=λg g' v v' o o' L L' b hg hg' hf hf'=>?_,sep:=λg v o L b hg hf=>?_,Ad:=?_,frz:=hS.frz,fin:=hS.fin,step:=hS.step }
 ·simp only[S.ge];cases hl:look τ.e t with
  | none=>exact Env.top _
  | some d =>
   simp only[aAH];exact hval _ _ _ (hw.e _ (Bj hl)) (h.env t)
 ·rcases hgo g v o hg with h1|⟨o',z,z',h1,h2,h3,rfl,h5⟩
  ·exact hS.own g v o h1
  ·rcases hw.fz.go g with⟨v2,o2,k1,k2,_,k4⟩|⟨_,k2⟩
   ·grind
   ·rw[k2]at h1;obtain⟨L,hL,hz,hk⟩:=h.own g v o' h1;refine⟨L,hL,λhfz=>?_,λhfz=>?_⟩
    ·have:=(hz hfz).var;simp_all
    ·obtain⟨e1,e2,e3,e4,e5,e6⟩:=hk hfz;obtain⟨l,gg⟩:=h5.cells;refine⟨e1,e2,by simp_all,e4,λe he=>?_,?_⟩
     ·simp_all
     ·cases hb:L.b with
      | none=>simp_all
      | some b =>
       rw[hb]at e6;obtain⟨C,hC,hs,hx⟩:=e6;refine⟨C,hC,hs,λi j e d he hd=>?_⟩
       rcases i with _|i
       ·simp only[aAG,Option.some.injEq]at he;subst he;obtain⟨c,q1,q2⟩:=gg j d hd;obtain⟨x,x1,x2,x3⟩:=hx 0 j z c (by rw[h3];rfl) q1
        grind
       simp_all
 ·obtain⟨o1,q1,q2,q3⟩:=hgo' g v o hg;obtain⟨o2,r1,r2,r3⟩:=hgo' g' v' o' hg';exact hS.dist g g' v v' o1 o2 L L' b q1 r1 (q2.trans hf) (r2.trans hf')
 ·obtain⟨o1,q1,q2,q3⟩:=hgo' g v o hg;have:=hS.sep g v o1 L b q1 (q2.trans hf);exact this
 ·obtain⟨φ,hφ⟩:=hS.Ad;refine⟨φ,hφ.keep (NX.refl _) (Aw.refl _) (aAF _) (λ_ _ _ _ _ _=>rfl) (λ_ _ _ _ _=>rfl) (λg v o hg=>?_) (λg v o hr hg hf=>.inl ?_) (λg i j b g' v' o' L' hb hg hf hL=>?_)⟩
  ·obtain⟨L,hL,_⟩:=hS.own g v o hg;simp_all
  ·rcases hgo g v o hg with h1|⟨o',z,z',h1,h2,h3,rfl,h5⟩
   ·simp_all
   ·refine⟨o',h1,hf,rfl,rfl,λi j e c he hj hp=>⟨⟨z,?_⟩,λL b C x _ _ hC hx=>⟨C,hC,hx⟩⟩⟩
    rcases i with _|i
    ·simp only[aAG,Option.some.injEq]at he;subst he;obtain⟨_,gg⟩:=h5.cells;obtain⟨c0,q1,q2⟩:=gg j c hj;refine⟨by rw[h3];rfl,?_⟩
     rcases q2 with rfl|⟨k1,k2,_⟩
     ·exact q1
     ·have hrr:=Fe (σ:=σ) k1;cases c<;>first|(cases hp;done)|skip
      ·have:=hrr.1 _ _ _ k2;subst this;exact q1
      ·have:=hrr.2 _ _ _ k2;subst this;exact q1
    simp_all
  ·obtain⟨o1,q1,q2,_⟩:=hgo' g' v' o' hg;exact hφ.sep g i j b g' v' o1 L' hb q1 (q2.trans hf) hL
theorem Sim.chg {τ:S} {w:World} (h:Sim N Δ w0 F0 M B0 σ F β a w) (hf:∀ v,σ.n<=v->β v=none) (hw:Chg σ τ):∃ F' β',Sim N Δ w0 F0 M B0 τ F' β' a w/\∀ v,τ.n<=v->β' v=none:=by
 induction hw generalizing F β with
 | refl=>grind
 | Ez ws hw _ ih =>
  obtain⟨F',h'⟩:=h.Ez hw;exact ih h' λv hv=>hf v (Nat.le_trans hw.n hv)
 | rw hw _ ih =>
  obtain⟨F',β',h',hf'⟩:=h.rw hf hw
  grind
def QR (N:Nat) (Δ:List Deferred) (w0:World) (F0:Fz) (M:Nat->Prop) (B0:Bt) (Q:Aq->S->Prop):Exit->Act->World->Prop:=λe a w =>
 ∃ τ F β,Sim N Δ w0 F0 M B0 τ F β a w/\(∀ v,τ.n<=v->β v=none)/\match e with
  | .normal=>Q .normal τ
  | .exit id=>Q (.exit id) τ
  | .ret=>Q .ret τ
  | _=>False
theorem Jd {type:TypeId} {op:Op} {fa:Arg} {args:List Arg} (h:cOp P type op=some (.call fa args)) :
  ∃ cf cas cts,op= .call { callee:=.value cf,args:=cas,argTypes:=cts }/\Ao cf=some fa/\Ch cas.toList=some args:=by
 by_cases hop:∃ c,op= .call c
 ·obtain⟨c,rfl⟩:=hop;simp only[cOp,Iw]at h;split at h
  ·rename_i f h1;simp only[aAB,aA]at h;obtain⟨x,hx,y,hy,he⟩:=h;cases he;cases c with
   | mk callee cargs argTypes =>
    simp only at h1;subst h1
    grind
  ·grind [aA]
  ·exfalso;revert h;split<;>simp[aA]
  all_goals grind [aA]
 ·exfalso;unfold cOp at h;split at h
  all_goals first
   | (exact hop ⟨_,rfl⟩)
   | (revert h;simp[aA];done)
   | (revert h;(repeat' split)<;>simp[aA];done)
   | (grind [JM,JN,aA])
   | (grind [aA])
   | grind [aA]
theorem HI (hΓ:∀ k sp,Γ k=some sp->Bm P F0 (k % 4096) sp) {w:World} (h:Sim N Δ w0 F0 M B0 σ F β a w) (hf:∀ v,σ.n<=v->β v=none) (hop:Cr P N ops false i o=some o') {KS:S->Prop} (hx:FE Γ o' σ KS) (K:Act->World->Prop) (Q:Exit->Act->World->Prop) (hK:∀ a' w' F' β' τ,Sim N Δ w0 F0 M B0 τ F' β' a' w'->(∀ v,τ.n<=v->β' v=none)->KS τ->K a' w') :
  if Region.wanted o (yielded ops a.tmps)then o.wp P a w K Q else K (a.put o.dst undef) w:=by
 obtain⟨hon,fa,args,f,caps,sp,φ,K0,hK0,hcall,hclo,hblt,hG,hopn,hall,hφ⟩:=hx;unfold Cr at hop;simp only[aA]at hop;obtain⟨dop,hdop,g,hg,he⟩:=hop;split at he
 ·rename_i hcond;simp only[aAP]at hcond;obtain⟨hdst,_⟩:=hcond;cases he;simp only at hcall hφ hon;subst hcall;have hwant:Region.wanted o (yielded ops a.tmps)=true:=by
   cases hgd:o.guard with
   | none=>grind [Region.wanted]
   | some p =>
    obtain⟨j,want⟩:=p;rw[hgd]at hg;simp only[Fj,aA]at hg;obtain⟨oj,hoj,t,ht,hg⟩:=hg;cases hg;obtain⟨h1,h2⟩:=hon;have hy:yielded ops a.tmps j=match a.tmps[t]? with|some (.bool b)=>some b|_=>none:=by
     grind [yielded]
    have hget:∀ b:Bool,a.tmps.getD t undef= .bool b->a.tmps[t]? =some (.bool b):=by
     intro b hb;rw[aAD]at hb;cases hh:a.tmps[t]? with
     | none=>rw[hh]at hb;cases hb
     | some v=>simp_all
    have henv:=h.env t;generalize σ.ge t=gd at *;have fin:∀ b:Bool,a.tmps.getD t undef= .bool b->(b==want)=true->Region.wanted o (yielded ops a.tmps)=true:=by
     grind [Region.wanted]
    cases gd with
    | bool b=>exact fin b (BB (β:=β) (F:=F) henv) h2
    | when p d =>
     cases d with
     | bool b =>
      simp only[guardOf,aAP]at h2;exact fin b (BB (β:=β) (F:=F) (henv.1 h2.1)) h2.2
     | _=>exact h1.elim
    | _=>exact h1.elim
  rw[if_pos hwant];obtain⟨cf,cas,cts,hoo,hfa,hys⟩:=Jd hdop;have hfe:=Ce h hfa;rw[hclo]at hfe;obtain⟨vs,hvs,hvl,hvr⟩:=hfe;obtain⟨l,r⟩:=CD h hys;have hsp:=hΓ _ sp hG;have hkm:(unb args f+4096*AJ ((AD args).run σ)) % 4096=unb args f:=by
   simp_all
  rw[hkm]at hsp;obtain⟨fn,hfn,hnm,hbd⟩:=hsp.1;have hrun:(execOp a.eval o).run P w= .ok (.enter (unb args f) (cas.toList.map a.eval++vs).toArray) w:=GI hoo rfl hblt hvs (λe=>by rw[e]at l;exact l.symm) hfn hnm hbd
  have hvals:∀ (q:Nat) d x,((AD args).run σ++caps)[q]? =some d->(cas.toList.map a.eval++vs)[q]? =some x->Val F β d x:=by
   intro q d x hq hx
   by_cases hlt:q<cas.toList.length
   ·rw[aAQ (by omega)]at hq
    rw[aAQ (by simp_all)]at hx
    have henv:=r q d x hq hx;have hnw:=aAJ.1 hall d (aAA hq);cases d<;>first|exact henv|cases hnw
   grind [Val.Am,Cel.BZ]
  have hcall:=hsp.2.2.2.1 φ hopn F0 (NX.refl _) N Δ w0 M B0 σ F β a w ((AD args).run σ++caps) (cas.toList.map a.eval++vs) _ h hf (by simp_all) hvals hφ
  unfold Oper.wp;rw[hrun];simp only[Oper.upon];refine hcall.mono ?_;rintro e w' ⟨v,d,o',n',F',β',rfl,hS,hfr,hv,hk⟩;have hd:∀ t,o.dst=some t->t<N:=by
   intro t ht;simp_all[Cu]
  have hS':=hS.put (c:=True) (dst:=o.dst) (d:=d) (v:=v) hd (Env.Ai hv) (w':=w') rfl rfl rfl rfl;exact hK _ _ F' β' _ hS' hfr (hK0 _ hk)
 ·cases he
theorem BO {Γ:Al} (hΓ:∀ k sp,Γ k=some sp->Bm P F0 (k % 4096) sp) {ops:Array Oper} {Q:Exit->Act->World->Prop} {KD:S->Prop} {rest:List Oper}:∀ (l:List Oper) (i:Nat) (ds:List Ar),Bu P N ops false i l=some ds ->
  ∀ (σ:S) (F:Fz) (β:Bt) (a:Act) (w:World) (nv:Nat),Sim N Δ w0 F0 M B0 σ F β a w->(∀ v,nv<=v->β v=none)->wpS Γ ds nv σ KD ->
  (∀ τ F' β' a' w',Sim N Δ w0 F0 M B0 τ F' β' a' w'->(∀ v,τ.n<=v->β' v=none)->KD τ->wpList P ops Q rest a' w')->wpList P ops Q (l++rest) a w
 | [],i,ds,hds,σ,F,β,a,w,nv,h,hf,hw,hQ=>by
  simp only[Bu,Option.some.injEq]at hds;subst hds;exact hQ { σ with n:=nv } F β a w (h.congr λk=>by cases k<;>rfl) hf hw
 | o::l,i,ds,hds,σ,F,β,a,w,nv,h,hf,hw,hQ=>by
  simp only[Bu,aAB,aA]at hds;obtain⟨o',ho',r,hr,he⟩:=hds;cases he;refine wpList_step λK hK=>?_
  rcases hw with⟨hc,hw'⟩|⟨σ1,hchg1,hx⟩
  ·refine Fw hΓ h ho' (hf nv (aAF _)) hc K Q λa' w' F' β' hS hb1 hb2=>hK a' w' ?_
   refine BO hΓ l (i+1) r hr _ F' β' a' w' (nv+1) hS (λv hv=>?_) hw' hQ
   grind
  ·obtain⟨F1,β1,h1,hf1⟩:=Sim.chg (σ:={ σ with n:=nv }) (h.congr λk=>by cases k<;>rfl) hf hchg1
   refine HI hΓ h1 hf1 ho' hx K Q λa' w' F' β' τ hS hfr hk=>hK a' w' ?_
   obtain⟨τ2,hchg,hk⟩:=hk;obtain⟨F2,β2,hS2,hfr2⟩:=hS.chg hfr hchg;exact BO hΓ l (i+1) r hr τ2 F2 β2 a' w' τ2.n hS2 hfr2 hk hQ
theorem Iy {N:Nat} {ds:List Ar} {dl:Ar} (h:EB P N ops=some (ds,dl)):∃ init l,ops=init.push l/\Cr P N ops false init.size l=some dl/\(∀ o∈ops.toList,o.guard=none)/\DE init init.size (AA true l)=true/\(∀ e∈AA true l,e<init.size)/\Bu P N init true 0 init.toList=some ds:=by
 unfold EB at h;split at h
 ·cases h
 ·rename_i l hl;obtain⟨init,rfl⟩:=Array.back?_eq_some_iff.1 hl;split at h
  ·cases h
  ·simp only[aA,Array.pop_push]at h;obtain⟨dl',hdl,h⟩:=h;split at h
   ·rename_i hc;simp only[aAP,aAJ,decide_eq_true_eq,Option.isNone_iff_eq_none]at hc
    grind [aAL]
   ·cases h
theorem IE (hΓ:∀ k sp,Γ k=some sp->Bm P F0 (k % 4096) sp) {id:Nat} {ds:List Ar} {dl:Ar} (hm:P.follows .mixedOrders=true) (hcut:EB P N ops=some (ds,dl)) {Q:Aq->S->Prop} {w:World} (h:Sim N Δ w0 F0 M B0 σ F β a w) (hf:∀ v,σ.n<=v->β v=none) (hw:DWp Γ (.seq (.reg ds true) (.reg [dl] false)) Q σ):(Code.region id ops true).wp P (QR N Δ w0 F0 M B0 Q) a w:=by
 obtain⟨init,l,rfl,hdl,hg,hcov,hlt,hds⟩:=Iy hcut;obtain⟨σ0,hchg0,hw⟩:=hw;obtain⟨F,β,h,hf⟩:=h.chg hf hchg0;rw[if_pos rfl]at hw;obtain⟨hw1,hw2⟩:=hw;have h':Sim N Δ w0 F0 M B0 σ0 F β a { w with drawn:=w.drawn+1 }:=by
  have:=h.put (c:=True) (dst:=none) (d:=.top) (v:=undef) (λt e=>by cases e) (Env.top _) (w':={ w with drawn:=w.drawn+1 }) rfl rfl rfl rfl
  exact this
 refine wp_region_any hm ?_;obtain⟨hlen,hget⟩:=CU init.toList 0 ds hds;simp only[aAp]at hlen;have hol:=(CQ Γ ds σ0.n σ0 0 (λ_=>true) (λ_=>rfl)).1
 let Q1:Exit->Act->World->Prop:=λe a w=>match e with
  | .normal=>∃ τ F' β',Sim N Δ w0 F0 M B0 τ F' β' a w/\(∀ v,τ.n<=v->β' v=none)/\Wk (DWp Γ (.reg [dl] false) Q) τ
  | e=>QR N Δ w0 F0 M B0 Q e a w
 have key:wpAny P .any init Q1 init.size (aAI init.size false) a { w with drawn:=w.drawn+1 }:=by
  refine FU (Δ:=Δ) (w0:=w0) (F0:=F0) (M:=M) (B0:=B0) hΓ hds hw1 hw2 (λτ F' β' a' w' hS hf' hk=>?_) init.size (aAI init.size false) F β a _ (by simp) ?_ ?_ ?_ ?_
  ·obtain⟨τ',hk1,hk2⟩:=hk;exact⟨{ τ' with n:=σ0.n+ds.length },F',β',hS.congr (λk=>(by cases k<;>rfl:({ τ' with n:=σ0.n+ds.length }:S).get k=τ'.get k).trans (hk2 k)),hf',hk1⟩
  ·rw[aBA.2]
   all_goals simp_all
  ·simp_all[aAs]
  ·simp_all
  ·have hnone:∀ (us:List Out) (i:Nat) (τ:S),i+us.length<=init.size->AV (λi=>(aAI init.size false).getD i true) us i τ=τ:=by
    intro us
    induction us with
    | nil=>intro i τ _;rfl
    | cons u us ih =>
     intro i τ hle;simp only[aAw]at hle;have hi:i<init.size:=by omega
     simp only[AV];have hne:¬ ((aAI init.size false).getD i true=true):=by simp[hi]
     grind
   simp_all
 have hre:aAI (init.push l).size false=(aAI init.size false).push false:=by
  grind
 rw[hre,aAx];refine JJ hg (λj o ho e he=>?_) hcov hlt ?_ ?_ init.size _ a _ (by simp) (λj o ho hj=>?_) key
 ·obtain⟨o',_,h2⟩:=hget j o (by simp_all)
  have:=(CI h2).2 e he;omega
 ·grind
 ·rintro a w ⟨τ,F',β',hS,hfr,τ1,hchg1,τ2,hchg2,hwS⟩;obtain⟨F1,β1,h1,hf1⟩:=hS.chg hfr hchg1;obtain⟨F2,β2,h2,hf2⟩:=h1.chg hf1 hchg2;rw[if_neg (by simp)]at hwS
  have hl1:Bu P N (init.push l) false init.size [l]=some [dl]:=by grind [Bu]
  have:=BO (w0:=w0) (F0:=F0) (M:=M) (B0:=B0) (Q:=QR N Δ w0 F0 M B0 Q) (rest:=[]) hΓ [l] init.size [dl] hl1 τ2 F2 β2 a w τ2.n h2 hf2 hwS (λτ F' β' a' w' hS hf' hk=>⟨τ,F',β',hS,hf',hk⟩)
  simp_all[wpList,Region.wanted]
 ·rw[aAD]at hj
  grind
theorem Be {Γ:Al} (hΓ:∀ k sp,Γ k=some sp->Bm P F0 (k % 4096) sp):∀ (c:Code) (d:OX),Pp P N c=some d->∀ (Q:Aq->S->Prop) (σ:S) (F:Fz) (β:Bt) (a:Act) (w:World),
  Sim N Δ w0 F0 M B0 σ F β a w->(∀ v,σ.n<=v->β v=none)->DWp Γ d Q σ->c.wp P (QR N Δ w0 F0 M B0 Q) a w
 | .skip,d,hd,Q,σ,F,β,a,w,h,hf,hw=>by
  simp only[Pp,Option.some.injEq]at hd;subst hd;exact wp_skip ⟨σ,F,β,h,hf,hw⟩
 | .ret,d,hd,Q,σ,F,β,a,w,h,hf,hw=>by
  simp only[Pp,Option.some.injEq]at hd;subst hd;exact wp_ret ⟨σ,F,β,h,hf,hw⟩
 | .exit id,d,hd,Q,σ,F,β,a,w,h,hf,hw=>by
  simp only[Pp,Option.some.injEq]at hd;subst hd;exact wp_exit ⟨σ,F,β,h,hf,hw⟩
 | .region id ops draw,d,hd,Q,σ,F,β,a,w,h,hf,hw=>by
  simp only[Pp]at hd;split at hd
  ·cases hd
  ·rename_i hdr;split at hd
   ·grind [IE]
   simp only[aAB,aA]at hd;obtain⟨ds,hds,he⟩:=hd;cases he;obtain⟨σ0,hchg0,hw⟩:=hw;obtain⟨F,β,h,hf⟩:=h.chg hf hchg0;cases draw with
   | false =>
    rw[if_neg (by simp)]at hw
    refine wp_region_list ?_;exact List.append_nil ops.toList▸BO (rest:=[]) hΓ ops.toList 0 ds hds σ0 F β a w σ0.n h hf hw (λτ F' β' a' w' hS hf' hk=>⟨τ,F',β',hS,hf',hk⟩)
   | true =>
    rw[if_pos rfl]at hw;obtain⟨hw1,hw2⟩:=hw;have hm:P.follows .mixedOrders=true:=by simp_all
    have h':Sim N Δ w0 F0 M B0 σ0 F β a { w with drawn:=w.drawn+1 }:=by
     have:=h.put (c:=True) (dst:=none) (d:=.top) (v:=undef) (λt e=>by cases e) (Env.top _) (w':={ w with drawn:=w.drawn+1 }) rfl rfl rfl rfl
     exact this
    refine wp_region_any hm ?_;have hid:∀ (us:List Out) (i:Nat),AV (λi=>(aAI ops.size false).getD i true) us i σ=AV (λi=>(aAI ops.size false).getD i true) us i σ:=λ_ _=>rfl
    obtain⟨hlen,_⟩:=CU ops.toList 0 ds hds;simp only[aAp]at hlen;have hol:=(CQ Γ ds σ0.n σ0 0 (λ_=>true) (λ_=>rfl)).1
    refine FU (Δ:=Δ) (w0:=w0) (F0:=F0) (M:=M) (B0:=B0) hΓ hds hw1 hw2 (λτ F' β' a' w' hS hf' hk=>?_) ops.size (aAI ops.size false) F β a _ (by simp) ?_ ?_ ?_ ?_
    ·obtain⟨τ',hk1,hk2⟩:=hk;exact⟨{ τ' with n:=σ0.n+ds.length },F',β',hS.congr (λk=>(by cases k<;>rfl:({ τ' with n:=σ0.n+ds.length }:S).get k=τ'.get k).trans (hk2 k)),hf',hk1⟩
    ·rw[aBA.2]
     all_goals simp_all
    ·simp_all[aAs]
    ·simp_all
    ·have hnone:∀ (us:List Out) (i:Nat) (τ:S),i+us.length<=ops.size->AV (λi=>(aAI ops.size false).getD i true) us i τ=τ:=by
      intro us
      induction us with
      | nil=>intro i τ _;rfl
      | cons u us ih =>
       intro i τ hle;simp only[aAw]at hle;have hi:i<ops.size:=by omega
       simp only[AV];have hne:¬ ((aAI ops.size false).getD i true=true):=by simp[hi]
       grind
     simp_all
 | .seq x y,d,hd,Q,σ,F,β,a,w,h,hf,hw=>by
  simp only[Pp,aAB,aA]at hd;obtain⟨dx,hx,dy,hy,he⟩:=hd;cases he;refine wp_seq (wp_mono (Be hΓ x dx hx _ σ F β a w h hf hw) λe a' w' hq=>?_)
  obtain⟨τ,F',β',h1,h2,h3⟩:=hq;cases e with
  | normal =>
   obtain⟨τ',hwk,h3⟩:=h3;obtain⟨F2,β2,h1',h2'⟩:=h1.chg h2 hwk;exact Be hΓ y dy hy Q τ' F2 β2 a' w' h1' h2' h3
  | exit id=>exact⟨τ,F',β',h1,h2,h3⟩
  | ret=>exact⟨τ,F',β',h1,h2,h3⟩
  | goto l=>simp_all
  | panic ch=>simp_all
  | outgrown=>simp_all
 | .cond c x y,d,hd,Q,σ,F,β,a,w,h,hf,hw=>by
  simp only[Pp,aAB,aA]at hd;obtain⟨dc,hc,dx,hx,dy,hy,he⟩:=hd;cases he;have henv:=Ce h hc;have hev:(raw dc).run σ=CJ σ dc:=by cases dc<;>rfl
  rw[hev]at henv;simp only[DWp]at hw;generalize CJ σ dc=dv at *;cases dv<;>try exact hw.elim
  case bool t =>
   have e1:=BB (β:=β) (F:=F) henv;exact wp_cond_split e1 (λht=>Be hΓ x dx hx Q σ F β a w h hf (hw.1 ht)) (λht=>Be hΓ y dy hy Q σ F β a w h hf (hw.2 ht))
 | .block id b,d,hd,Q,σ,F,β,a,w,h,hf,hw=>by
  simp only[Pp,aAB,aA]at hd;obtain⟨db,hb,he⟩:=hd;cases he;refine wp_block (wp_mono (Be hΓ b db hb _ σ F β a w h hf hw) λe a' w' hq=>?_)
  obtain⟨τ,F',β',h1,h2,h3⟩:=hq;cases e with
  | normal=>exact⟨τ,F',β',h1,h2,h3⟩
  | exit id' =>
   simp only[Aq.inBlock]at h3;simp only[Exit.inBlock];split
   ·rename_i e;rw[if_pos e]at h3;obtain⟨τ',hwk,h3⟩:=h3;obtain⟨F2,β2,h1',h2'⟩:=h1.chg h2 hwk;exact⟨τ',F2,β2,h1',h2',h3⟩
   ·rename_i e;rw[if_neg e]at h3;exact⟨τ,F',β',h1,h2,h3⟩
  | ret=>exact⟨τ,F',β',h1,h2,h3⟩
  | goto l=>simp_all
  | panic ch=>simp_all
  | outgrown=>simp_all
 | .loop b,d,hd,Q,σ,F,β,a,w,h,hf,hw=>by
  simp only[Pp,aAB,aA]at hd;obtain⟨db,hb,he⟩:=hd;cases he;obtain⟨ι,St,μ,i₀,hwk,hround⟩:=hw;obtain⟨F2,β2,hS2,hf2⟩:=h.chg hf hwk;refine wp_loop_ghost (λk a w=>∃ i F β,μ i=k/\Sim N Δ w0 F0 M B0 (St i) F β a w/\∀ v,(St i).n<=v->β v=none) (μ i₀) ⟨i₀,F2,β2,rfl,hS2,hf2⟩ ?_
  rintro k a w ⟨i,F,β,rfl,h,hf⟩;refine wp_mono (Be hΓ b db hb _ (St i) F β a w h hf (hround i)) λe a' w' hq=>?_
  obtain⟨τ,F',β',h1,h2,h3⟩:=hq;cases e with
  | normal =>
   obtain⟨i',hlt,hwk'⟩:=h3;obtain⟨F3,β3,hS3,hf3⟩:=h1.chg h2 hwk';exact⟨μ i',hlt,i',F3,β3,rfl,hS3,hf3⟩
  | exit id=>exact⟨τ,F',β',h1,h2,h3⟩
  | ret=>exact⟨τ,F',β',h1,h2,h3⟩
  | goto l=>simp_all
  | panic ch=>simp_all
  | outgrown=>simp_all
 | .rangeFunc ..,d,hd,_,_,_,_,_,_,_,_,_=>by cases hd
 | .scope b,d,hd,Q,σ,F,β,a,w,h,hf,hw =>
  wp_scope_straight (wp_mono (Be hΓ b d (by grind [Pp]) Q σ F β a w h hf hw) λe _ _ hq=>by
   cases e with
   | goto l=>obtain⟨_,_,_,_,_,h3⟩:=hq;simp_all
   | _=>exact hq)
 | .label _,d,hd,Q,σ,F,β,a,w,h,hf,hw=>by
  simp only[Pp,Option.some.injEq]at hd;subst hd;exact wp_label ⟨σ,F,β,h,hf,hw⟩
 | .goto ..,d,hd,_,_,_,_,_,_,_,_,_=>by cases hd
 | .refuse ..,d,hd,_,_,_,_,_,_,_,_,_=>by cases hd
end
inductive Az where
 | t (n:Nat)
 | c (a n:Nat) (agg:Bool)
variable {rs:List Az}
def UQ (P:Program):ResultVar->Option Az
 | .tmp t=>some (.t t)
 | .cell a ty=>if Cd P ty then some (.c a (P.cellsOf ty) true)else if(P.underlying ty).isSome then some (.c a 1 false)else none
def Oi:Az->R (Prop×D)
 | .t n=>do
  let(p,d)<-rdA (.t n)
  pure (p=true,d)
 | .c a n agg=>do
  let(p,d)<-rdA (.t a)
  let(c,e,off)<-On d
  pure (p=true/\c/\off+n<=(cells e).length,Oj (cells e) off n agg)
def Dz (r:Az):R (Prop×D×List (Nat×Aa)):=do
 let(c,d)<-Oi r
 let(c',d',w)<-res d
 pure (c/\c',d',w)
def Cb (s ty:Nat) (d:D):R (Prop×D×List (Nat×Aa)×Nat) :=
 match d with
 | .optr g v i off=>.go g fun
  | some (v',o)=>do
   let(c,e',w)<-res (o.es.getD 0 .top)
   pure ((v=v'/\i=0/\off=0/\o.fz=false/\o.var=true/\o.es.length=1/\o.s=s/\o.ty=ty)/\c,e',w,g)
  | none=>.ret (False,.top,[],0)
 | _=>.ret (False,.top,[],0)
def FP (s ty:Nat) (d:D):R (Prop×D×List (Nat×Aa)) :=
 match d with
 | .optr g v i off=>.go g fun
  | some (v',o)=>do
   let(c,e',w)<-pas (Ad g) (o.es.getD 0 .top)
   pure ((v=v'/\i=0/\off=0/\o.fz=false/\o.var=true/\o.es.length=1/\o.s=s/\o.ty=ty)/\c,e',w)
  | none=>.ret (False,.top,[])
 | _=>.ret (False,.top,[])
def Dy (r:Bool) (s ty:Nat) (d:D):R (Prop×D×Nat) :=
 match d with
 | .osl g v i n=>.go g fun
  | some (v',o)=>.ret (v=v'/\i=0/\n<=o.es.length/\o.fz=false/\o.var=false/\o.s=s/\o.ty=ty/\Ad g=r/\(r=true->∀ e∈o.es,∀ c∈cells e,∀ nm u m,c≠ .hole nm u m),.sl (o.es.take n),g)
  | none=>.ret (False,.top,0)
 | _=>.ret (False,.top,0)
def AB:List Az->R (Prop×List D×List (Nat×Aa))
 | []=>.ret (True,[],[])
 | r::rs=>do
  let(c,d,w)<-Dz r
  let(c',ds,w')<-AB rs
  pure (c/\c',d::ds,w++w')
def Bw:List (Nat×(Nat×Nat))->R (Prop×List D×List (Nat×Aa))
 | []=>.ret (True,[],[])
 | (j,(s,ty))::r=>do
  let(c,e,w)<-FP s ty (.optr (8192+j) j 0 0)
  let(c',es,w')<-Bw r
  pure (c/\c',e::es,w++w')
def DC (ptr:List (Nat×(Nat×Nat))):Nat->List D->List Nat
 | _,[]=>[]
 | j,_::r=>(match look ptr j with|some _=>[j]|none=>[])++DC ptr (j+1) r
def Ba (ptr:List (Nat×(Nat×Nat))):Nat->List D->List Nat
 | _,[]=>[]
 | j,d::r=>(match look ptr j with|some _=>[j]|none=>match d with| .clo _ caps=>DC ptr (64*(j+1)) caps|_=>[])++Ba ptr (j+1) r
def DU (ptr:List (Nat×(Nat×Nat))):Nat->List D->List D
 | _,[]=>[]
 | j,d::r=>(match look ptr j with|some _=>.optr (8192+j) j 0 0|none=>d)::DU ptr (j+1) r
def EC (ptr:List (Nat×(Nat×Nat))) (j:Nat) (d:D):D :=
 match look ptr j with
 | some _=>.optr (8192+j) j 0 0
 | none=>match d with| .clo f caps=>.clo f (DU ptr (64*(j+1)) caps)|d=>d
def Cw (ptr:List (Nat×(Nat×Nat))):Nat->List D->List (Nat×D)
 | _,[]=>[]
 | j,d::r=>(j,EC ptr j d)::Cw ptr (j+1) r
def GJ (ptr:List (Nat×(Nat×Nat))):Nat->List D->List (Nat×Aa)
 | _,[]=>[]
 | j,d::r=>(match look ptr j with|some (s,ty)=>[(8192+j,some (j,⟨false,true,s,ty,[d]⟩))]|none=>[])++GJ ptr (j+1) r
def Ci (ptr:List (Nat×(Nat×Nat))):Nat->List D->List (Nat×Aa)
 | _,[]=>[]
 | j,d::r=>(match look ptr j with|some (s,ty)=>[(8192+j,some (j,⟨false,true,s,ty,[d]⟩))]|none=>match d with| .clo _ caps=>GJ ptr (64*(j+1)) caps|_=>[])++Ci ptr (j+1) r
def ED (sp:Spec) (ds:List D):S:=⟨Cw sp.ptr 0 ds,Ci sp.ptr 0 ds,262144⟩
def Dr (ptr:List (Nat×(Nat×Nat))):Bool:=(ptr.map Prod.fst).all (λk=>Nat.blt k 262144)&&decide (ptr.map Prod.fst).Nodup
def Bn (sp:Spec) (rs:List Az) (ds:List D) (τ:S):Prop :=
 ((Bw sp.ptr).run τ).1/\((Bw sp.ptr).run τ).2.1=sp.eff ds /\
 match sp.kind,rs with
 | .val,[r]| .ground,[r]=>((Dz r).run τ).1/\((Dz r).run τ).2.1=sp.res ds
 | .val,rs| .ground,rs=>((AB rs).run τ).1/\ .tup ((AB rs).run τ).2.1=sp.res ds/\rs.length≠1
 | .row s ty,[r]=>((Oi r).run τ).1/\((Dy false s ty ((Oi r).run τ).2).run τ).1/\((Dy false s ty ((Oi r).run τ).2).run τ).2.1=sp.res ds/\((Bw sp.ptr).run τ).2.2.all (λx=>x.1 != ((Dy false s ty ((Oi r).run τ).2).run τ).2.2)=true
 | .mat s ty,[r]=>((Oi r).run τ).1/\((Dy true s ty ((Oi r).run τ).2).run τ).1/\((Dy true s ty ((Oi r).run τ).2).run τ).2.1=sp.res ds/\sp.ptr=[]
 | .ptr s ty,[r]=>((Oi r).run τ).1/\((Cb s ty ((Oi r).run τ).2).run τ).1/\((Cb s ty ((Oi r).run τ).2).run τ).2.1=sp.res ds/\Ad ((Cb s ty ((Oi r).run τ).2).run τ).2.2.2=false
 | .tupPtr q s ty,rs=>q<rs.length/\rs.length≠1/\sp.ptr=[]/\((AB (rs.take q)).run τ).1/\((AB (rs.drop (q+1))).run τ).1/\((Oi (rs.getD q (.t 0))).run τ).1/\((Cb s ty ((Oi (rs.getD q (.t 0))).run τ).2).run τ).1 /\
   .tup (((AB (rs.take q)).run τ).2.1++((Cb s ty ((Oi (rs.getD q (.t 0))).run τ).2).run τ).2.1::((AB (rs.drop (q+1))).run τ).2.1)=sp.res ds
 | _,_=>False
def MB (Γ:Al) (sp:Spec) (np:Nat) (rs:List Az) (c:OX):Prop :=
 ∀ ds,sp.pre ds->ds.length=np/\Ba sp.ptr 0 ds=sp.ptr.map Prod.fst->Wk (DWp Γ c (λe τ=>match e with| .exit _=>False|_=>Wk (Bn sp rs ds) τ)) (ED sp ds)
section
variable {N:Nat} {Δ:List Deferred} {w0:World} {F0:Fz} {M:Nat->Prop} {B0:Bt} {P:Program} {σ:S} {F:Fz} {β:Bt} {a:Act} {w:World}
theorem Ld (h:Sim N Δ w0 F0 M B0 σ F β a w) {r:Az} (hr:UQ P rv=some r) (hc:((Oi r).run σ).1) :
  ∃ v,(match rv with| .tmp t=>(pure (a.tmps.getD t undef):Sem Value)| .cell c t=>(do loadVar t (<- asAddr (a.tmps.getD c undef)):Sem Value)).run P w= .ok v w/\Val F β ((Oi r).run σ).2 v:=by
 cases rv with
 | tmp t =>
  simp only[UQ,Option.some.injEq]at hr;subst hr;simp only[Oi,R.run_bind,R.run_pure]at hc ⊢;refine⟨_,rfl,?_⟩;have:=(h.env t).strip (by simp_all[rdA,raw])
  simp_all[rdA,raw]
 | cell c ty =>
  simp only[UQ]at hr;have key:∀ (n:Nat) (agg:Bool),r= .c c n agg->Cd P ty=agg->(P.underlying ty).isSome=true->(agg=true->P.info? ty≠none/\n=P.cellsOf ty)->(agg=false->n=1)->∃ v,(do loadVar ty (<- asAddr (a.tmps.getD c undef)):Sem Value).run P w= .ok v w/\Val F β ((Oi r).run σ).2 v:=by
   rintro n agg rfl h1 h2 h3 h4;simp only[Oi,R.run_bind,R.run_pure,rdA,raw,R.run]at hc ⊢;obtain⟨q1,q2,q3⟩:=hc;have hv:=(h.env c).strip q1;obtain⟨v,r1,r2⟩:=HU (P:=P) h hv q2 ty n agg h1 h2 h3 h4 q3
   grind [GG,aBC,aAd,asAddr]
  grind [Dk,aAM,CR]
end
section
variable {N:Nat} {Δ:List Deferred} {w0:World} {F0:Fz} {M:Nat->Prop} {B0:Bt} {P:Program} {σ:S} {F:Fz} {β:Bt} {a:Act} {w:World}
def FB (a:Act):ResultVar->Sem Value
 | .tmp t=>pure (a.tmps.getD t undef)
 | .cell c t=>do loadVar t (<- asAddr (a.tmps.getD c undef))
theorem Kc (h:Sim N Δ w0 F0 M B0 σ F β a w) {r:Az} (hr:UQ P rv=some r) (hc:((Oi r).run σ).1) :
  ∃ v,(FB a rv).run P w= .ok v w/\Val F β ((Oi r).run σ).2 v:=by
 have:=Ld (P:=P) h hr hc;cases rv<;>exact this
theorem Et (h:Sim N Δ w0 F0 M B0 σ F β a w):∀ (rvs:List ResultVar) (rs:List Az),rvs.mapM (UQ P)=some rs->(∀ r∈rs,((Oi r).run σ).1) ->
  ∃ vs:List Value,(rvs.mapM (FB a)).run P w= .ok vs w/\vs.length=rs.length/\rvs.length=rs.length/\∀ (i:Nat) r v,rs[i]? =some r->vs[i]? =some v->Val F β ((Oi r).run σ).2 v
 | [],rs,hm,_=>by
  simp_all
 | rv::rvs,rs,hm,hc=>by
  simp only[List.mapM_cons,aAB,aA]at hm;obtain⟨r,hr,rs',hrs,he⟩:=hm;cases he;obtain⟨v,v1,v2⟩:=Kc (P:=P) h hr (hc r (by simp))
  obtain⟨vs,k1,k2,k3,k4⟩:=Et h rvs rs' hrs (λr hr=>hc r (by simp[hr]))
  refine⟨v::vs,by simp_all,by simp[k2],by simp[k3],λi r' v' hi hv=>?_⟩
  grind
theorem BG (h:Sim N Δ w0 F0 M B0 σ F β a w) (hm:fn.results.toList.mapM (UQ P)=some rs) (hc:∀ r∈rs,((Oi r).run σ).1) :
  ∃ vs:List Value,(results fn a.tmps).run P w= .ok (if h:vs.length=1 then vs[0]else .tuple vs.toArray) w/\vs.length=rs.length/\∀ (i:Nat) r v,rs[i]? =some r->vs[i]? =some v->Val F β ((Oi r).run σ).2 v:=by
 obtain⟨vs,k1,k2,_,k4⟩:=Et (P:=P) h _ rs hm hc;refine⟨vs,?_,k2,k4⟩;have hmap:(fn.results.mapM (FB a)).run P w= .ok vs.toArray w:=by
  simp_all[Array.mapM_eq_mapM_toList]
 have e:results fn a.tmps=(do let vs<-fn.results.mapM (FB a);pure (if h:vs.size=1 then vs[0]else .tuple vs)):=by
  unfold results
  have:(fun
   | .tmp t=>pure (a.tmps.getD t undef)
   | .cell b t=>do loadVar t (<- asAddr (a.tmps.getD b undef)):ResultVar->Sem Value)=FB a:=by
   funext rv;cases rv<;>rfl
  rw[<- this];rfl
 simp_all
theorem Ib (h:Sim N Δ w0 F0 M B0 σ F β a w) (hdr:w0.heap.size<=w0.drawn) {s:Nat} (hx:Val F β d x) (hc:((Cb s ty d).run σ).1) :
  Aj σ ((Cb s ty d).run σ).2.2.1/\∃ g v o b,((Cb s ty d).run σ).2.2.2=g/\σ.go g=some (v,o)/\o.fz=false/\o.var=true/\β v=some ⟨some b,1,s⟩/\x= .pointer (some ⟨b,0,none⟩) /\
   ∀ (ws:List (Nat×Aa)) F',Aj σ ws->(∀ p∈((Cb s ty d).run σ).2.2.1,p∈ws)->NX F F'->Sim N Δ w0 F0 M B0 ⟨σ.e,ws++σ.o,σ.n⟩ F' β a w->GA F' w b s ty ((Cb s ty d).run σ).2.1/\(∀ i,F' b i=none)/\b<w.heap.size/\(w0.heap.size<=b\/(M b/\Ad g=true))/\∃ v' o',(S.mk σ.e (ws++σ.o) σ.n).go g=some (v',o')/\o'.fz=false/\β v'=some ⟨some b,1,s⟩:=by
 cases d<;>try exact hc.elim
 case optr g v i off =>
  simp only[Cb,R.run]at hc ⊢;cases hg:σ.go g with
  | none=>simp_all
  | some p =>
   obtain⟨v',o⟩:=p;rw[hg]at hc;simp only[R.run_bind,R.run_pure]at hc ⊢;obtain⟨⟨rfl,rfl,rfl,hfz,hvar,hlen,rfl,rfl⟩,hc1⟩:=hc;obtain⟨L,b,hL,hb,rfl⟩:=hx;obtain⟨L',hL',_,hk⟩:=h.own g v o hg;rw[hL]at hL';cases hL';obtain⟨e1,e2,e3,e4,e5,e6⟩:=hk hfz;rw[hb]at e6;obtain⟨C,hC,hCs,hcell⟩:=e6;obtain⟨e,he⟩:∃ e,o.es=[e]:=aB.1 hlen;have hge:o.es.getD 0 .top=e:=by simp[he]
   rw[hge]at hc1 ⊢;have hX:∀ (j:Nat) c,(cells e)[j]? =some c->∃ x,C[j]? =some x/\x.oneCell'=true/\Cel F β c x:=by
    grind
   obtain⟨f1,l1,r1⟩:=Er h e (λj=>C[j]?) hX hc1
   have hcap:L.cap=1:=by
    grind
   have hLe:L=⟨some b,1,o.s⟩:=by cases L;simp_all
   refine⟨f1,g,v,o,b,rfl,hg,hfz,hvar,by rw[hL,hLe],by simp,λws F' q1 q2 q3 q4=>?_⟩
   have hgo:(S.mk σ.e (ws++σ.o) σ.n).go g=some (v,o):=by
    rcases q1.go g with⟨v2,o2,k1,k2,_,_⟩|⟨_,k2⟩
    all_goals simp_all
   obtain⟨s1,s2,s3⟩:=q4.sep g v o L b hgo hfz hL hb;replace s3:w0.heap.size<=b\/(M b/\Ad g=true):=s3.elim .inl λs3=>s3.2.elim (λe=>.inr ⟨s3.1,e⟩) λe=>.inl (Nat.le_trans hdr e)
   refine⟨⟨rfl,e2,by simp,by simp,λq hq=>?_,C,hC,by simp_all,λi j c' c hc' hj=>?_⟩,s1,s2,s3,v,o,hgo,hfz,by rw[hL,hLe]⟩
   all_goals grind [Cel.Af]
theorem Lf {b:Nat} (h:Sim N Δ w0 F0 M B0 σ F β a w) {s:Nat} (hL:β v=some L) (hb:L.b=some b) (hLs:L.cap=1/\L.s=s) (hc:((FP s ty (.optr g v 0 0)).run σ).1) :
  Aj σ ((FP s ty (.optr g v 0 0)).run σ).2.2/\∃ o,σ.go g=some (v,o)/\o.fz=false/\o.var=true /\
   ∀ (ws:List (Nat×Aa)) F' φ,Aj σ ws->(∀ p∈((FP s ty (.optr g v 0 0)).run σ).2.2,p∈ws)->NX F F'->Sim N Δ w0 F0 M B0 ⟨σ.e,ws++σ.o,σ.n⟩ F' β a w->Ay F' β w0.heap.size M ⟨σ.e,ws++σ.o,σ.n⟩ w φ ->
    DN F' w ⟨b,s,ty,φ g 0⟩ ((FP s ty (.optr g v 0 0)).run σ).2.1/\(S.mk σ.e (ws++σ.o) σ.n).go g=some (v,o):=by
 simp only[FP,R.run]at hc ⊢;cases hg:σ.go g with
 | none=>simp_all
 | some p =>
  obtain⟨v',o⟩:=p;rw[hg]at hc;simp only[R.run_bind,R.run_pure]at hc ⊢;obtain⟨⟨rfl,_,_,hfz,hvar,hlen,rfl,rfl⟩,hc1⟩:=hc;obtain⟨L',hL',_,hk⟩:=h.own g v o hg;rw[hL]at hL';cases hL';obtain⟨e1,e2,e3,e4,e5,e6⟩:=hk hfz;rw[hb]at e6;obtain⟨C,hC,hCs,hcell⟩:=e6;obtain⟨e,he⟩:∃ e,o.es=[e]:=aB.1 hlen;have hge:o.es.getD 0 .top=e:=by simp[he]
  rw[hge]at hc1 ⊢;obtain⟨hc1,hpe,hpr⟩:=HW hc1;have hpe':(pas (Ad g) e).run σ=(((pas (Ad g) e).run σ).1,((res e).run σ).2):=Prod.ext rfl hpe;rw[hpe'];dsimp only;have hX:∀ (j:Nat) c,(cells e)[j]? =some c->∃ x,C[j]? =some x/\x.oneCell'=true/\Cel F β c x:=by
   grind
  obtain⟨f1,l1,r1⟩:=Er h e (λj=>C[j]?) hX hc1
  refine⟨f1,o,rfl,hfz,hvar,λws F' φ q1 q2 q3 q4 hφ=>?_⟩
  have hgo:(S.mk σ.e (ws++σ.o) σ.n).go g=some (v,o):=by
   rcases q1.go g with⟨v2,o2,k1,k2,_,_⟩|⟨_,k2⟩
   all_goals grind
  obtain⟨s1,s2,_⟩:=q4.sep g v o L b hgo hfz hL hb;refine⟨⟨⟨rfl,e2,by simp,by simp,λq hq=>?_,C,hC,by grind,λi j c' c hc' hj=>?_⟩,s1,s2,hφ.none_ g 0,hφ.lt g 0,λj b' hb' e'=>?_,λj j' b' h1 h2=>(hφ.dis _ _ _ _ _ _ _ h1 h2).2.2,λC' j x s ty es hC' hj hx=>?_,λj nm u n hj=>(hpr j _ hj).2 nm u n rfl⟩,hgo⟩
  ·grind
  ·grind [Cel.Af]
  ·simp only at e';subst e';exact hφ.sep g 0 j _ g v o L hb' hgo hfz hL hb
  ·obtain⟨z1,z2⟩:=(hpr j _ hj).1 s ty es rfl;exact hφ.row g v o L b C' 0 j e x s ty es z1 hgo hfz hL hb hC' (by simp[he]) z2 (by simp_all)
theorem Ic (_h:Sim N Δ w0 F0 M B0 σ F β a w) (hdr:w0.heap.size<=w0.drawn) {r:Bool} {s:Nat} (hx:Val F β d x) (hc:((Dy r s ty d).run σ).1) :
  ∃ es L g v o,((Dy r s ty d).run σ).2.1= .sl es/\x= .slice (L.b.map λb=>⟨b,0,none⟩) es.length L.cap/\Ad g=r/\o.fz=false/\o.s=s/\o.ty=ty/\β v=some L/\(∃ n,es=o.es.take n)/\(r=true->∀ e∈o.es,∀ c∈cells e,∀ nm u m,c≠ .hole nm u m) /\
   ∀ (ws:List (Nat×Aa)) F',ws.all (λx=>x.1 != ((Dy r s ty d).run σ).2.2)=true->NX F F'->Sim N Δ w0 F0 M B0 ⟨σ.e,ws++σ.o,σ.n⟩ F' β a w->Au F' noB w L ⟨false,false,s,ty,es⟩/\(S.mk σ.e (ws++σ.o) σ.n).go g=some (v,o)/\∀ b,L.b=some b->(w0.heap.size<=b\/(r=true/\M b))/\b<w.heap.size/\∀ i,F' b i=none:=by
 cases d<;>try exact hc.elim
 case osl g v i n =>
  simp only[Dy,R.run]at hc ⊢;cases hg:σ.go g with
  | none=>simp_all
  | some p =>
   obtain⟨v',o⟩:=p;rw[hg]at hc;simp only[R.run]at hc ⊢;obtain⟨rfl,rfl,hn,hfz,hvar,rfl,rfl,hrg,hnh⟩:=hc;obtain⟨L,a',hL,rfl,hcap,ha,_⟩:=hx;refine⟨o.es.take n,L,g,v,o,rfl,by simp_all,hrg,hfz,rfl,rfl,hL,⟨n,rfl⟩,hnh,λws F' hws hF hS=>?_⟩
   have hgo:(S.mk σ.e (ws++σ.o) σ.n).go g=some (v,o):=by
    have:look ws g=none:=by
     cases hl:look ws g with
     | none=>rfl
     | some y =>
      have:=aAJ.1 hws _ (Bj hl);simp at this
    grind [S.go,Bq]
   obtain⟨L',hL',_,hk⟩:=hS.own g v o hgo;rw[hL]at hL';cases hL';obtain⟨e1,e2,e3,e4,e5,e6⟩:=hk hfz;refine⟨⟨e1,e2,?_,?_,λe he=>e5 e (aAm he),?_⟩,hgo,λb hb=>?_⟩
   ·simp_all
   ·simp_all
   ·cases hb:L.b with
    | none=>simp_all
    | some b =>
     grind
   ·obtain⟨s1,s2,s3⟩:=hS.sep g v o L b hgo hfz hL hb
    grind
theorem DX (h:Sim N Δ w0 F0 M B0 σ F β a w):∀ (rs:List Az) (vs:List Value),rs.length=vs.length->(∀ (i:Nat) r v,rs[i]? =some r->vs[i]? =some v->((Oi r).run σ).1->Val F β ((Oi r).run σ).2 v)->((AB rs).run σ).1 ->
  Aj σ ((AB rs).run σ).2.2/\((AB rs).run σ).2.1.length=vs.length/\∀ (ws:List (Nat×Aa)) F',Aj σ ws->(∀ p∈((AB rs).run σ).2.2,p∈ws)->NX F F'->Sim N Δ w0 F0 M B0 ⟨σ.e,ws++σ.o,σ.n⟩ F' β a w ->
   ∀ (j:Nat) c v,((AB rs).run σ).2.1[j]? =some c->vs[j]? =some v->Fro F' c v
 | [],vs,hl,_,_=>⟨Aj.nil σ,by grind [AB,R.run],λ_ _ _ _ _ _ j c v hj=>by grind⟩
 | r::rs,[],hl,_,_=>by simp at hl
 | r::rs,v::vs,hl,hv,hc=>by
  simp only[AB,Dz,R.run_bind,R.run_pure]at hc ⊢;obtain⟨⟨c1,c2⟩,c3⟩:=hc;obtain⟨f1,r1⟩:=Es h _ (hv 0 r v rfl rfl c1) c2;obtain⟨f2,l2,r2⟩:=DX h rs vs (by simp_all) (λi r' v' h1 h2=>hv (i+1) r' v' (by simp_all) (by simp_all)) c3
  refine⟨f1.append f2,by simp[l2],λws F' q1 q2 q3 q4 j c v' hj hv'=>?_⟩
  grind
theorem CL:∀ (rs:List Az),((AB rs).run σ).1->∀ r∈rs,((Oi r).run σ).1
 | [],_,r,hr=>by cases hr
 | r0::rs,hc,r,hr=>by
  simp only[AB,Dz,R.run_bind,R.run_pure]at hc;cases hr with
  | head=>exact hc.1.1
  | tail _ hr=>exact CL rs hc.2 r hr
end
section
variable {N:Nat} {Δ:List Deferred} {P:Program}
def ini (p:(Nat×D)×Hd):Nat×Aa:=(8192+p.1.1,some (p.1.1,⟨false,true,p.2.s,p.2.ty,[p.1.2]⟩))
structure Ini (F:Fz) (w:World) (ptr:List (Nat×(Nat×Nat))) (O:List (Nat×Aa)) (keys:List Nat) (Mb:List Hd) (K:List (Nat×D)):Prop where
 len:K.length=Mb.length
 keys:K.map Prod.fst=keys
 obj:O=(K.zip Mb).map ini
 ok:∀ (k:Nat) key d m,K[k]? =some (key,d)->Mb[k]? =some m->DN F w m d/\look ptr key=some (m.s,m.ty)
 apart:∀ (k k':Nat) m m',k<k'->Mb[k]? =some m->Mb[k']? =some m'->Abj m m'
def Nam (K:List (Nat×D)) (Mb:List Hd) (PB:Bt):Prop:=∀ (k:Nat) key d m,K[k]? =some (key,d)->Mb[k]? =some m->PB key=some ⟨some m.b,1,m.s⟩
theorem Nam.cons {p:Nat×D} {m:Hd} {PB:Bt} (h:Nam (p::K) (m::Mb) PB):PB p.1=some ⟨some m.b,1,m.s⟩/\Nam K Mb PB :=
 ⟨h 0 p.1 p.2 m rfl rfl,λk key d m' h1 h2=>h (k+1) key d m' (by simp_all) (by simp_all)⟩
theorem Nam.append {K1 K2:List (Nat×D)} {M1 M2:List Hd} {PB:Bt} (hl:K1.length=M1.length) (h:Nam (K1++K2) (M1++M2) PB):Nam K1 M1 PB/\Nam K2 M2 PB:=by
 refine⟨λk key d m h1 h2=>h k key d m ?_ ?_,λk key d m h1 h2=>h (K1.length+k) key d m ?_ ?_⟩
 all_goals grind
theorem Ini.nil {w:World}:Ini F w ptr [] [] [] []:=⟨rfl,rfl,rfl,λk key d m h=>by simp at h,λk k' m m' _ h=>by simp at h⟩
theorem Ini.cons {w:World} {O:List (Nat×Aa)} {keys:List Nat} (h:Ini F w ptr O keys Mb K) {m:Hd} (hp:look ptr j=some (m.s,m.ty)) (hd:DN F w m d) (hM:∀ m'∈Mb,Abj m m') :
  Ini F w ptr ((8192+j,some (j,⟨false,true,m.s,m.ty,[d]⟩))::O) (j::keys) (m::Mb) ((j,d)::K):=by
 refine⟨by simp[h.len],by simp[h.keys],by simp[h.obj,ini],λk key d' m' h1 h2=>?_,λk k' m1 m2 hlt h1 h2=>?_⟩
 ·rcases k with _|k
  ·simp_all
  ·simp only[aAK]at h1 h2;exact h.ok k key d' m' h1 h2
 ·rcases k' with _|k'
  ·omega
  ·simp only[aAK]at h2;rcases k with _|k
   ·grind
   ·simp only[aAK]at h1;exact h.apart k k' m1 m2 (by omega) h1 h2
theorem Ini.append {w:World} {O1 O2:List (Nat×Aa)} {k1 k2:List Nat} {M1 M2:List Hd} {K1 K2:List (Nat×D)} (h1:Ini F w ptr O1 k1 M1 K1) (h2:Ini F w ptr O2 k2 M2 K2) (hM:∀ m∈M1,∀ m'∈M2,Abj m m') :
  Ini F w ptr (O1++O2) (k1++k2) (M1++M2) (K1++K2):=by
 refine⟨by simp[h1.len,h2.len],by simp[h1.keys,h2.keys],by rw[h1.obj,h2.obj,List.zip_append h1.len,List.map_append],λk key d m q1 q2=>?_,λk k' m m' hlt q1 q2=>?_⟩
 ·by_cases hk:k<K1.length
  ·rw[aAQ hk]at q1;rw[aAQ (by rw[<- h1.len];exact hk)]at q2
   exact h1.ok k key d m q1 q2
  ·rw[aAO (by omega)]at q1
   rw[aAO (by rw[<- h1.len];omega),<- h1.len]at q2
   exact h2.ok _ key d m q1 q2
 ·by_cases hk:k'<M1.length
  ·rw[aAQ (by omega)]at q1
   rw[aAQ hk]at q2;exact h1.apart k k' m m' hlt q1 q2
  ·rw[aAO (by omega)]at q2
   by_cases hk2:k<M1.length
   ·grind
   ·rw[aAO (by omega)]at q1
    exact h2.apart _ _ m m' (by omega) q1 q2
theorem JO {w:World} (h:Cp F w ptr j ds xs Mb) :
  ∃ K,Ini F w ptr (GJ ptr j ds) (DC ptr j ds) Mb K/\(DU ptr j ds).length=xs.length/\∀ PB,Nam K Mb PB->∀ (q:Nat) d x,(DU ptr j ds)[q]? =some d->xs[q]? =some x->Ref F PB d x:=by
 induction h with
 | nil j=>exact⟨[],Ini.nil,rfl,λPB _ q d x hq=>by simp_all⟩
 | val j d ds x xs M hp hx _ ih =>
  grind [GJ,DC,DU,Ref.Af]
 | ptr j d ds xs M m hp hd hM _ ih =>
  obtain⟨K,k1,k2,k3⟩:=ih;refine⟨(j,d)::K,by simpa[GJ,DC,hp]using k1.cons hp hd hM,by grind [DU],λPB hPB q d' x' hq hx'=>?_⟩
  obtain⟨n1,n2⟩:=hPB.cons;simp only[DU,hp]at hq;rcases q with _|q
  ·simp only[aAG,Option.some.injEq]at hq hx';subst hq;subst hx';exact⟨_,m.b,n1,rfl,by simp⟩
  grind
theorem JK {w:World} (h:UG F w ptr j ds xs Mb) :
  ∃ K,Ini F w ptr (Ci ptr j ds) (Ba ptr j ds) Mb K/\∀ PB,Nam K Mb PB->∀ t d,look (Cw ptr j ds) t=some d->∃ x,j<=t/\xs[t-j]? =some x/\Env F PB d x:=by
 have tail:∀ {j:Nat} {d0:D} {ds:List D} {x0:Value} {xs:List Value} {PB:Bt},Env F PB (EC ptr j d0) x0->(∀ t d,look (Cw ptr (j+1) ds) t=some d->∃ x,j+1<=t/\xs[t-(j+1)]? =some x/\Env F PB d x) ->
   ∀ t d,look (Cw ptr j (d0::ds)) t=some d->∃ x,j<=t/\(x0::xs)[t-j]? =some x/\Env F PB d x:=by
  intro j d0 ds x0 xs PB h0 hr t d ht;simp only[Cw,look]at ht
  grind
 induction h with
 | nil j=>exact⟨[],Ini.nil,λPB _ t d ht=>by grind [Cw,look]⟩
 | val j d ds x xs M hp hn hx _ ih =>
  obtain⟨K,k1,k3⟩:=ih;have hm:Ci ptr j (d::ds)=Ci ptr (j+1) ds/\Ba ptr j (d::ds)=Ba ptr (j+1) ds/\EC ptr j d=d:=by
   simp_all[Ci,Ba,EC]
  obtain⟨m1,m2,m3⟩:=hm;rw[m1,m2];exact⟨K,k1,λPB hPB=>tail (by grind [Env.Af]) (k3 PB hPB)⟩
 | ptr j d ds xs M m hp hd hM _ ih =>
  obtain⟨K,k1,k3⟩:=ih;refine⟨(j,d)::K,by simpa[Ci,Ba,hp]using k1.cons hp hd hM,λPB hPB=>?_⟩
  obtain⟨n1,n2⟩:=hPB.cons;exact tail (by simp only[EC,hp];exact⟨_,m.b,n1,rfl,by simp⟩) (k3 PB n2)
 | clo j f caps vs ds xs M1 M2 hp hc hM _ ih =>
  obtain⟨K,k1,k3⟩:=ih;obtain⟨K1,c1,c2,c3⟩:=JO hc;refine⟨K1++K,by simpa[Ci,Ba,hp]using c1.append k1 hM,λPB hPB=>?_⟩
  obtain⟨n1,n2⟩:=hPB.append c1.len;exact tail (by simp only[EC,hp];exact⟨vs,rfl,c2,c3 PB n1⟩) (k3 PB n2)
theorem Ki {w:World} (hF:Fok F w) (hfin:∀ b i x,F b i=some x->b<w.heap.size) (h:UG F w sp.ptr 0 ds xs Mb) {k:Nat} (hN:xs.length+k=N) (hok:Dr sp.ptr=true) (hkeys:Ba sp.ptr 0 ds=sp.ptr.map Prod.fst) :
  ∃ (PB:Bt) (K:List (Nat×D)),Sim N [] { w with drawn:=w.heap.size } F (Wr Mb) PB (ED sp ds) F PB { tmps:=xs.toArray++aAI k undef,defers:=[] } w/\(∀ v,262144<=v->PB v=none)/\Nam K Mb PB/\K.length=Mb.length/\K.map Prod.fst=sp.ptr.map Prod.fst /\
   ∀ (i:Nat) key d m,K[i]? =some (key,d)->Mb[i]? =some m->look sp.ptr key=some (m.s,m.ty):=by
 obtain⟨K,hI,hE⟩:=JK h;simp only[Dr,aAP,decide_eq_true_eq]at hok;obtain⟨hlt,hnd⟩:=hok;have hKn:(K.map Prod.fst).Nodup:=by rw[hI.keys,hkeys];exact hnd
 have hzl:(K.zip Mb).length=K.length:=by simp[hI.len]
 have huk:∀ (i i':Nat) key d d',K[i]? =some (key,d)->K[i']? =some (key,d')->i=i':=by
  intro i i' key d d' h1 h2;have e1:(K.map Prod.fst)[i]? =some key:=by simp[h1]
  have e2:(K.map Prod.fst)[i']? =some key:=by simp[h2]
  grind [aAu]
 let PB:Bt:=λv=>((K.zip Mb).find? λp=>p.1.1==v).map λp=>⟨some p.2.b,1,p.2.s⟩
 have hPB:∀ v L,PB v=some L->∃ (i:Nat) (d:D) (m:Hd),K[i]? =some (v,d)/\Mb[i]? =some m/\L=⟨some m.b,1,m.s⟩:=by
  intro v L hv;simp only[PB,aAL]at hv;obtain⟨⟨⟨key,d⟩,m⟩,h1,rfl⟩:=hv;have hk:=List.find?_some h1;simp only[beq_iff_eq]at hk
  grind [aAX,aAv]
 have hnam:Nam K Mb PB:=by
  intro i key d m h1 h2;have hm:((key,d),m)∈K.zip Mb:=aAA (i:=i) (by grind)
  cases hf:(K.zip Mb).find? λp=>p.1.1==key with
  | none =>
   grind
  | some p =>
   have hv:PB key=some ⟨some p.2.b,1,p.2.s⟩:=by grind
   obtain⟨i',d',m',q1,q2,q3⟩:=hPB key _ hv
   grind
 have hgo:∀ g v o,(ED sp ds).go g=some (v,o)->∃ (i:Nat) (d:D) (m:Hd),K[i]? =some (v,d)/\Mb[i]? =some m/\g=8192+v/\o=⟨false,true,m.s,m.ty,[d]⟩:=by
  intro g v o hg;simp only[S.go,ED]at hg;cases hl:look (Ci sp.ptr 0 ds) g with
  | none=>grind
  | some y =>
   rw[hl]at hg;simp only[aAH]at hg;subst hg;have hm:=Bj hl;rw[hI.obj,aAW]at hm
   grind [aAX,aAv,ini]
 have hap:∀ (i i':Nat) m m' b,Mb[i]? =some m->Mb[i']? =some m'->m.own b->m'.own b->i=i':=by
  intro i i' m m' b h1 h2 h3 h4;rcases aAc i i' with hl|hl|hl
  ·exact(hI.apart i i' m m' hl h1 h2 b h3 h4).elim
  ·exact hl
  ·exact(hI.apart i' i m' m hl h2 h1 b h4 h3).elim
 refine⟨PB,K,?_,?_,hnam,hI.len,by rw[hI.keys,hkeys],λi key d m h1 h2=>(hI.ok i key d m h1 h2).2⟩
 ·refine{ nam:=Aw.refl _,size:=by simp[hN],defers:=rfl,env:=λt=>?_,own:=?_,dist:=?_,sep:=?_,Ad:=?_,frz:=hF,fin:=hfin,step:=⟨rfl,rfl,rfl,aAF _,λ_ _ _=>rfl,NX.refl F,λ_ _ _ _=>rfl⟩ }
  ·simp only[S.ge,ED];cases hl:look (Cw sp.ptr 0 ds) t with
   | none=>exact Env.top _
   | some d =>
    obtain⟨x,_,q2,q3⟩:=hE PB hnam t d hl;simp only[Nat.sub_zero]at q2;have hlt:t<xs.length:=(aAE.1 q2).1;have:(xs.toArray++aAI k undef).getD t undef=x:=by
     rw[aAD,aAh (by omega)]
     simp[q2]
    grind
  ·intro g v o hg;obtain⟨i,d,m,h1,h2,rfl,rfl⟩:=hgo g v o hg;exact⟨_,hnam i v d m h1 h2,λe=>(by cases e),λ_=>(hI.ok i v d m h1 h2).1.var.keep (NX.refl _) (FL _) (λ_ _=>rfl)⟩
  ·intro g g' v v' o o' L L' b hg hg' _ _ hL hL' hb hb';obtain⟨i,d,m,h1,h2,rfl,_⟩:=hgo g v o hg;obtain⟨i',d',m',h1',h2',rfl,_⟩:=hgo g' v' o' hg';rw[hnam i v d m h1 h2]at hL;cases hL;cases hb;rw[hnam i' v' d' m' h1' h2']at hL';cases hL';have hbb:m'.b=m.b:=Option.some.inj hb';have:=hap i i' m m' m.b h2 h2' (.inl rfl) (.inl hbb.symm)
   grind
  ·intro g v o L b hg _ hL hb;obtain⟨i,d,m,h1,h2,rfl,rfl⟩:=hgo g v o hg;rw[hnam i v d m h1 h2]at hL;cases hL;cases hb;have hz:=(hI.ok i v d m h1 h2).1;exact⟨hz.none_,hz.lt,.inr ⟨⟨m,aAA h2,.inl rfl⟩,by simp[Ad];omega⟩⟩
  ·refine⟨λg i j b=>∃ (q:Nat) (key:Nat) (d:D) (m:Hd),K[q]? =some (key,d)/\Mb[q]? =some m/\g=8192+key/\i=0/\m.φ j b,?_,?_,?_,?_,?_,?_,?_⟩
   ·intro g v o L b C i j e x s ty es _ hg _ hL hb hC he hj hx;obtain⟨q,d,m,h1,h2,rfl,rfl⟩:=hgo g v o hg;rw[hnam q v d m h1 h2]at hL;cases hL;cases hb;rcases i with _|i
    ·simp only[aAG,Option.some.injEq]at he;subst he;exact((hI.ok q v d m h1 h2).1.row C j x s ty es hC hj (by grind)).keep (NX.refl _) (λ_ _=>rfl) (λb hb=>⟨q,v,d,m,h1,h2,rfl,rfl,hb⟩)
    grind
   ·intro g v o L b C i j e x nm u n _ hg _ hL hb hC he hj hx;obtain⟨q,d,m,h1,h2,rfl,rfl⟩:=hgo g v o hg;rcases i with _|i
    ·simp only[aAG,Option.some.injEq]at he;subst he;exact((hI.ok q v d m h1 h2).1.hole j _ u n hj).elim
    grind
   ·rintro g i j b ⟨q,key,d,m,h1,h2,_,_,hb⟩;exact(hI.ok q key d m h1 h2).1.fno j b hb
   ·rintro g i j b ⟨q,key,d,m,h1,h2,_,_,hb⟩;exact(hI.ok q key d m h1 h2).1.flt j b hb
   ·rintro g i j b ⟨q,key,d,m,h1,h2,_,_,hb⟩;exact .inr ⟨m,aAA h2,.inr ⟨j,hb⟩⟩
   ·rintro g i j b g' v' o' L' ⟨q,key,d,m,h1,h2,_,_,hb⟩ hg' _ hL' hLb;obtain⟨q',d',m',h1',h2',rfl,rfl⟩:=hgo g' v' o' hg';rw[hnam q' v' d' m' h1' h2']at hL';cases hL';have hbb:m'.b=b:=Option.some.inj hLb;have:=hap q q' m m' b h2 h2' (.inr ⟨j,hb⟩) (.inl hbb.symm);subst this;rw[h2]at h2';cases h2';exact(hI.ok q key d m h1 h2).1.fne j b hb hbb.symm
   ·rintro g i j g' i' j' b ⟨q,key,d,m,h1,h2,rfl,rfl,hb⟩ ⟨q',key',d',m',h1',h2',rfl,rfl,hb'⟩;have:=hap q q' m m' b h2 h2' (.inr ⟨j,hb⟩) (.inr ⟨j',hb'⟩);subst this;rw[h1]at h1';cases h1';rw[h2]at h2';cases h2';exact⟨rfl,rfl,(hI.ok q key d m h1 h2).1.dis j j' b hb hb'⟩
 ·intro v hv;cases hh:PB v with
  | none=>rfl
  | some L =>
   obtain⟨i,d,m,h1,_⟩:=hPB v L hh;have hm:v∈sp.ptr.map Prod.fst:=by
    rw[<- hkeys,<- hI.keys];exact aAW.2 ⟨_,aAA h1,rfl⟩
   have:=aAJ.1 hlt v hm;simp only[Nat.blt_eq]at this;omega
section
variable {w0:World} {F0:Fz} {M:Nat->Prop} {B0:Bt} {σ:S} {F:Fz} {β:Bt} {a:Act} {w:World}
theorem HO (h:Sim N Δ w0 F0 M B0 σ F β a w):∀ (ptr:List (Nat×(Nat×Nat))) (Ms:List Hd),ptr.length=Ms.length->(∀ (k:Nat) key s ty m,ptr[k]? =some (key,(s,ty))->Ms[k]? =some m->s=m.s/\ty=m.ty/\β key=some ⟨some m.b,1,m.s⟩)->((Bw ptr).run σ).1 ->
  Aj σ ((Bw ptr).run σ).2.2/\(∀ (k:Nat) key s ty m,ptr[k]? =some (key,(s,ty))->Ms[k]? =some m->∃ o,σ.go (8192+key)=some (key,o)/\o.fz=false/\o.var=true) /\
   ∀ (ws:List (Nat×Aa)) F' φ,Aj σ ws->(∀ p∈((Bw ptr).run σ).2.2,p∈ws)->NX F F'->Sim N Δ w0 F0 M B0 ⟨σ.e,ws++σ.o,σ.n⟩ F' β a w->Ay F' β w0.heap.size M ⟨σ.e,ws++σ.o,σ.n⟩ w φ ->
    ∀ (k:Nat) key s ty m,ptr[k]? =some (key,(s,ty))->Ms[k]? =some m->DN F' w ⟨m.b,m.s,m.ty,φ (8192+key) 0⟩ (((Bw ptr).run σ).2.1.getD k .top)/\∃ o,(S.mk σ.e (ws++σ.o) σ.n).go (8192+key)=some (key,o)/\o.fz=false
 | [],_,_,_,_=>⟨Aj.nil σ,λk key s ty m hk=>by simp at hk,λ_ _ _ _ _ _ _ _ k key s ty m hk=>by simp at hk⟩
 | _::_,[],hl,_,_=>by simp at hl
 | (j,(s,ty))::ptr,m::Ms,hl,hB,hc=>by
  simp only[Bw,R.run_bind,R.run_pure]at hc ⊢;obtain⟨c1,c2⟩:=hc;obtain⟨rfl,rfl,hβ⟩:=hB 0 j s ty m rfl rfl;obtain⟨f1,o,g1,g2,g3,r1⟩:=Lf h hβ rfl ⟨rfl,rfl⟩ c1;obtain⟨f2,g4,r2⟩:=HO h ptr Ms (by grind) (λk key s ty m' h1 h2=>hB (k+1) key s ty m' (by grind) (by grind)) c2
  refine⟨f1.append f2,λk key s ty m' h1 h2=>?_,λws F' φ q1 q2 q3 q4 q5 k key s ty m' h1 h2=>?_⟩
  ·grind
  grind
end
theorem Fh {α:Type} {l:List α} {q:Nat} {x:α} (h:(l.take q)[i]? =some x):l[i]? =some x:=by
 grind
def GB (P:Program) (Γ:Al) (W:(S->Prop)->S->Prop) (fn:Func):Prop:=∀ (c:Code) (F:Fz) (w0:World) (M:Nat->Prop) (B0:Bt) (σ:S) (F':Fz) (β:Bt) (a:Act) (w:World) (K:S->Prop) (R:Ending->World->Prop),
 fn.body=some c->YQ P F->(∀ k sp,Γ k=some sp->Bm P F (k % 4096) sp)->Sim fn.ntmps [] w0 F M B0 σ F' β a w->(∀ v,σ.n<=v->β v=none)->W K σ ->
 (∀ Δ τ F' β' a' w',Sim fn.ntmps Δ w0 F M B0 τ F' β' a' w'->(∀ v,τ.n<=v->β' v=none)->K τ->∃ v,(results fn a'.tmps).run P w'= .ok v w'/\R (.returned v) w')->c.wp P (bodyPostD P fn R) a w
def LM (W:(S->Prop)->S->Prop) (sp:Spec) (np:Nat) (rs:List Az):Prop :=
 ∀ ds,sp.pre ds->ds.length=np/\Ba sp.ptr 0 ds=sp.ptr.map Prod.fst->Wk (W (Wk (Bn sp rs ds))) (ED sp ds)
theorem Hx {P:Program} (hc:(fn.body.bind (Pp P fn.ntmps))=some dc):GB P Γ (λK=>DWp Γ dc λe τ=>match e with| .exit _=>False|_=>K τ) fn:=by
 intro c F w0 M B0 σ F' β a w K R hb _ hΓ h hf hw hK;rw[hb]at hc;refine wp_mono (Be hΓ c dc hc _ σ F' β a w h hf hw) λe a' w' ⟨τ,F1,β1,k1,k2,k3⟩=>?_
 have fin:K τ->Leaves P fn a'.tmps R a'.defers .returning w':=λk=>by
  rw[k1.defers];exact hK [] τ F1 β1 a' w' k1 k2 k
 cases e<;>first|exact fin k3|exact k3.elim|simp_all
theorem Jj (hΓ:∀ k sp,Γ k=some sp->Ns P (k % 4096) sp) {f:Nat} {c:Code} (hf:P.funcs[f]? =some fn) (hname:(fn.name == "runtime.NumGoroutine")=false) (hb:fn.body=some c) {W:(S->Prop)->S->Prop} (hc:GB P Γ W fn) (hr:fn.results.toList.mapM (UQ P)=some rs) (hnp:np<=fn.ntmps) (hpre:∀ ds,sp.pre ds->ds.length=np/\Ba sp.ptr 0 ds=sp.ptr.map Prod.fst) (hptr:Dr sp.ptr=true) (hok:LM W sp np rs) (hni:Bx sp.kind=none) (hno:Cx sp.kind=none:=by rfl):Ns P f sp:=by
 intro F00 hG0;refine⟨⟨fn,hf,hname,by rw[hb];rfl⟩,(λq hq=>by simp_all),λ_ _ w F ds xs Mb hsub0 hF hfin hA hp=>?_,(λφ hφ=>by simp_all),hG0⟩
 have hΓ:∀ k sp,Γ k=some sp->Bm P F (k % 4096) sp:=λk sp h=>hΓ k sp h F (hG0.mono hsub0)
 have hlen:ds.length=xs.length:=by
  clear hp;generalize 0=j at hA
  induction hA with
  | nil=>rfl
  | val _ _ _ _ _ _ _ _ _ _ ih=>simp[ih]
  | ptr _ _ _ _ _ _ _ _ _ _ ih=>simp[ih]
  | clo _ _ _ _ _ _ _ _ _ _ _ _ ih=>simp[ih]
 obtain⟨hdl,hkeys⟩:=hpre ds hp;obtain⟨PB,K,hS,hfresh,hnam,hKl,hKf,hKp⟩:=Ki (N:=fn.ntmps) (k:=fn.ntmps-xs.length) hF hfin hA (by omega) hptr hkeys
 refine calls_of_wp_defers hf hb ?_;have e0:(xs.toArray.size)=xs.length:=by simp
 rw[e0];obtain⟨τ0,hchg0,hok0⟩:=hok ds hp ⟨hdl,hkeys⟩;obtain⟨F00,B00,hS0,hfresh0⟩:=hS.chg hfresh hchg0;refine hc c F _ _ _ τ0 F00 B00 _ w _ _ hb (hG0.mono hsub0) hΓ hS0 hfresh0 hok0 λΔ τ1 F1 β1 a' w' k1' kf1 k3=>?_
 have fin0:∀ τ F' β',Sim fn.ntmps Δ { w with drawn:=w.heap.size } F (Wr Mb) PB τ F' β' a' w'->Bn sp rs ds τ->(∃ v,(results fn a'.tmps).run P w'= .ok v w'/\BW sp w F ds Mb (.returned v) w'):=by
  intro τ F' β' k1;rintro⟨r1,r2,r3⟩;have hpl:sp.ptr.length=Mb.length:=by
   have:=congrArg List.length hKf
   grind
  have hnd:(sp.ptr.map Prod.fst).Nodup:=by
   simp_all[Dr]
  have hBk:∀ (k:Nat) key s ty m,sp.ptr[k]? =some (key,(s,ty))->Mb[k]? =some m->s=m.s/\ty=m.ty/\β' key=some ⟨some m.b,1,m.s⟩:=by
   intro k key s ty m h1 h2;have hkl:k<K.length:=by grind
   obtain⟨⟨key',d⟩,hK⟩:∃ p,K[k]? =some p:=⟨_,aAC hkl⟩;have e1:(K.map Prod.fst)[k]? =some key':=by simp[hK]
   have e2:(sp.ptr.map Prod.fst)[k]? =some key:=by simp[h1]
   rw[hKf,e2]at e1;cases e1;have hl:=hKp k key d m hK h2;have hl2:look sp.ptr key=some (s,ty):=by
    cases hq:look sp.ptr key with
    | none=>simp_all
    | some y =>
     have hm:=Bj hq;obtain⟨k',hk'⟩:=aAX hm;have e3:(sp.ptr.map Prod.fst)[k']? =some key:=by simp[hk']
     grind [aAu]
   rw[hl2]at hl;cases hl;exact⟨rfl,rfl,k1.nam _ _ (hnam k key d m hK h2)⟩
  obtain⟨fe,ge,be⟩:=HO k1 sp.ptr Mb hpl hBk r1;have ending:∀ (ws:List (Nat×Aa)) (v:Value) (ρ:Nat->Prop),Aj τ ws->(∀ p∈((Bw sp.ptr).run τ).2.2,p∈ws)->(∀ F2 φ,NX F' F2->Sim fn.ntmps Δ { w with drawn:=w.heap.size } F (Wr Mb) PB ⟨τ.e,ws++τ.o,τ.n⟩ F2 β' a' w'->Ay F2 β' w.heap.size (Wr Mb) ⟨τ.e,ws++τ.o,τ.n⟩ w' φ->Kq w F2 w' (sp.res ds) v (λb=>ρ b\/(Mb=[]/\∃ g i j,φ g i j b)) sp.kind/\(Mb≠[]->∀ g j b,φ g 0 j b->¬ ρ b)) ->
    BW sp w F ds Mb (.returned v) w':=by
   intro ws v ρ hws hsub hres;obtain⟨F2,hF2,hS2,_⟩:=k1.freeze hws;obtain⟨φ,hφ⟩:=hS2.Ad;obtain⟨q1,q2⟩:=hres F2 φ hF2 hS2 hφ;have hbe:=be ws F2 φ hws hsub hF2 hS2 hφ;have hpk:∀ (k:Nat) m,Mb[k]? =some m->∃ key s ty,sp.ptr[k]? =some (key,(s,ty)):=by
    intro k m hk;have hlt:k<sp.ptr.length:=by grind
    exact⟨_,_,_,aAC hlt⟩
   refine⟨v,F2,λk j b=>∃ key st m,sp.ptr[k]? =some (key,st)/\Mb[k]? =some m/\φ (8192+key) 0 j b,_,rfl,hS2.frz,hS2.fin,⟨hS2.step.os,hS2.step.tape,hS2.step.output,hS2.step.size,hS2.step.block,hS2.step.sub,hS2.step.old⟩,q1,?_,?_⟩
   ·rw[<- r2];refine⟨λk m hk=>?_,λk j b ⟨key,st,m,h1,h2,_⟩=>(aAE.1 h2).1,λk j b ⟨key,st,m,h1,h2,h3⟩=>hφ.new _ _ _ _ h3,λk j k' j' b ⟨key,st,m,h1,h2,h3⟩ ⟨key',st',m',h1',h2',h3'⟩=>?_,λk j b m ⟨key,st,m1,h1,h2,h3⟩ hm e=>?_⟩
    ·obtain⟨key,s,ty,hp⟩:=hpk k m hk;have hz:=(hbe k key s ty m hp hk).1;refine⟨hz.var,hz.none_,hz.lt,?_,?_,?_,?_,?_,hz.hole⟩
     ·rintro j b ⟨key',st,m',h1,h2,h3⟩;rw[hp]at h1;cases h1;exact hz.fno j b h3
     ·rintro j b ⟨key',st,m',h1,h2,h3⟩;rw[hp]at h1;cases h1;exact hz.flt j b h3
     ·rintro j b ⟨key',st,m',h1,h2,h3⟩;rw[hp]at h1;cases h1;exact hz.fne j b h3
     ·rintro j j' b ⟨key',st,m',h1,h2,h3⟩ ⟨key'',st',m'',h1',h2',h3'⟩;rw[hp]at h1;cases h1;rw[hp]at h1';cases h1';exact hz.dis j j' b h3 h3'
     ·intro C j x s' ty' es hC hj hx;exact(hz.row C j x s' ty' es hC hj hx).keep (NX.refl _) (λ_ _=>rfl) (λb hb=>⟨key,(s,ty),m,hp,hk,hb⟩)
    ·have hkk:=(hφ.dis _ _ _ _ _ _ _ h3 h3').1;have:key=key':=by omega
     subst this;have e2:(sp.ptr.map Prod.fst)[k]? =some key:=by simp[h1]
     have e3:(sp.ptr.map Prod.fst)[k']? =some key:=by simp[h1']
     grind [aAu]
    ·obtain⟨k',hk'⟩:=aAX hm;obtain⟨key',s',ty',hp'⟩:=hpk k' m hk';obtain⟨_,o',z1,z2⟩:=hbe k' key' s' ty' m hp' hk';obtain⟨_,_,hβ⟩:=hBk k' key' s' ty' m hp' hk';subst e;exact hφ.sep _ _ _ _ _ _ _ _ h3 z1 z2 hβ rfl
   ·rintro k j b ⟨key,st,m,h1,h2,h3⟩ (hρ|⟨hM0,_⟩)
    ·exact q2 (λe=>by grind) _ _ _ h3 hρ
    grind
  have one:(sp.kind= .val\/sp.kind= .ground)->∀ r,rs=[r]->((Dz r).run τ).1->((Dz r).run τ).2.1=sp.res ds->∃ v,(results fn a'.tmps).run P w'= .ok v w'/\BW sp w F ds Mb (.returned v) w':=by
   rintro hk r rfl c1 c2;simp only[Dz,R.run_bind,R.run_pure]at c1 c2;obtain⟨d1,d2⟩:=c1;obtain⟨vs,v1,v2,v3⟩:=BG (P:=P) k1 hr (λr' hr'=>by grind)
   have hl1:vs.length=1:=v2;rw[dif_pos hl1]at v1;refine⟨_,v1,?_⟩;have hval:=v3 0 r vs[0] rfl (aAC (by omega))
   obtain⟨f1,g1⟩:=Es k1 _ hval d2;refine ending (((res ((Oi r).run τ).2).run τ).2.2++((Bw sp.ptr).run τ).2.2) _ (λ_=>False) (f1.append fe) (λp hp=>by simp[hp]) (λF2 φ hF2 hS2 _=>⟨?_,λ_ _ _ _ _=>id⟩)
   have:=g1 _ F2 (f1.append fe) (λp hp=>by simp[hp]) hF2 hS2
   rw[c2]at this;rcases hk with hk|hk<;>(rw[hk];exact this)
  have many:(sp.kind= .val\/sp.kind= .ground)->((AB rs).run τ).1-> .tup ((AB rs).run τ).2.1=sp.res ds->rs.length≠1->∃ v,(results fn a'.tmps).run P w'= .ok v w'/\BW sp w F ds Mb (.returned v) w':=by
   intro hk c1 c2 c3;obtain⟨vs,v1,v2,v3⟩:=BG (P:=P) k1 hr (CL rs c1);have hl1:¬ vs.length=1:=by omega
   rw[dif_neg hl1]at v1;refine⟨_,v1,?_⟩;obtain⟨f1,l1,g1⟩:=DX k1 rs vs v2.symm (λi r v h1 h2 _=>v3 i r v h1 h2) c1
   refine ending (((AB rs).run τ).2.2++((Bw sp.ptr).run τ).2.2) _ (λ_=>False) (f1.append fe) (λp hp=>by simp[hp]) (λF2 φ hF2 hS2 _=>⟨?_,λ_ _ _ _ _=>id⟩)
   have hh:=g1 _ F2 (f1.append fe) (λp hp=>by simp[hp]) hF2 hS2
   have:Fro F2 (sp.res ds) (.tuple vs.toArray):=by
    rw[<- c2];exact .tup _ vs l1 hh
   rcases hk with hk|hk<;>(rw[hk];exact this)
  cases hk:sp.kind with
  | inpl q=>grind
  | opn q=>grind
  | val =>
   grind
  | ground =>
   grind
  | row s ty =>
   rw[hk]at r3
   match rs,r3,hr with
   | [r],⟨d1,d2,d3,d4⟩,hr =>
    obtain⟨vs,v1,v2,v3⟩:=BG (P:=P) k1 hr (λr' hr'=>by grind)
    have hl1:vs.length=1:=v2;rw[dif_pos hl1]at v1;refine⟨_,v1,?_⟩;have hval:=v3 0 r vs[0] rfl (aAC (by omega))
    obtain⟨es,L,g,v,o,g1,g2,n1,n2,n3,n4,n5,n6,n7,g3⟩:=Ic k1 (aAF _) hval d2;refine ending _ _ (λb=>L.b=some b) fe (λp hp=>hp) (λF2 φ hF2 hS2 hφ=>?_)
    obtain⟨g4,g6,g5⟩:=g3 _ F2 d4 hF2 hS2;rw[hk];refine⟨⟨es,L,d3.symm.trans g1,g2,g4,λb hb=>⟨((g5 b hb).1).resolve_right (λz=>by cases z.1),(g5 b hb).2.1,(g5 b hb).2.2,.inl hb⟩⟩,λ_ g' j b hb hLb=>?_⟩
    exact hφ.sep g' 0 j b g v o L hb g6 n2 n5 hLb
   | [],r3,_=>grind
   | _::_::_,r3,_=>grind
  | mat s ty =>
   rw[hk]at r3
   match rs,r3,hr with
   | [r],⟨d1,d2,d3,d4⟩,hr =>
    obtain⟨vs,v1,v2,v3⟩:=BG (P:=P) k1 hr (λr' hr'=>by grind)
    have hl1:vs.length=1:=v2;rw[dif_pos hl1]at v1;refine⟨_,v1,?_⟩;have hval:=v3 0 r vs[0] rfl (aAC (by omega))
    have hM0:Mb=[]:=Zw d4 hA;have hpe:(Bw sp.ptr).run τ=(True,[],[]):=by rw[d4];rfl
    obtain⟨es,L,g,v,o,g1,g2,n1,n2,n3,n4,n5,⟨n0,rfl⟩,n7,g3⟩:=Ic k1 (aAF _) hval d2;refine ending [] _ (λb=>L.b=some b) (Aj.nil _) (λp hp=>by grind) (λF2 φ hF2 hS2 hφ=>?_)
    obtain⟨g4,g6,g5⟩:=g3 [] F2 (by simp) hF2 hS2
    have hidx:∀ (i:Nat) e,(o.es.take n0)[i]? =some e->o.es[i]? =some e:=λi e he=>Fh he
    have hnew:∀ b,w.heap.size<=b\/Wr Mb b->w.heap.size<=b:=by
     rintro b (hb|⟨m,hm,_⟩)
     all_goals grind
    rw[hk]
    refine⟨⟨_,L,λi j b=>φ g i j b,d3.symm.trans g1,g2,g4,λb hb=>⟨hnew b ((g5 b hb).1.imp id And.right),(g5 b hb).2.1,(g5 b hb).2.2,.inl hb⟩,λi j b hb=>⟨hnew b (hφ.new _ _ _ _ hb),hφ.lt _ _ _ _ hb,hφ.none_ _ _ _ _ hb,.inr ⟨hM0,g,i,j,hb⟩,hφ.sep g i j b g v o L hb g6 n2 n5⟩,
     λi j i' j' b h1 h2=>(hφ.dis _ _ _ _ _ _ _ h1 h2).2,λb C i j e x s' ty' es' hb hC he hj hx=>hφ.row g v o L b C i j e x s' ty' es' n1 g6 n2 n5 hb (by grind) (hidx i e he) hj (by rw[n3];exact hx),λi j e nm u n he hj=>n7 rfl e (aAA (hidx i e he)) _ (aAA hj) nm u n rfl⟩,λhne=>absurd hM0 hne⟩
   | [],r3,_=>exact r3.elim
   | _::_::_,r3,_=>exact r3.elim
  | ptr s ty =>
   rw[hk]at r3
   match rs,r3,hr with
   | [r],⟨d1,d2,d3,d4⟩,hr =>
    obtain⟨vs,v1,v2,v3⟩:=BG (P:=P) k1 hr (λr' hr'=>by grind)
    have hl1:vs.length=1:=v2;rw[dif_pos hl1]at v1;refine⟨_,v1,?_⟩;have hval:=v3 0 r vs[0] rfl (aAC (by omega))
    obtain⟨f1,g,v,o,b,g1,g2,g3,g4,g5,g6,g7⟩:=Ib k1 (aAF _) hval d2;refine ending (((Cb s ty ((Oi r).run τ).2).run τ).2.2.1++((Bw sp.ptr).run τ).2.2) _ (λb'=>b'=b) (f1.append fe) (λp hp=>by simp[hp]) (λF2 φ hF2 hS2 hφ=>?_)
    obtain⟨z1,z2,z3,z4,v',o',z5,z6,z7⟩:=g7 _ F2 (f1.append fe) (λp hp=>by simp[hp]) hF2 hS2
    rw[hk];refine⟨⟨b,g6,by rw[<- d3];exact z1,z4.resolve_right (λz=>by rw[g1]at d4;rw[d4]at z;cases z.2),z3,z2,.inl rfl⟩,λ_ g' j b' hb e=>?_⟩
    subst e;exact hφ.sep g' 0 j _ g v' o' _ hb z5 z6 z7 rfl
   | [],r3,_=>exact r3.elim
   | _::_::_,r3,_=>exact r3.elim
  | tupPtr q s ty =>
   rw[hk]at r3;have r3':q<rs.length/\rs.length≠1/\sp.ptr=[]/\((AB (rs.take q)).run τ).1/\((AB (rs.drop (q+1))).run τ).1/\((Oi (rs.getD q (.t 0))).run τ).1/\((Cb s ty ((Oi (rs.getD q (.t 0))).run τ).2).run τ).1 /\
     .tup (((AB (rs.take q)).run τ).2.1++((Cb s ty ((Oi (rs.getD q (.t 0))).run τ).2).run τ).2.1::((AB (rs.drop (q+1))).run τ).2.1)=sp.res ds:=by
    cases rs with
    | nil=>exact r3
    | cons r0 rs=>cases rs<;>exact r3
   obtain⟨t1,t2,t3,t4,t5,t6,t7,t8⟩:=r3';have hq:rs[q]? =some (rs.getD q (.t 0)):=by simp[t1]
   generalize rs.getD q (.t 0)=rq at *;have hsplit:rs=rs.take q++rq::rs.drop (q+1):=by
    obtain⟨hl,he⟩:=aAE.1 hq;rw[<- he,<- List.drop_eq_getElem_cons hl,List.take_append_drop]
   have conds:∀ r∈rs,((Oi r).run τ).1:=by
    intro r hr';rw[hsplit,aAU,List.mem_cons]at hr';rcases hr' with h1|rfl|h1
    ·exact CL _ t4 r h1
    ·exact t6
    ·exact CL _ t5 r h1
   obtain⟨vs,v1,v2,v3⟩:=BG (P:=P) k1 hr conds;rw[dif_neg (by rw[v2];exact t2)]at v1
   refine⟨_,v1,?_⟩;have hvl:q<vs.length:=by omega
   have hvq:vs[q]? =some vs[q]:=aAC hvl;obtain⟨fP,g,v,o,b,g1,g2,g3,g4,g5,g6,g7⟩:=Ib k1 (aAF _) (v3 q rq vs[q] hq hvq) t7;obtain⟨fA,lA,gA⟩:=DX k1 (rs.take q) (vs.take q) (by simp[v2]) (λi r v h1 h2 _=>v3 i r v (Fh h1) (Fh h2)) t4
   obtain⟨fB,lB,gB⟩:=DX k1 (rs.drop (q+1)) (vs.drop (q+1)) (by simp[v2]) (λi r v h1 h2 _=>v3 (q+1+i) r v (by rw[<- aAq];exact h1) (by rw[<- aAq];exact h2)) t5
   refine ending (((AB (rs.take q)).run τ).2.2++(((Cb s ty ((Oi rq).run τ).2).run τ).2.2.1++(((AB (rs.drop (q+1))).run τ).2.2++((Bw sp.ptr).run τ).2.2))) _ (λb'=>b'=b) (fA.append (fP.append (fB.append fe))) (λp hp=>by simp[hp]) (λF2 φ hF2 hS2 _=>⟨?_,λhne=>absurd (Zw t3 hA) hne⟩)
   have hws:=fA.append (fP.append (fB.append fe));obtain⟨z1,z2,z3,z4⟩:=g7 _ F2 hws (λp hp=>by simp[hp]) hF2 hS2
   have zA:=gA _ F2 hws (λp hp=>by simp[hp]) hF2 hS2
   have zB:=gB _ F2 hws (λp hp=>by simp[hp]) hF2 hS2
   have lA':((AB (rs.take q)).run τ).2.1.length=q:=by rw[lA];simp;omega
   rw[hk];refine⟨_,vs,b,t8.symm,rfl,?_,?_,?_,?_,?_,z3,z2,.inl rfl⟩
   ·simp only[List.length_append,aAw,lA',lB,List.length_drop];omega
   ·intro j c x hj hc hx;rcases aAc j q with h1|h1|h1
    ·rw[aAQ (by omega)]at hc
     exact zA j c x hc (by rw[List.getElem?_take];simp[h1,hx])
    ·exact absurd h1 hj
    ·obtain⟨i,rfl⟩:∃ i,j=q+1+i:=⟨j-(q+1),by omega⟩
     rw[aAO (by omega),lA',show q+1+i-q=i+1 by omega,aAK]at hc
     exact zB i c x hc (by rw[aAq];exact hx)
   ·rw[hvq,g6]
   ·rw[aAr,aAO (by omega),lA',Nat.sub_self]
    exact z1
   ·rcases z4.1 with z4|⟨⟨m,hm,_⟩,_⟩
    all_goals grind
 obtain⟨τ,hc1,hr1⟩:=k3;obtain⟨F',β',k1,_⟩:=k1'.chg kf1 hc1;exact fin0 τ F' β' k1 hr1
end
theorem KT {P:Program} (hΓ:∀ k sp,Γ k=some sp->Ns P (k % 4096) sp) {f:Nat} (hf:P.funcs[f]? =some fn) (hname:(fn.name == "runtime.NumGoroutine")=false) (hc:(fn.body.bind (Pp P fn.ntmps))=some dc) (hr:fn.results.toList.mapM (UQ P)=some rs) (hnp:np<=fn.ntmps) (hpre:∀ ds,sp.pre ds->ds.length=np/\Ba sp.ptr 0 ds=sp.ptr.map Prod.fst) (hptr:Dr sp.ptr=true) (hok:MB Γ sp np rs dc) (hni:Bx sp.kind=none) (hno:Cx sp.kind=none:=by rfl):Ns P f sp:=by
 obtain⟨c,hb,_⟩:=aA.1 hc;exact Jj hΓ hf hname hb (Hx hc) hr hnp hpre hptr hok hni hno
def specs (l:List (Nat×Spec)):Al:=λk=>look l k
theorem AqX {P:Program} (h:∀ p∈l,Ns P (p.1 % 4096) p.2):∀ k sp,specs l k=some sp->Ns P (k % 4096) sp:=λ_k _sp hk=>h _ (Bj hk)
theorem Np {P:Program}:∀ k sp,specs [] k=some sp->Ns P (k % 4096) sp:=AqX (λ_ h=>by cases h)
theorem nK {P:Program} (k:Nat) {S:Spec} (h:Ns P (k % 4096) S) (hl:∀ k sp,specs l k=some sp->Ns P (k % 4096) sp):∀ k' sp,specs ((k,S)::l) k'=some sp->Ns P (k' % 4096) sp:=λk' sp hk=>by
 unfold specs look at hk;split at hk
 ·rename_i e;cases hk;rw[e];exact h
 ·exact hl k' sp hk
theorem AkT {n:Int} (h0: -9223372036854775808<=n) (h1:n<=9223372036854775807):IntKind.i64.wrap n=n:=by
 rw[IntKind.wrap_i64];omega
def Da:Nat->List D->List (Nat×D)
 | _,[]=>[]
 | j,d::r=>(j,d)::Da (j+1) r
theorem Gd:∀ (ds:List D) (j t:Nat),look (Da j ds) t=if j<=t then ds[t-j]? else none
 | [],j,t=>by simp[Da,look]
 | d::r,j,t=>by
  simp only[Da,look,Gd r (j+1) t]
  grind
def SM:D->Bool
 | .agg _| .tup _| .when ..=>false
 | _=>true
def Oc (rs:List Az) (τ:S):Prop×D :=
 match rs with
 | [r]=>(((Oi r).run τ).1,((Oi r).run τ).2)
 | rs=>((∀ r∈rs,((Oi r).run τ).1)/\(rs.map λr=>((Oi r).run τ).2).all SM=true,.tup (rs.map λr=>((Oi r).run τ).2))
def GX (rs:List Az) (e:List (Nat×D)) (K:D->S->Prop):Aq->S->Prop:=λx τ =>
 match x with
 | .exit _=>False
 | _=>Wk (λτ=>(Oc rs τ).1/\K (Oc rs τ).2 ⟨e,τ.o,τ.n⟩) τ
def DW (Γ:Al) (np:Nat) (rs:List Az) (dc:OX):List D->S->(D->S->Prop)->Prop:=λds σ K =>
 ds.length=np/\Wk (DWp Γ dc (GX rs σ.e K)) ⟨Da 0 ds,σ.o,σ.n⟩
def Zl (Γ:Al) (np:Nat) (rs:List Az) (dc:OX):Spec:=⟨[],.opn (DW Γ np rs dc),λ_=>False,λ_=>.top,λ_=>[]⟩
theorem Kp (h:Val F β d x) (ht:SM d=true):Cel F β d x:=by
 cases d<;>first|exact h|cases ht
theorem Ju {P:Program} (hΓ:∀ k sp,Γ k=some sp->Ns P (k % 4096) sp) {c:Code} (hc:Pp P fn.ntmps c=some dc) (hr:fn.results.toList.mapM (UQ P)=some rs) (hnp:np<=fn.ntmps) {F0 F0':Fz} (hG:YQ P F0) (hF0':NX F0 F0') {N:Nat} {Δ:List Deferred} {w0:World} {M:Nat->Prop} {B0:Bt} {w:World} {vs:List Value} {K:D->S->Prop} (hM:Sim N Δ w0 F0' M B0 σ F β a w) (hfr:∀ v,σ.n<=v->β v=none) (hl:ds.length=vs.length) (hv:∀ (i:Nat) d x,ds[i]? =some d->vs[i]? =some x->Val F β d x) (hφ:DW Γ np rs dc ds σ K) :
  c.wp P (bodyPost P fn λe w'=>∃ v d o' n' F' β',e= .returned v/\Sim N Δ w0 F0' M B0 ⟨σ.e,o',n'⟩ F' β' a w'/\(∀ v,n'<=v->β' v=none)/\Val F' β' d v/\K d ⟨σ.e,o',n'⟩) { tmps:=vs.toArray++aAI (fn.ntmps-vs.toArray.size) undef,defers:=[] } w:=by
 obtain⟨hn,τ0,hchg,hw⟩:=hφ;have h:=hM;have h1:=hM;have hΓ':∀ k sp,Γ k=some sp->Bm P F (k % 4096) sp:=λk sp hk=>hΓ k sp hk F (hG.mono (hF0'.trans h.step.sub))
 have hSM:Sim fn.ntmps [] w0 F M β ⟨Da 0 ds,σ.o,σ.n⟩ F β { tmps:=vs.toArray++aAI (fn.ntmps-vs.toArray.size) undef,defers:=[] } w:=by
  refine{ nam:=Aw.refl _,size:=by simp;omega,defers:=rfl,env:=λt=>?_,own:=h1.own,dist:=h1.dist,sep:=h1.sep,Ad:=?_,frz:=h1.frz,fin:=h1.fin,step:=⟨h1.step.os,h1.step.tape,h1.step.output,h1.step.size,h1.step.block,NX.refl _,λ_ _ _ _=>rfl⟩ }
  ·simp only[S.ge,Gd,Nat.zero_le,if_true,Nat.sub_zero]
   by_cases ht:t<ds.length
   ·have h1:ds[t]? =some ds[t]:=aAC ht;have h2:vs[t]? =some (vs[t]'(by omega)):=aAC _
    rw[h1];have e:(vs.toArray++aAI (fn.ntmps-vs.toArray.size) undef).getD t undef=vs[t]'(by omega):=by
     rw[aAD,aAh (by simp;omega)]
     simp[h2]
    grind [Env.Ai]
   grind [Env.top]
  ·obtain⟨φ,hφ⟩:=h1.Ad;exact⟨φ,hφ.congr λ_=>rfl⟩
 obtain⟨F1,β1,hS1,hfr1⟩:=hSM.chg hfr hchg;refine wp_mono (Be hΓ' c dc hc _ τ0 F1 β1 _ w hS1 hfr1 hw) λe a' w' hq=>?_
 obtain⟨τ1,F2,β2,k1,k2,k3⟩:=hq;have fin:Wk (λτ=>(Oc rs τ).1/\K (Oc rs τ).2 ⟨σ.e,τ.o,τ.n⟩) τ1->(a'.defers=[]/\∃ v,(results fn a'.tmps).run P w'= .ok v w'/\∃ v' d o' n' F' β',Ending.returned v= .returned v'/\Sim N Δ w0 F0' M B0 ⟨σ.e,o',n'⟩ F' β' a w'/\(∀ v,n'<=v->β' v=none)/\Val F' β' d v'/\K d ⟨σ.e,o',n'⟩):=by
  rintro⟨τ,hc1,hr1,hk⟩;obtain⟨F',β',z1,z2⟩:=k1.chg k2 hc1;have hall:∀ r∈rs,((Oi r).run τ).1:=by
   unfold Oc at hr1
   grind
  obtain⟨xs,r1,r2,r3⟩:=BG (P:=P) z1 (fn:=fn) hr hall;refine⟨z1.defers,_,r1,_,(Oc rs τ).2,τ.o,τ.n,F',β',rfl,?_,z2,?_,hk⟩
  ·refine{ nam:=h.nam.trans z1.nam,size:=h.size,defers:=h.defers,env:=λt=>(h.env t).mono z1.step.sub z1.nam,own:=z1.own,dist:=z1.dist,sep:=z1.sep,Ad:=?_,frz:=z1.frz,fin:=z1.fin,step:=⟨z1.step.os,z1.step.tape,z1.step.output,z1.step.size,z1.step.block,h.step.sub.trans z1.step.sub,λb i hb hm=>(z1.step.old b i hb hm).trans (h.step.old b i hb hm)⟩ }
   obtain⟨φ,hφ⟩:=z1.Ad;exact⟨φ,hφ.congr λ_=>rfl⟩
  ·unfold Oc at hr1 ⊢;split
   ·rename_i r;have hl1:xs.length=1:=by omega
    rw[dif_pos hl1];exact r3 0 r _ rfl (aAC (by omega))
   ·rename_i hne;have hl1:xs.length≠1:=by
     intro e;rw[r2]at e
     match rs,e with
     | [r],_=>simp_all
    rw[dif_neg hl1];split at hr1
    ·simp_all
    refine⟨xs,rfl,by simp[r2],λj c x hj hx=>?_⟩
    grind [Kp]
 cases e with
 | normal=>exact fin k3
 | ret=>exact fin k3
 | exit id=>exact k3.elim
 | goto l=>simp_all
 | panic ch=>simp_all
 | outgrown=>simp_all
theorem UC {P:Program} (hΓ:∀ k sp,Γ k=some sp->Ns P (k % 4096) sp) {f:Nat} (hf:P.funcs[f]? =some fn) (hname:(fn.name == "runtime.NumGoroutine")=false) (hc:(fn.body.bind (Pp P fn.ntmps))=some dc) (hr:fn.results.toList.mapM (UQ P)=some rs) (hnp:np<=fn.ntmps):Ns P f (Zl Γ np rs dc):=by
 rw[aA]at hc;obtain⟨c,hb,hc⟩:=hc;intro F0 hG;refine⟨⟨fn,hf,hname,by rw[hb];rfl⟩,λq hq=>(by cases hq),λ_ h=>(by cases h),λφ hφ=>?_,hG⟩
 cases hφ;exact λF1 hF1 N Δ w0 M B0 σ F β a w ds vs K hM hfr hl hv hφ=>calls_of_wp hf hb (Ju hΓ hc hr hnp hG hF1 hM hfr hl hv hφ)
end Go.Dw
