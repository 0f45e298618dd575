/-
  THE LAYER: symbolic semantics of compiled code, and programs on typed data.
-/
import Derived.Test.YtcppfbhmhlhncaaDoorDb
import Derived.KernelRfl
import Derived.ProofKit
import Derived.OpenShut
import Derived.Deep.Strs
import Derived.SizedLaws
open Array renaming replicate->aAP,getD_eq_getD_getElem?->aAb,getElem?_eq_some_iff->aAi,getElem?_append_left->aAt
open Bool renaming and_eq_true->aAT,false_eq_true->aAV
open Go.DataW renaming trod->aAl,weights->aAv,TrodAll->aAw,weightsAll->aBB,weights_mem_each->aBF
open Function renaming comp_def->aAy
open List renaming getElem?_eq_some_iff->aAA,getElem?_eq_getElem->aAC,getElem?_cons_zero->aAD,mem_of_getElem?->aAF,getElem?_append_left->aAH,getElem?_append_right->aAI,take_of_length_le->aAJ,getElem?_cons_succ->aAK,getElem?_map->aAO,mem_singleton->aAQ,all_eq_true->aAR,mem_map->aAU,replicate->aAX,getElem?_of_mem->aAY,mem_append->aAZ,append_nil->aAa,length_map->aAc,getD_eq_getElem?_getD->aAd,take->aAf,take_append_drop->aAg,getElem?_set_ne->aAh,getElem?_zip_eq_some->aAj,drop->aAk,range->aAo,map_congr_left->aAp,getElem?_take->aAr,getElem?_drop->aAs,mem_cons->aAu,getElem?_inj->aAx,mem_or_eq_of_mem_set->aAz,length_cons->aB,map_set->aBA,getElem?_set_self->aBD,length_eq_one_iff->aBE,countP_eq_length->aBG,mem_range->aBH,drop_zero->aBI,mem_append_right->aBJ,map_drop->aBK,map_map->aBL
open Nat renaming le_refl->aAL,le_of_ble_eq_true->aAM,beq->aAN,eq_of_beq_eq_true->aAS,blt->aAW,ble->aAe,zero_le->aAm,le_trans->aAn
open Option renaming bind_eq_some_iff->aA,getD_some->aAB,map_eq_some_iff->aAE,bind_eq_bind->aAG
open Go.Value renaming okWide->aBC
open Go.World renaming cell?->aAq
namespace Go.Dw
theorem BD (rn:Nat->Nat):∀ l:List D,He rn l=l.map (rnm rn)
 | []=>rfl
 | d::r=>by simp[He,BD rn r]
section
variable {N:Nat} {w0:World} {F0:Fz} {M:Nat->Prop} {B0:Bt} {σ:S} {F:Fz} {β:Bt} {a:Act} {w:World}
theorem NU (rn:Nat->Nat) {d:D} {x:Value} (h:Fro F d x):Fro F (rnm rn d) x:=by
 have key:∀ (cs:List D) (vs:List Value),(∀ (j:Nat) c v,cs[j]? =some c->vs[j]? =some v->Fro F (rnm rn c) v)->∀ (j:Nat) c v,(He rn cs)[j]? =some c->vs[j]? =some v->Fro F c v:=by
  intro cs vs h j c v hc hv
  rw[BD,aAO,aAE]at hc
  obtain⟨c',hc',rfl⟩:=hc
  exact h j c' v hc' hv
 induction h with
 | agg cs vs hl h1 _ ih=>exact .agg _ vs (by simpa[BD]using hl) h1 (key cs vs ih)
 | clo f cs vs hl _ ih=>exact .clo f _ vs (by simpa[BD]using hl) (key cs vs ih)
 | tup cs vs hl _ ih=>exact .tup _ vs (by simpa[BD]using hl) (key cs vs ih)
 | top v=>exact .top v
 | row s ty es v=>exact .row s ty es v
 | hole nm u n v=>exact .hole nm u n v
 | int k n=>exact .int k n
 | bool b=>exact .bool b
 | str s=>exact .str s
 | nils=>exact .nils
 | nilf=>exact .nilf
 | ifc t d v h _=>exact .ifc t d v h
 | nilp=>exact .nilp
 | sl0 a c=>exact .sl0 a c
 | sl es b o c s vf hc hs hF h1 h _=>exact .sl es b o c s vf hc hs hF h1 h
 | fptr e b o off vf hF h1 h _=>exact .fptr e b o off vf hF h1 h
theorem Kq (rn:Nat->Nat) {d:D} {x:Value} (h:Ref F β d x):Ref F β (rnm rn d) x:=by
 cases d<;>first|exact h|exact Ref.Af (NU rn h)
theorem AR (rn:Nat->Nat) {d:D} {x:Value} (h:Cel F β d x):Cel F β (rnm rn d) x:=by
 by_cases hcl:∃ f cs,d= .clo f cs
 case neg =>
  have h':Ref F β d x:=by cases d<;>first|exact h|exact(hcl ⟨_,_,rfl⟩).elim
  exact Cel.CL (Kq rn h')
 obtain⟨f,cs,rfl⟩:=hcl
 obtain⟨vs,rfl,hl,hv⟩:=h
 refine⟨vs,rfl,by simpa[BD]using hl,λj c v hc hv'=>?_⟩
 rw[BD,aAO,aAE]at hc
 obtain⟨c',hc',rfl⟩:=hc
 exact Kq rn (hv j c' v hc' hv')
theorem Bd (rn:Nat->Nat) {d:D} {x:Value} (h:Val F β d x):Val F β (rnm rn d) x:=by
 cases d with
 | agg cs =>
  obtain⟨vs,rfl,hl,h1,hv⟩:=h
  refine⟨vs,rfl,by simpa[BD]using hl,h1,λj c v' hc hv'=>?_⟩
  rw[BD,aAO,aAE]at hc
  obtain⟨c',hc',rfl⟩:=hc
  exact AR rn (hv j c' v' hc' hv')
 | tup cs =>
  obtain⟨vs,rfl,hl,hv⟩:=h
  refine⟨vs,rfl,by simpa[BD]using hl,λj c v' hc hv'=>?_⟩
  rw[BD,aAO,aAE]at hc
  obtain⟨c',hc',rfl⟩:=hc
  exact AR rn (hv j c' v' hc' hv')
 | top =>exact Val.Ap (AR rn (show Cel F β (.top ) x from h))
 | int x0 x1=>exact Val.Ap (AR rn (show Cel F β (.int x0 x1) x from h))
 | bool x0=>exact Val.Ap (AR rn (show Cel F β (.bool x0) x from h))
 | str x0=>exact Val.Ap (AR rn (show Cel F β (.str x0) x from h))
 | sl x0=>exact Val.Ap (AR rn (show Cel F β (.sl x0) x from h))
 | nils =>exact Val.Ap (AR rn (show Cel F β (.nils ) x from h))
 | osl x0 x1 x2 x3=>exact Val.Ap (AR rn (show Cel F β (.osl x0 x1 x2 x3) x from h))
 | optr x0 x1 x2 x3=>exact Val.Ap (AR rn (show Cel F β (.optr x0 x1 x2 x3) x from h))
 | mref x0 x1=>exact Val.Ap (AR rn (show Cel F β (.mref x0 x1) x from h))
 | vsl x0 x1 x2=>exact Val.Ap (AR rn (show Cel F β (.vsl x0 x1 x2) x from h))
 | fptr x0 x1=>exact Val.Ap (AR rn (show Cel F β (.fptr x0 x1) x from h))
 | clo x0 x1=>exact Val.Ap (AR rn (show Cel F β (.clo x0 x1) x from h))
 | nilf =>exact Val.Ap (AR rn (show Cel F β (.nilf ) x from h))
 | ifc x0 x1=>exact Val.Ap (AR rn (show Cel F β (.ifc x0 x1) x from h))
 | nilp=>exact Val.Ap (AR rn (show Cel F β (.nilp) x from h))
 | when x0 x1=>exact Val.Ap (AR rn (show Cel F β (.when x0 x1) x from h))
 | row x0 x1 x2=>exact Val.Ap (AR rn (show Cel F β (.row x0 x1 x2) x from h))
 | hole x0 x1 x2=>exact Val.Ap (AR rn (show Cel F β (.hole x0 x1 x2) x from h))
theorem NR (rn:Nat->Nat) {d:D} {x:Value} (h:Env F β d x):Env F β (rnm rn d) x:=by
 cases d with
 | top =>exact Env.Ah (Bd rn (show Val F β (.top ) x from h))
 | int x0 x1=>exact Env.Ah (Bd rn (show Val F β (.int x0 x1) x from h))
 | bool x0=>exact Env.Ah (Bd rn (show Val F β (.bool x0) x from h))
 | str x0=>exact Env.Ah (Bd rn (show Val F β (.str x0) x from h))
 | agg x0=>exact Env.Ah (Bd rn (show Val F β (.agg x0) x from h))
 | sl x0=>exact Env.Ah (Bd rn (show Val F β (.sl x0) x from h))
 | nils =>exact Env.Ah (Bd rn (show Val F β (.nils ) x from h))
 | osl x0 x1 x2 x3=>exact Env.Ah (Bd rn (show Val F β (.osl x0 x1 x2 x3) x from h))
 | optr x0 x1 x2 x3=>exact Env.Ah (Bd rn (show Val F β (.optr x0 x1 x2 x3) x from h))
 | mref x0 x1=>exact Env.Ah (Bd rn (show Val F β (.mref x0 x1) x from h))
 | vsl x0 x1 x2=>exact Env.Ah (Bd rn (show Val F β (.vsl x0 x1 x2) x from h))
 | fptr x0 x1=>exact Env.Ah (Bd rn (show Val F β (.fptr x0 x1) x from h))
 | clo x0 x1=>exact Env.Ah (Bd rn (show Val F β (.clo x0 x1) x from h))
 | nilf =>exact Env.Ah (Bd rn (show Val F β (.nilf ) x from h))
 | ifc x0 x1=>exact Env.Ah (Bd rn (show Val F β (.ifc x0 x1) x from h))
 | nilp=>exact Env.Ah (Bd rn (show Val F β (.nilp) x from h))
 | tup x0=>exact Env.Ah (Bd rn (show Val F β (.tup x0) x from h))
 | row x0 x1 x2=>exact Env.Ah (Bd rn (show Val F β (.row x0 x1 x2) x from h))
 | hole x0 x1 x2=>exact Env.Ah (Bd rn (show Val F β (.hole x0 x1 x2) x from h))
 | when p d=>exact h
theorem Is (rn:Nat->Nat) (d:D):cells (rnm rn d)=(cells d).map (rnm rn):=by
 cases d<;>simp[cells,rnm,BD]
theorem FH {rn:Nat->Nat} {ks:List Nat} (h:DV rn ks=true):(∀ k∈ks,Ab (rn k)=Ab k)/\∀ k∈ks,∀ k'∈ks,rn k=rn k'->k=k':=by
 simp only[DV,aAR,aAT,Bool.or_eq_true,Bool.not_eq_true',beq_iff_eq]at h
 refine⟨λk hk=>(h k hk).1,λk hk k' hk' e=>?_⟩
 rcases(h k hk).2 k' hk' with h1|h1
 ·rw[e]at h1;simp at h1
 ·exact aAS h1
theorem IA {rn:Nat->Nat} {ks:List Nat} (hi:∀ k∈ks,∀ k'∈ks,rn k=rn k'->k=k'):∀ (l:List (Nat×Ac)) (g':Nat) (y:Ac),(∀ p∈l,p.1∈ks)->look (l.map λp=>(rn p.1,rnO rn p.2)) g'=some y->∃ g x,g∈ks/\rn g=g'/\look l g=some x/\y=rnO rn x
 | [],g',y,_,h=>by simp[look]at h
 | (k,x)::r,g',y,hk,h=>by
  simp only[List.map_cons,look]at h
  have hkk:=hk (k,x) (List.mem_cons_self ..)
  split at h
  ·rename_i e
   cases h
   exact⟨k,x,hkk,e.symm,by simp[look],rfl⟩
  ·rename_i hne
   obtain⟨g,x',h1,h2,h3,h4⟩:=IA hi r g' y (λp hp=>hk p (List.mem_cons_of_mem _ hp)) h
   refine⟨g,x',h1,h2,?_,h4⟩
   have:g≠k:=λe=>by subst e;exact hne h2.symm
   simp[look,this,h3]
theorem Ci {rn:Nat->Nat} (hn:DV rn (σ.o.map Prod.fst)=true) {g' v:Nat} {q:Own} (h:(S.mk (σ.e.map (λp=>(p.1,rnm rn p.2))) (σ.o.map (λp=>(rn p.1,rnO rn p.2))) σ.n).go g'=some (v,q)) :
  ∃ g o,g∈σ.o.map Prod.fst/\rn g=g'/\σ.go g=some (v,o)/\q={ o with es:=bif o.var then o.es.map (rnm rn)else o.es }:=by
 obtain⟨_,hi⟩:=FH hn
 simp only[S.go]at h
 cases hl:look (σ.o.map (λp=>(rn p.1,rnO rn p.2))) g' with
 | none=>rw[hl]at h;cases h
 | some y =>
  rw[hl]at h
  simp only[aAB]at h
  obtain⟨g,x,h1,h2,h3,h4⟩:=IA hi σ.o g' y (λp hp=>aAU.2 ⟨p,hp,rfl⟩) hl
  subst h4
  cases x with
  | none=>cases h
  | some p =>
   obtain⟨u,o⟩:=p
   cases h
   exact⟨g,o,h1,h2,by simp[S.go,h3],rfl⟩
theorem HX {rn:Nat->Nat} {o:Own} {i j:Nat} {e c:D} (he:(bif o.var then o.es.map (rnm rn)else o.es)[i]? =some e) (hc:(cells e)[j]? =some c):∃ e0 c0,o.es[i]? =some e0/\(cells e0)[j]? =some c0/\(c=c0\/(o.var=true/\c=rnm rn c0)):=by
 cases hv:o.var with
 | false=>rw[hv]at he;exact⟨e,c,he,hc,.inl rfl⟩
 | true =>
  rw[hv]at he
  simp only[cond_true,aAO,aAE]at he
  obtain⟨e0,h1,rfl⟩:=he
  rw[Is,aAO,aAE]at hc
  obtain⟨c0,h2,rfl⟩:=hc
  exact⟨e0,c0,h1,h2,.inr ⟨rfl,rfl⟩⟩
theorem Kt {rn:Nat->Nat} {d:D}:(∀ s ty es,rnm rn d= .row s ty es->d= .row s ty es)/\∀ nm u n,rnm rn d= .hole nm u n->d= .hole nm u n:=by
 cases d<;>exact⟨λ_ _ _ e=>(by first|exact e|cases e),λ_ _ _ e=>(by first|exact e|cases e)⟩
theorem Ok (h:Sim N w0 F0 M B0 σ F β a w) {rn:Nat->Nat} (hn:DV rn (σ.o.map Prod.fst)=true) :
  Sim N w0 F0 M B0 ⟨σ.e.map (λp=>(p.1,rnm rn p.2)),σ.o.map (λp=>(rn p.1,rnO rn p.2)),σ.n⟩ F β a w:=by
 obtain⟨hrc,hi⟩:=FH hn
 have hlen:∀ o:Own,(bif o.var then o.es.map (rnm rn)else o.es).length=o.es.length:=by intro o;cases o.var<;>simp
 have hcl:∀ o:Own,(∀ e∈o.es,(cells e).length=o.s)->∀ e∈(bif o.var then o.es.map (rnm rn)else o.es),(cells e).length=o.s:=by
  intro o ho e he
  cases hv:o.var with
  | false=>rw[hv]at he;exact ho e he
  | true =>
   rw[hv]at he
   obtain⟨e0,h1,rfl⟩:=aAU.1 he
   rw[Is,aAc];exact ho e0 h1
 have hok:∀ {L:Loc} {o:Own},AA F β w L o->AA F β w L { o with es:=bif o.var then o.es.map (rnm rn)else o.es }:=by
  rintro L o ⟨e1,e2,e3,e4,e5,e6⟩
  refine⟨e1,e2,by simp only[hlen];exact e3,e4,hcl o e5,?_⟩
  cases hb:L.b with
  | none=>rw[hb]at e6;exact e6
  | some b =>
   rw[hb]at e6
   obtain⟨C,hC,hCs,hcell⟩:=e6
   refine⟨C,hC,hCs,λi j e c h1 h2=>?_⟩
   obtain⟨e0,c0,k1,k2,k3⟩:=HX h1 h2
   obtain⟨x,x1,x2,x3⟩:=hcell i j e0 c0 k1 k2
   refine⟨x,x1,x2,?_⟩
   rcases k3 with rfl|⟨hv,rfl⟩
   ·exact x3
   ·rw[if_pos hv]at x3
    rw[if_pos hv];exact AR rn x3
 refine{ nam:=h.nam,size:=h.size,defers:=h.defers,env:=λt=>?_,own:=?_,dist:=?_,sep:=?_,Ab:=?_,frz:=h.frz,fin:=h.fin,step:=h.step }
 ·rw[Jk (rnm rn) rfl];exact NR rn (h.env t)
 ·intro g' v q hg
  obtain⟨g,o,_,_,hgo,rfl⟩:=Ci hn hg
  obtain⟨L,hL,h1,h2⟩:=h.own g v o hgo
  refine⟨L,hL,λhf=>?_,λhf=>hok (h2 hf)⟩
  have hz:=h1 hf
  have hv:o.var=false:=hz.var
  have:({ o with es:=bif o.var then o.es.map (rnm rn)else o.es }:Own)=o:=by cases o;simp only at hv;subst hv;rfl
  rw[this];exact hz
 ·intro g1 g2 v1 v2 q1 q2 L1 L2 b h1 h2 f1 f2 l1 l2 b1 b2
  obtain⟨k1,o1,_,r1,s1,rfl⟩:=Ci hn h1
  obtain⟨k2,o2,_,r2,s2,rfl⟩:=Ci hn h2
  have:=h.dist k1 k2 v1 v2 o1 o2 L1 L2 b s1 s2 f1 f2 l1 l2 b1 b2
  rw[<- r1,<- r2,this]
 ·intro g' v q L b hg hf hL hb
  obtain⟨g,o,m,r,s,rfl⟩:=Ci hn hg
  obtain⟨z1,z2,z3⟩:=h.sep g v o L b s hf hL hb
  refine⟨z1,z2,z3.imp id λ⟨a,b⟩=>⟨a,b.imp (λb=>?_) id⟩⟩
  rw[<- r,hrc g m];exact b
 ·obtain⟨φ,hφ⟩:=h.Ab
  refine⟨λg' i j b=>∃ g,g∈σ.o.map Prod.fst/\rn g=g'/\φ g i j b,?_,?_,λg i j b ⟨k,_,_,hb⟩=>hφ.none_ k i j b hb,λg i j b ⟨k,_,_,hb⟩=>hφ.lt k i j b hb,λg i j b ⟨k,_,_,hb⟩=>hφ.new k i j b hb,?_,?_⟩
  ·intro g' v q L b C i j e x s ty es hr hg hf hL hb hC he hj hx
   obtain⟨g,o,m,r,hgo,rfl⟩:=Ci hn hg
   obtain⟨e0,c0,k1,k2,k3⟩:=HX he hj
   have hc0:c0= .row s ty es:=by
    rcases k3 with k3|⟨_,k3⟩
    ·exact k3.symm
    ·exact Kt.1 _ _ _ k3.symm
   subst hc0
   have hr':Ab g=true:=by rw[<- hrc g m,r];exact hr
   exact(hφ.row g v o L b C i j e0 x s ty es hr' hgo hf hL hb hC k1 k2 hx).QA (Ag.refl _) (λ_ _=>rfl) λb hb=>⟨g,m,r,hb⟩
  ·intro g' v q L b C i j e x nm u n hr hg hf hL hb hC he hj hx
   obtain⟨g,o,m,r,hgo,rfl⟩:=Ci hn hg
   obtain⟨e0,c0,k1,k2,k3⟩:=HX he hj
   have hc0:c0= .hole nm u n:=by
    rcases k3 with k3|⟨_,k3⟩
    ·exact k3.symm
    ·exact Kt.2 _ _ _ k3.symm
   subst hc0
   have hr':Ab g=true:=by rw[<- hrc g m,r];exact hr
   exact hφ.hole g v o L b C i j e0 x _ u n hr' hgo hf hL hb hC k1 k2 hx
  ·rintro g1 i j b g' v' q L' ⟨k,_,_,hb⟩ hg hf hL
   obtain⟨g,o,m,r,hgo,rfl⟩:=Ci hn hg
   exact hφ.sep k i j b g v' o L' hb hgo hf hL
  ·rintro g1 i j g2 i' j' b ⟨k,_,r,hb⟩ ⟨k',_,r',hb'⟩
   obtain⟨e1,e2,e3⟩:=hφ.dis k i j k' i' j' b hb hb'
   exact⟨by rw[<- r,<- r',e1],e2,e3⟩
end
section
variable {N:Nat} {w0:World} {F0:Fz} {M:Nat->Prop} {B0:Bt} {σ:S} {F:Fz} {β:Bt} {a:Act} {w:World}
theorem Sim.Jx (h:Sim N w0 F0 M B0 σ F β a w) {σ':S} {F':Fz} {g g2 v:Nat} {o on:Own} {L:Loc} (hg:σ.go g=some (v,o)) (hfz:o.fz=false) (hL:β v=some L) (hfz2:on.fz=false)
  (hgo:∀ k u q,σ'.go k=some (u,q)->(k=g2/\u=v/\q=on)\/(k≠g2/\k≠g/\σ.go k=some (u,q))) (hon:AA F' β w L on) (henv:∀ t,Env F' β (σ'.ge t) (a.tmps.getD t undef)) {Z:Nat->Prop}
  (hZ:∀ b,Z b->∃ φ,AE F β w0.heap.size M σ w φ/\∃ i j,φ g i j b) (hF:Ag F F') (hFold:∀ b i,¬ Z b->F' b i=F b i) (hfrz:Fok F' w) (hfin:∀ b i x,F' b i=some x->b<w.heap.size)
  (hr2:Dw.Ab g=true->Dw.Ab g2=true) (hov:on.var=o.var)
  (hrich:∀ φ,AE F β w0.heap.size M σ w φ->∃ φ',AE F' β w0.heap.size M σ' w φ'):Sim N w0 F0 M B0 σ' F' β a w:=by
 have hLb:∀ b,L.b=some b->¬ Z b:=by
  intro b hb hz
  obtain⟨φ,hφ,i,j,hij⟩:=hZ b hz
  exact hφ.sep g i j b g v o L hij hg hfz hL hb
 refine h.change (row:=λb=>L.b=some b\/Z b) rfl rfl rfl (aAL _) (λ_ _ _=>rfl) ?_ hF (λb i _ hn=>hFold b i λhz=>hn (.inr hz)) hfrz hfin (Aw.refl _) h.size h.defers henv ?_ ?_ hrich
 ·rintro b (hb|hz)
  ·exact(h.sep g v o L b hg hfz hL hb).2.2.imp id And.left
  ·obtain⟨φ,hφ,i,j,hij⟩:=hZ b hz
   exact hφ.new g i j b hij
 ·intro k u q hk
  rcases hgo k u q hk with⟨rfl,rfl,rfl⟩|⟨n1,n2,hk⟩
  ·refine .inr ⟨L,hL,hfz2,hon,λb' hb'=>?_⟩
   obtain⟨s1,s2,s3⟩:=h.sep g u o L b' hg hfz hL hb'
   exact⟨λi=>by rw[hFold b' i (hLb b' hb')];exact s1 i,s2,s3.imp id (λz=>⟨z.1,z.2.imp hr2 id⟩),.inl (.inl hb')⟩
  ·refine .inl ⟨hk,?_⟩
   rintro L1 b1 hf hL1 hb1 (hb|hz)
   ·exact n2 (h.dist k g u v q o L1 L b1 hk hg hf hfz hL1 hL hb1 hb)
   ·obtain⟨φ,hφ,i,j,hij⟩:=hZ b1 hz
    exact hφ.sep g i j b1 k u q L1 hij hk hf hL1 hb1
 ·intro g1 g3 v1 v3 o1 o3 L1 L3 b' hg1 hg3 hf1 hf3 hL1 hL3 hb1 hb3 _
  rcases hgo g1 v1 o1 hg1 with⟨rfl,rfl,rfl⟩|⟨n1,n2,hk⟩
  ·rcases hgo g3 v3 o3 hg3 with⟨rfl,rfl,rfl⟩|⟨n1',n2',hk'⟩
   ·rfl
   ·exact(n2' (h.dist g3 g v3 v1 o3 o L3 L1 b' hk' hg hf3 hfz hL3 hL1 hb3 hb1)).elim
  ·rcases hgo g3 v3 o3 hg3 with⟨rfl,rfl,rfl⟩|⟨n1',n2',hk'⟩
   ·exact(n2 (h.dist g1 g v1 v3 o1 o L1 L3 b' hk hg hf1 hfz hL1 hL3 hb1 hb3)).elim
   ·exact h.dist g1 g3 v1 v3 o1 o3 L1 L3 b' hk hk' hf1 hf3 hL1 hL3 hb1 hb3
theorem ER {R:D->D->Prop} {l l':List D} (h:Each R l l') {i:Nat} {e':D} (he:l'[i]? =some e'):∃ e,l[i]? =some e/\R e e':=by
 have hlt:i<l.length:=by rw[<- h.1];exact(aAA.1 he).1
 exact⟨_,aAC hlt,h.2 i _ e' (aAC hlt) he⟩
theorem Mj (h:Sim N w0 F0 M B0 σ F β a w) {g g2 v:Nat} {o:Own} {es':List D} (hg:σ.go g=some (v,o)) (hfz:o.fz=false) (hn:(g2=g/\Ab g=true)\/(Ab g=false/\g2=4096+g)) (he:Each (Enr (Ab g)) o.es es') :
  Sim N w0 F0 M B0 ⟨σ.e.map (λp=>(p.1,ren g g2 p.2)),(g2,some (v,{ o with es:=es' }))::(g,bif aAN g g2 then some (v,{ o with es:=es' })else none)::σ.o,σ.n⟩ F β a w:=by
 obtain⟨L,hL,_,hk⟩:=h.own g v o hg
 obtain⟨e1,e2,e3,e4,e5,e6⟩:=hk hfz
 have hr2:Ab g2=true:=by
  rcases hn with⟨rfl,hr⟩|⟨_,rfl⟩
  ·exact hr
  ·simp[Ab]
 have hgo:∀ k u q,(S.mk (σ.e.map (λp=>(p.1,ren g g2 p.2))) ((g2,some (v,{ o with es:=es' }))::(g,bif aAN g g2 then some (v,{ o with es:=es' })else none)::σ.o) σ.n).go k=some (u,q)->(k=g2/\u=v/\q={ o with es:=es' })\/(k≠g2/\k≠g/\σ.go k=some (u,q)):=by
  intro k u q hk
  rw[CD]at hk
  split at hk
  ·rename_i e;cases hk;exact .inl ⟨e,rfl,rfl⟩
  ·rename_i n1
   rw[CD]at hk
   split at hk
   ·rename_i e
    subst e
    have:aAN k g2=false:=by
     cases hb:aAN k g2
     ·rfl
     ·exact absurd (aAS hb) n1
    rw[this]at hk;cases hk
   ·rename_i n2;exact .inr ⟨n1,n2,hk⟩
 have hcel:∀ (i j:Nat) e c',es'[i]? =some e->(cells e)[j]? =some c'->∃ e0 c,o.es[i]? =some e0/\(cells e0)[j]? =some c/\((c'=c/\(Ab g=true\/plain c=true))\/(c= .nils/\∃ s ty,0<s/\c'= .row s ty [])):=by
  intro i j e c' h1 h2
  obtain⟨e0,k1,k2,k3⟩:=ER he h1
  have hlt:j<(cells e0).length:=by rw[<- k2];exact(aAA.1 h2).1
  exact⟨e0,_,k1,aAC hlt,k3 j _ c' (aAC hlt) h2⟩
 refine h.Jx hg hfz hL (on:={ o with es:=es' }) hfz hgo ⟨e1,e2,by simp only[he.1];exact e3,e4,λe hm=>?_,?_⟩ (λt=>?_) (Z:=λ_=>False) (λ_ hz=>hz.elim) (Ag.refl _) (λ_ _ _=>rfl) h.frz h.fin (λ_=>hr2) rfl λφ hφ=>?_
 ·obtain⟨i,hi⟩:=aAY hm
  obtain⟨e0,k1,k2,_⟩:=ER he hi
  rw[k2];exact e5 e0 (aAF k1)
 ·cases hb:L.b with
  | none=>rw[hb]at e6;exact e6
  | some b =>
   rw[hb]at e6
   obtain⟨C,hC,hCs,hcell⟩:=e6
   refine⟨C,hC,hCs,λi j e c' h1 h2=>?_⟩
   obtain⟨e0,c,k1,k2,k3⟩:=hcel i j e c' h1 h2
   obtain⟨x,x1,x2,x3⟩:=hcell i j e0 c k1 k2
   refine⟨x,x1,x2,?_⟩
   rcases k3 with⟨rfl,_⟩|⟨_,s,ty,_,rfl⟩
   ·exact x3
   ·split
    ·exact Cel.Af (.row _ _ _ _)
    ·exact .row _ _ _ _
 ·rw[Jk (ren g g2) rfl]
  exact NQ g g2 (h.env t)
 ·let φ':Nat->Nat->Nat->Nat->Prop:=λk i j b=>(k=g2/\Ab g=true/\φ g i j b)\/(k≠g2/\k≠g/\φ k i j b)
  have hsub:∀ k i j b,φ' k i j b->∃ k',φ k' i j b:=by
   rintro k i j b (⟨_,_,hb⟩|⟨_,_,hb⟩)
   ·exact⟨g,hb⟩
   ·exact⟨k,hb⟩
  refine⟨φ',?_,?_,λk i j b hb=>?_,λk i j b hb=>?_,λk i j b hb=>?_,λk i j b g' v' o' L' hb hg' hf' hL'=>?_,?_⟩
  ·intro k u q L1 b C i j e x s ty es hr hk hf hL1 hb hC hei hj hx
   rcases hgo k u q hk with⟨rfl,rfl,rfl⟩|⟨n1,n2,hk⟩
   ·obtain⟨e0,c,k1,k2,k3⟩:=hcel i j e _ hei hj
    rcases k3 with⟨rfl,hpl⟩|⟨rfl,s',ty',hs',heq⟩
    ·have hrg:Ab g=true:=hpl.resolve_right (λh=>by cases h)
     exact(hφ.row g u o L1 b C i j e0 x s ty es hrg hg hfz hL1 hb hC k1 k2 hx).QA (Ag.refl _) (λ_ _=>rfl) (λb hb=>.inl ⟨rfl,hrg,hb⟩)
    ·cases heq
     rw[hL]at hL1;cases hL1
     rw[hb]at e6
     obtain⟨C',hC',_,hcell⟩:=e6
     rw[hC']at hC;cases hC
     obtain⟨y,y1,_,y3⟩:=hcell i j e0 _ k1 k2
     rw[y1]at hx;cases hx
     have:x= .slice none 0 0:=by
      split at y3
      ·exact Fe (β:=β) (Val.Ap y3)
      ·exact Fe (β:=β) (Val.Af y3)
     subst this
     exact .nil _ _ _ hs'
   ·exact(hφ.row k u q L1 b C i j e x s ty es hr hk hf hL1 hb hC hei hj hx).QA (Ag.refl _) (λ_ _=>rfl) (λb hb=>.inr ⟨n1,n2,hb⟩)
  ·intro k u q L1 b C i j e x nm u' n' hr hk hf hL1 hb hC hei hj hx
   rcases hgo k u q hk with⟨rfl,rfl,rfl⟩|⟨n1,n2,hk⟩
   ·obtain⟨e0,c,k1,k2,k3⟩:=hcel i j e _ hei hj
    rcases k3 with⟨rfl,hpl⟩|⟨_,_,_,_,heq⟩
    ·have hrg:Ab g=true:=hpl.resolve_right (λh=>by cases h)
     exact hφ.hole g u o L1 b C i j e0 x _ u' n' hrg hg hfz hL1 hb hC k1 k2 hx
    ·cases heq
   ·exact hφ.hole k u q L1 b C i j e x _ u' n' hr hk hf hL1 hb hC hei hj hx
  ·obtain⟨k',hb⟩:=hsub k i j b hb;exact hφ.none_ _ _ _ _ hb
  ·obtain⟨k',hb⟩:=hsub k i j b hb;exact hφ.lt _ _ _ _ hb
  ·obtain⟨k',hb⟩:=hsub k i j b hb;exact hφ.new _ _ _ _ hb
  ·obtain⟨k',hb2⟩:=hsub k i j b hb
   rcases hgo g' v' o' hg' with⟨rfl,rfl,rfl⟩|⟨_,_,hk⟩
   ·exact hφ.sep k' i j b g _ o L' hb2 hg hfz hL'
   ·exact hφ.sep k' i j b g' v' o' L' hb2 hk hf' hL'
  ·rintro k i j k' i' j' b (⟨rfl,_,h1⟩|⟨n1,n2,h1⟩) (⟨rfl,_,h2⟩|⟨m1,m2,h2⟩)
   ·exact⟨rfl,(hφ.dis _ _ _ _ _ _ _ h1 h2).2⟩
   ·exact(m2 (hφ.dis _ _ _ _ _ _ _ h2 h1).1).elim
   ·exact(n2 (hφ.dis _ _ _ _ _ _ _ h1 h2).1).elim
   ·exact hφ.dis _ _ _ _ _ _ _ h1 h2
theorem MQ (h:Sim N w0 F0 M B0 σ F β a w) {g v:Nat} {o:Own} (hg:σ.go g=some (v,o)) (hr:Ab g=false) (hfz:o.fz=false) (hvar:o.var=false) :
  Sim N w0 F0 M B0 ⟨σ.e,(g,some (v,{ o with es:=o.es.map nrm }))::σ.o,σ.n⟩ F β a w:=by
 obtain⟨L,hL,_,hk⟩:=h.own g v o hg
 obtain⟨e1,e2,e3,e4,e5,e6⟩:=hk hfz
 have hgo:∀ k u q,(S.mk σ.e ((g,some (v,{ o with es:=o.es.map nrm }))::σ.o) σ.n).go k=some (u,q)->(k=g/\u=v/\q={ o with es:=o.es.map nrm })\/(k≠g/\k≠g/\σ.go k=some (u,q)):=by
  intro k u q hk
  rw[CD]at hk
  split at hk
  ·rename_i e;cases hk;exact .inl ⟨e,rfl,rfl⟩
  ·rename_i n1;exact .inr ⟨n1,n1,hk⟩
 refine h.Jx hg hfz hL (on:={ o with es:=o.es.map nrm }) hfz hgo ⟨e1,e2,by simpa using e3,e4,λe hm=>?_,?_⟩ h.env (Z:=λ_=>False) (λ_ hz=>hz.elim) (Ag.refl _) (λ_ _ _=>rfl) h.frz h.fin id rfl λφ hφ=>⟨φ,hφ.QA (Ag.refl _) (Aw.refl _) (aAL _) (λ_ _ _ _ _ _=>rfl) (λ_ _ _ _ _=>rfl) (λk u q hk=>?_) (λk u q hrk hk hf=>.inl ?_) (λg1 i j b k u q L' hb hk hf hL'=>?_)⟩
 ·obtain⟨e0,k1,rfl⟩:=aAU.1 hm
  rw[CQ,BB,aAc]
  exact e5 e0 k1
 ·cases hb:L.b with
  | none=>rw[hb]at e6;exact e6
  | some b =>
   rw[hb]at e6
   obtain⟨C,hC,hCs,hcell⟩:=e6
   refine⟨C,hC,hCs,λi j e c' h1 h2=>?_⟩
   simp only[aAO,aAE]at h1
   obtain⟨e0,k1,rfl⟩:=h1
   rw[CQ,BB,aAO,aAE]at h2
   obtain⟨c,k2,rfl⟩:=h2
   obtain⟨x,x1,x2,x3⟩:=hcell i j e0 c k1 k2
   rw[hvar]at x3
   simp only[aAV,if_false]at x3
   refine⟨x,x1,x2,?_⟩
   simp only[hvar,aAV,if_false]
   exact x3.nrm
 ·obtain⟨L,hL,_⟩:=h.own k u q hk
  exact⟨L,hL⟩
 ·rcases hgo k u q hk with⟨rfl,_,_⟩|⟨_,_,hk⟩
  ·rw[hr]at hrk;cases hrk
  ·exact⟨q,hk,hf,rfl,rfl,λi j e c he hj _=>⟨⟨e,he,hj⟩,λL b C x _ _ hC hx=>⟨C,hC,hx⟩⟩⟩
 ·rcases hgo k u q hk with⟨rfl,rfl,rfl⟩|⟨_,_,hk⟩
  ·exact hφ.sep g1 i j b k u o L' hb hg hfz hL'
  ·exact hφ.sep g1 i j b k u q L' hb hk hf hL'
open Classical in
theorem MP (h:Sim N w0 F0 M B0 σ F β a w) {g v:Nat} {o:Own} {es':List D} (hg:σ.go g=some (v,o)) (hr:Ab g=true) (hfz:o.fz=false) (he:Each Frr o.es es') :
  ∃ F',Sim N w0 F0 M B0 ⟨σ.e,(g,some (v,{ o with es:=es' }))::σ.o,σ.n⟩ F' β a w:=by
 obtain⟨φ,hφ⟩:=h.Ab
 obtain⟨L,hL,_,hk⟩:=h.own g v o hg
 obtain⟨e1,e2,e3,e4,e5,e6⟩:=hk hfz
 let Fc:Nat->Nat->Prop:=λi j=>∃ e' es,es'[i]? =some e'/\(cells e')[j]? =some (.sl es)
 let Z:Nat->Prop:=λb=>∃ i j,Fc i j/\φ g i j b
 let F':Fz:=λb i=>if Z b then w.cell? ⟨b,i,none⟩else F b i
 have hZF:∀ b i,Z b->F' b i=w.cell? ⟨b,i,none⟩:=λb i hz=>if_pos hz
 have hFn:∀ b i,¬ Z b->F' b i=F b i:=λb i hz=>if_neg hz
 have hsub:Ag F F':=by
  intro b i x hx
  by_cases hz:Z b
  ·obtain⟨i',j',_,hb⟩:=hz
   rw[hφ.none_ g i' j' b hb i]at hx;cases hx
  ·rw[hFn b i hz];exact hx
 have hgo:∀ k u q,(S.mk σ.e ((g,some (v,{ o with es:=es' }))::σ.o) σ.n).go k=some (u,q)->(k=g/\u=v/\q={ o with es:=es' })\/(k≠g/\k≠g/\σ.go k=some (u,q)):=by
  intro k u q hk
  rw[CD]at hk
  split at hk
  ·rename_i e;cases hk;exact .inl ⟨e,rfl,rfl⟩
  ·rename_i n1;exact .inr ⟨n1,n1,hk⟩
 have hcel:∀ (i j:Nat) e c',es'[i]? =some e->(cells e)[j]? =some c'->∃ e0 c,o.es[i]? =some e0/\(cells e0)[j]? =some c/\(c'=c\/∃ s ty es,c= .row s ty es/\(∀ q∈es,AD q=true)/\c'= .sl es):=by
  intro i j e c' h1 h2
  obtain⟨e0,k1,k2,k3⟩:=ER he h1
  have hlt:j<(cells e0).length:=by rw[<- k2];exact(aAA.1 h2).1
  exact⟨e0,_,k1,aAC hlt,k3 j _ c' (aAC hlt) h2⟩
 have hfro:∀ (i j s ty:Nat) es x,Br F w (φ g i j) s ty es x->(∀ b,φ g i j b->Z b)->Fro F' (.sl es) x:=by
  intro i j s ty es x hra hz
  cases hra with
  | nil=>exact .sl0 _ _
  | row _ _ _ _ b cap C fp xf hs hc hm hl hC hCs hb hx _ _ _ _ =>
   refine .sl es b 0 cap s xf hc hl (λi' j' e d he hd=>?_) (λi' j' e d he hd=>(hx i' j' e d he hd).2.1) λi' j' e d he hd=>((hx i' j' e d he hd).2.2).mono hsub
   rw[hZF b _ (hz b hb)]
   simp[aAq,hC,(hx i' j' e d he hd).1]
 refine⟨F',?_⟩
 refine h.Jx hg hfz hL (on:={ o with es:=es' }) hfz hgo ⟨e1,e2,by simp only[he.1];exact e3,e4,λe hm=>?_,?_⟩ (λt=>(h.env t).mono hsub (Aw.refl _)) (Z:=Z) (λb ⟨i,j,_,hb⟩=>⟨φ,hφ,i,j,hb⟩) hsub hFn (λb i x hx=>?_) (λb i x hx=>?_) id rfl λ_ _=>?_
 ·obtain⟨i,hi⟩:=aAY hm
  obtain⟨e0,k1,k2,_⟩:=ER he hi
  rw[k2];exact e5 e0 (aAF k1)
 ·cases hb:L.b with
  | none=>rw[hb]at e6;exact e6
  | some b =>
   rw[hb]at e6
   obtain⟨C,hC,hCs,hcell⟩:=e6
   refine⟨C,hC,hCs,λi j e c' h1 h2=>?_⟩
   obtain⟨e0,c,k1,k2,k3⟩:=hcel i j e c' h1 h2
   obtain⟨x,x1,x2,x3⟩:=hcell i j e0 c k1 k2
   refine⟨x,x1,x2,?_⟩
   rcases k3 with rfl|⟨s,ty,es,rfl,_,rfl⟩
   ·split at x3
    ·rename_i hv;rw[if_pos hv];exact x3.mono hsub (Aw.refl _)
    ·rename_i hv;rw[if_neg hv];exact x3.mono hsub
   ·have hra:=hφ.row g v o L b C i j e0 x s ty es hr hg hfz hL hb hC k1 k2 x1
    have hf:=hfro i j s ty es x hra (λb' hb'=>⟨i,j,⟨e,es,h1,h2⟩,hb'⟩)
    split
    ·exact Cel.Af hf
    ·exact hf
 ·by_cases hz:Z b
  ·rw[hZF b i hz]at hx;exact hx
  ·rw[hFn b i hz]at hx;exact h.frz b i x hx
 ·by_cases hz:Z b
  ·obtain⟨i',j',_,hb⟩:=hz
   exact hφ.lt g i' j' b hb
  ·rw[hFn b i hz]at hx;exact h.fin b i x hx
 ·have hnZ:∀ k i j b,φ k i j b->¬ (k=g/\Fc i j)->¬ Z b:=by
   rintro k i j b hb hn ⟨i',j',hf,hb'⟩
   obtain⟨rfl,rfl,rfl⟩:=hφ.dis _ _ _ _ _ _ _ hb hb'
   exact hn ⟨rfl,hf⟩
  refine⟨λk i j b=>φ k i j b/\¬ (k=g/\Fc i j),?_,?_,λk i j b hb m=>?_,λk i j b hb=>hφ.lt k i j b hb.1,λk i j b hb=>hφ.new k i j b hb.1,λk i j b g' v' o' L' hb hg' hf' hL'=>?_,λk i j k' i' j' b h1 h2=>hφ.dis _ _ _ _ _ _ _ h1.1 h2.1⟩
  ·intro k u q L1 b C i j e x s ty es hrk hk hf hL1 hb hC hei hj hx
   rcases hgo k u q hk with⟨rfl,rfl,rfl⟩|⟨n1,_,hk⟩
   ·obtain⟨e0,c,k1,k2,k3⟩:=hcel i j e _ hei hj
    rcases k3 with rfl|⟨_,_,_,_,_,heq⟩
    ·refine(hφ.row k u o L1 b C i j e0 x s ty es hrk hg hfz hL1 hb hC k1 k2 hx).QA hsub (λ_ _=>rfl) (λb hb=>⟨hb,?_⟩)
     rintro⟨_,e'',es'',z1,z2⟩
     rw[hei]at z1;cases z1
     rw[hj]at z2;cases z2
    ·cases heq
   ·exact(hφ.row k u q L1 b C i j e x s ty es hrk hk hf hL1 hb hC hei hj hx).QA hsub (λ_ _=>rfl) (λb hb=>⟨hb,λe=>n1 e.1⟩)
  ·intro k u q L1 b C i j e x nm u' n' hrk hk hf hL1 hb hC hei hj hx
   rcases hgo k u q hk with⟨rfl,rfl,rfl⟩|⟨n1,_,hk⟩
   ·obtain⟨e0,c,k1,k2,k3⟩:=hcel i j e _ hei hj
    rcases k3 with rfl|⟨_,_,_,_,_,heq⟩
    ·exact(hφ.hole k u o L1 b C i j e0 x _ u' n' hrk hg hfz hL1 hb hC k1 k2 hx).mono hsub (Aw.refl _)
    ·cases heq
   ·exact(hφ.hole k u q L1 b C i j e x _ u' n' hrk hk hf hL1 hb hC hei hj hx).mono hsub (Aw.refl _)
  ·rw[hFn b m (hnZ k i j b hb.1 hb.2)]
   exact hφ.none_ k i j b hb.1 m
  ·rcases hgo g' v' o' hg' with⟨rfl,rfl,rfl⟩|⟨_,_,hk⟩
   ·exact hφ.sep k i j b g' v' o L' hb.1 hg hfz hL'
   ·exact hφ.sep k i j b g' v' o' L' hb.1 hk hf' hL'
theorem LG (g v:Nat) (z:D) (e:List (Nat×D)) (n:Nat):∀ (o:List (Nat×Ac)) (k:Nat),(S.mk e (o.map λp=>(p.1,frO g v z p.2)) n).go k=frO g v z ((S.mk e o n).go k):=by
 intro o k
 simp only[S.go]
 induction o with
 | nil=>simp[look,frO]
 | cons p o ih =>
  simp only[List.map_cons,look]
  split
  ·rfl
  ·exact ih
theorem Fy (g v:Nat) (z:D) (e:D):(cells (frp g v z e)).length=(cells e).length/\∀ j:Nat,(cells (frp g v z e))[j]? =((cells e)[j]?).map (frp g v z):=by
 cases e with
 | agg cs=>exact⟨by simp[frp,cells,Bq],λj=>by simp[frp,cells,Bq]⟩
 | optr k u i off =>
  simp only[frp]
  cases hb:(aAN k g&&aAN u v&&aAN i 0)with
  | false=>exact⟨rfl,λj=>by rcases j with _|j<;>simp[cells,frp,hb]⟩
  | true=>exact⟨rfl,λj=>by rcases j with _|j<;>simp[cells,frp,hb]⟩
 | _=>exact⟨rfl,λj=>by rcases j with _|j<;>simp[cells,frp]⟩
theorem NW {g v:Nat} {z d:D}:(∀ s ty es,frp g v z d= .row s ty es->d= .row s ty es)/\∀ nm u n,frp g v z d= .hole nm u n->d= .hole nm u n:=by
 cases d with
 | optr k u i off =>
  simp only[frp]
  cases hb:(aAN k g&&aAN u v&&aAN i 0)with
  | false=>exact⟨λ_ _ _ e=>(by cases e),λ_ _ _ e=>(by cases e)⟩
  | true=>exact⟨λ_ _ _ e=>(by cases e),λ_ _ _ e=>(by cases e)⟩
 | _=>exact⟨λ_ _ _ e=>(by first|exact e|cases e),λ_ _ _ e=>(by first|exact e|cases e)⟩
open Classical in
theorem Oj (h:Sim N w0 F0 M B0 σ F β a w) {g v:Nat} {o:Own} {z:D} (hg:σ.go g=some (v,o)) (hfz:o.fz=false) (hvar:o.var=true) (hz:o.es=[z]) (hc:(cells z).all QT=true) :
  ∃ F',Sim N w0 F0 M B0 ⟨σ.e.map (λp=>(p.1,frp g v z p.2)),(g,none)::σ.o.map (λp=>(p.1,frO g v z p.2)),σ.n⟩ F' β a w:=by
 obtain⟨L,hL,_,hk⟩:=h.own g v o hg
 obtain⟨e1,e2,e3,e4,e5,e6⟩:=hk hfz
 let Z:Nat->Prop:=λb=>L.b=some b
 let F':Fz:=λb i=>if Z b then w.cell? ⟨b,i,none⟩else F b i
 have hZF:∀ b i,Z b->F' b i=w.cell? ⟨b,i,none⟩:=λb i hz=>if_pos hz
 have hFn:∀ b i,¬ Z b->F' b i=F b i:=λb i hz=>if_neg hz
 have hsep:=λb hb=>h.sep g v o L b hg hfz hL hb
 have hsub:Ag F F':=by
  intro b i x hx
  by_cases hzb:Z b
  ·rw[(hsep b hzb).1 i]at hx;cases hx
  ·rw[hFn b i hzb];exact hx
 have hfr:IY F' β v z:=by
  refine⟨λL' b off hL' hb=>?_⟩
  rw[hL]at hL';cases hL'
  rw[hb]at e6
  obtain⟨C,hC,hCs,hcell⟩:=e6
  have hx:∀ (j:Nat) d,(cells z)[j]? =some d->∃ x,C[j]? =some x/\x.oneCell'=true/\Fro F d x:=by
   intro j d hd
   obtain⟨x,x1,x2,x3⟩:=hcell 0 j z d (by rw[hz];rfl) hd
   rw[if_pos hvar]at x3
   have hf:=aAR.1 hc d (aAF hd)
   refine⟨x,by simpa using x1,x2,?_⟩
   cases d<;>try first|(cases hf;done)|exact x3
   obtain⟨vs,rfl,hl,hv⟩:=x3
   refine .clo _ _ vs hl λk c v hk hkv=>?_
   have h1:=aAR.1 hf c (aAF hk)
   have h2:=hv k c v hk hkv
   cases c<;>first|(cases h1;done)|exact h2
  have:=Fro.fptr (F:=F') z b 0 off (λj=>(C[j]?).getD undef) (λj d hd=>by
    obtain⟨x,x1,_,_⟩:=hx j d hd
    rw[hZF b _ hb]
    simp[aAq,hC,x1]) (λj d hd=>by
    obtain⟨x,x1,x2,_⟩:=hx j d hd
    rw[x1];exact x2) (λj d hd=>by
    obtain⟨x,x1,_,x3⟩:=hx j d hd
    rw[x1];exact x3.mono hsub)
  simpa using this
 have hgo:∀ k u q,(S.mk (σ.e.map (λp=>(p.1,frp g v z p.2))) ((g,none)::σ.o.map (λp=>(p.1,frO g v z p.2))) σ.n).go k=some (u,q)->k≠g/\∃ q0,σ.go k=some (u,q0)/\q={ q0 with es:=bif q0.var then q0.es.map (frp g v z)else q0.es }:=by
  intro k u q hk
  rw[CD]at hk
  split at hk
  ·cases hk
  ·rename_i n1
   rw[LG]at hk
   have:(S.mk (σ.e.map (λp=>(p.1,frp g v z p.2))) σ.o σ.n).go k=σ.go k:=rfl
   rw[this]at hk
   cases hs:σ.go k with
   | none=>rw[hs]at hk;cases hk
   | some p =>
    obtain⟨u',q0⟩:=p
    rw[hs]at hk
    simp only[frO,Option.some.injEq,Prod.mk.injEq]at hk
    exact⟨n1,q0,by rw[<- hk.1],hk.2.symm⟩
 have hsame:∀ (q0:Own),q0.var=false->({ q0 with es:=bif q0.var then q0.es.map (frp g v z)else q0.es }:Own)=q0:=by
  intro q0 hv;cases q0;simp only at hv;subst hv;rfl
 have hne:∀ k u q L' b,k≠g->σ.go k=some (u,q)->q.fz=false->β u=some L'->L'.b=some b->¬ Z b:=by
  intro k u q L' b hn hk hf hL' hb hzb
  exact hn (h.dist k g u v q o L' L b hk hg hf hfz hL' hL hb hzb)
 refine⟨F',?_⟩
 refine{ nam:=h.nam,size:=h.size,defers:=h.defers,env:=λt=>?_,own:=?_,dist:=?_,sep:=?_,Ab:=?_,frz:=?_,fin:=?_,step:=?_ }
 ·rw[Jk (frp g v z) rfl]
  exact NP hfr ((h.env t).mono hsub (Aw.refl _))
 ·intro k u q hk
  obtain⟨n1,q0,hk0,rfl⟩:=hgo k u q hk
  obtain⟨L',hL',hzz,hkk⟩:=h.own k u q0 hk0
  refine⟨L',hL',λhf=>?_,λhf=>?_⟩
  ·have h1:=(hzz hf)
   rw[hsame q0 h1.var]
   exact h1.mono hsub
  ·have h1:=hkk hf
   cases hv:q0.var with
   | false=>
    have:=hsame q0 hv
    rw[hv]at this
    rw[this]
    exact h1.QA hsub (Aw.refl _) (λ_ _=>rfl)
   | true =>
    obtain⟨f1,f2,f3,f4,f5,f6⟩:=h1
    refine⟨f1,f2,by simpa using f3,by simpa[hv]using f4,λe he=>?_,?_⟩
    ·simp only[cond_true,aAU]at he
     obtain⟨e0,k1,rfl⟩:=he
     rw[(Fy g v z e0).1]
     exact f5 e0 k1
    ·cases hb:L'.b with
     | none=>rw[hb]at f6;exact⟨f6.1,by rw[hv]at f6;exact f6.2⟩
     | some b =>
      rw[hb]at f6
      obtain⟨C,hC,hCs,hcell⟩:=f6
      refine⟨C,hC,hCs,λi j e d he hd=>?_⟩
      simp only[cond_true,aAO,aAE]at he
      obtain⟨e0,k1,rfl⟩:=he
      rw[(Fy g v z e0).2,aAE]at hd
      obtain⟨d0,k2,rfl⟩:=hd
      obtain⟨x,x1,x2,x3⟩:=hcell i j e0 d0 k1 k2
      rw[if_pos hv]at x3
      exact⟨x,x1,x2,by simpa using AQ hfr (x3.mono hsub (Aw.refl _))⟩
 ·intro k k' u u' q q' L1 L2 b hk hk' hf hf' hL1 hL2 hb1 hb2
  obtain⟨n1,q0,hk0,rfl⟩:=hgo k u q hk
  obtain⟨n1',q0',hk0',rfl⟩:=hgo k' u' q' hk'
  exact h.dist k k' u u' q0 q0' L1 L2 b hk0 hk0' hf hf' hL1 hL2 hb1 hb2
 ·intro k u q L' b hk hf hL' hb
  obtain⟨n1,q0,hk0,rfl⟩:=hgo k u q hk
  obtain⟨s1,s2,s3⟩:=h.sep k u q0 L' b hk0 hf hL' hb
  exact⟨λi=>by rw[hFn b i (hne k u q0 L' b n1 hk0 hf hL' hb)];exact s1 i,s2,s3⟩
 ·obtain⟨φ,hφ⟩:=h.Ab
  have hφZ:∀ k i j b,φ k i j b->¬ Z b:=λk i j b hb hzb=>hφ.sep k i j b g v o L hb hg hfz hL hzb
  refine⟨φ,hφ.QA hsub (Aw.refl _) (aAL _) (λk i j b hb m=>hFn b m (hφZ k i j b hb)) (λ_ _ _ _ _=>rfl) (λk u q hk=>?_) (λk u q hrk hk hf=>.inl ?_) (λk i j b k' u' q' L' hb hk' hf' hL'=>?_)⟩
  ·obtain⟨L,hL,_⟩:=h.own k u q hk
   exact⟨L,hL⟩
  ·obtain⟨n1,q0,hk0,rfl⟩:=hgo k u q hk
   refine⟨q0,hk0,hf,rfl,rfl,λi j e c he hj hp=>⟨?_,λL b C x _ _ hC hx=>⟨C,hC,hx⟩⟩⟩
   cases hv:q0.var with
   | false=>simp only[hv,cond_false]at he;exact⟨e,he,hj⟩
   | true =>
    simp only[hv,cond_true,aAO,aAE]at he
    obtain⟨e0,k1,rfl⟩:=he
    rw[(Fy g v z e0).2,aAE]at hj
    obtain⟨d0,k2,k3⟩:=hj
    have hrr:=NW (g:=g) (v:=v) (z:=z) (d:=d0)
    refine⟨e0,k1,?_⟩
    cases c<;>first|(cases hp;done)|skip
    ·rw[hrr.1 _ _ _ k3]at k2;exact k2
    ·rw[hrr.2 _ _ _ k3]at k2;exact k2
  ·obtain⟨n1,q0,hk0,rfl⟩:=hgo k' u' q' hk'
   exact hφ.sep k i j b k' u' q0 L' hb hk0 hf' hL'
 ·intro b i x hx
  by_cases hzb:Z b
  ·rw[hZF b i hzb]at hx;exact hx
  ·rw[hFn b i hzb]at hx;exact h.frz b i x hx
 ·intro b i x hx
  by_cases hzb:Z b
  ·exact(hsep b hzb).2.1
  ·rw[hFn b i hzb]at hx;exact h.fin b i x hx
 ·refine⟨h.step.os,h.step.tape,h.step.output,h.step.size,h.step.block,h.step.sub.trans hsub,λb i hb hM=>?_⟩
  rw[<- h.step.old b i hb hM]
  refine hFn b i λhzb=>?_
  rcases(hsep b hzb).2.2 with h1|h1
  ·omega
  ·exact hM h1.1
theorem Sim.OV (h:Sim N w0 F0 M B0 σ F β a w) {nv t:Nat} (hnv:β nv=none) {s ty:Nat} (hs:0<s) (n:Nat):Sim N w0 F0 M B0 ⟨σ.e,(t,some (nv,⟨false,false,s,ty,[]⟩))::σ.o,n⟩ F (upB β nv ⟨none,0,s⟩) a w:=by
 have hβ:=Ba (β:=β) (nv:=nv) ⟨none,0,s⟩ hnv
 have hgo:∀ k,(S.mk σ.e ((t,some (nv,⟨false,false,s,ty,[]⟩))::σ.o) n).go k=if k=t then some (nv,⟨false,false,s,ty,[]⟩)else σ.go k:=by
  intro k
  simp only[S.go,look]
  by_cases e:k=t
  ·rw[if_pos e,if_pos e];rfl
  ·rw[if_neg e,if_neg e]
 have hok:AA F (upB β nv ⟨none,0,s⟩) w ⟨none,0,s⟩ ⟨false,false,s,ty,[]⟩:=⟨rfl,hs,by simp,by simp,λe he=>by simp at he,rfl,rfl⟩
 have hold:∀ g v o L,σ.go g=some (v,o)->upB β nv ⟨none,0,s⟩ v=some L->β v=some L:=by
  intro g v o L hg hL
  obtain⟨L0,e0,_⟩:=h.own g v o hg
  have:=hβ _ _ e0
  rw[hL]at this;cases this;exact e0
 refine h.change (row:=λ_=>False) rfl rfl rfl (aAL _) (λ_ _ _=>rfl) (λ_ hr=>hr.elim) (Ag.refl _) (λ_ _ _ _=>rfl) h.frz h.fin hβ h.size h.defers (λt'=>(h.env t').mono (Ag.refl _) hβ) ?_ ?_ ?_
 ·intro g v o hg
  rw[hgo]at hg
  split at hg
  ·cases hg
   exact .inr ⟨_,An _ _ _,rfl,hok,λb hb=>by cases hb⟩
  ·exact .inl ⟨hg,λ_ _ _ _ _=>id⟩
 ·intro g g' v v' o o' L L' b hg hg' hf hf' hL hL' hb hb' hr
  have hr:=hr.resolve_left id
  have key:∀ g v o L,(S.mk σ.e ((t,some (nv,⟨false,false,s,ty,[]⟩))::σ.o) n).go g=some (v,o)->o.fz=false->upB β nv ⟨none,0,s⟩ v=some L->L.b=some b->False:=by
   intro g v o L hg hf hL hb
   rw[hgo]at hg
   split at hg
   ·cases hg
    rw[An]at hL;cases hL;cases hb
   ·have:=(h.sep g v o L b hg hf (hold g v o L hg hL) hb).2.1
    omega
  exact(key _ _ _ _ hg hf hL hb).elim
 ·intro φ hφ
  refine⟨φ,hφ.QA (Ag.refl _) hβ (aAL _) (λ_ _ _ _ _ _=>rfl) (λ_ _ _ _ _=>rfl) (λg v o hg=>by obtain⟨L,hL,_⟩:=h.own g v o hg;exact⟨L,hL⟩) (λg1 v1 o1 hr hg1 hf=>?_) (λg1 i j b g2 v2 o2 L2 hb hg2 hf2 hL2=>?_)⟩
  ·rw[hgo]at hg1
   split at hg1
   ·cases hg1;exact .inr λe he=>by cases he
   ·exact .inl ⟨o1,hg1,hf,rfl,rfl,λi j e c he hj _=>⟨⟨e,he,hj⟩,λL1 b1 C x hL1 hb1 hC hx=>⟨C,hC,hx⟩⟩⟩
  ·rw[hgo]at hg2
   split at hg2
   ·cases hg2
    rw[An]at hL2;cases hL2
    intro e;cases e
   ·exact hφ.sep g1 i j b g2 v2 o2 L2 hb hg2 hf2 (hold _ _ _ _ hg2 hL2)
theorem Ol (h:Sim N w0 F0 M B0 σ F β a w) (hf:∀ v,σ.n<=v->β v=none) {g v i off t s ty:Nat} {o:Own} (hg:σ.go g=some (v,o)) (hr:Dw.Ab g=false) (hfz:o.fz=false) (hvar:o.var=true) (hi:i<o.es.length) (hc:(cells (o.es.getD i .top))[off]? =some .nils) (hs:0<s) (hne:g≠t) (n:Nat) :
  Sim N w0 F0 M B0 ⟨σ.e,(g,some (v,{ o with es:=o.es.set i (QG (o.es.getD i .top) off [.osl t σ.n 0 0]) }))::(t,some (σ.n,⟨false,false,s,ty,[]⟩))::σ.o,n⟩ F (upB β σ.n ⟨none,0,s⟩) a w:=by
 have h1:=h.OV (t:=t) (ty:=ty) (hf σ.n (aAL _)) hs n
 have hg1:(S.mk σ.e ((t,some (σ.n,⟨false,false,s,ty,[]⟩))::σ.o) n).go g=some (v,o):=by
  simp only[S.go,look]
  rw[if_neg hne];exact hg
 obtain⟨L,hL,_,hk⟩:=h1.own g v o hg1
 have hok:AA F (upB β σ.n ⟨none,0,s⟩) w L { o with es:=o.es.set i (QG (o.es.getD i .top) off [.osl t σ.n 0 0]) }:=by
  obtain⟨k1,k2,k3,k4,k5,k6⟩:=hk hfz
  have hcl:∀ j,(cells (QG (o.es.getD i .top) off [.osl t σ.n 0 0]))[j]? =if j=off then some (.osl t σ.n 0 0)else(cells (o.es.getD i .top))[j]?:=λj=>(BZ (aAA.1 hc).1 rfl j).2
  have hln:(cells (QG (o.es.getD i .top) off [.osl t σ.n 0 0])).length=(cells (o.es.getD i .top)).length:=(BZ (aAA.1 hc).1 rfl 0).1
  have hmem:o.es.getD i .top∈o.es:=by
   have:o.es[i]? =some (o.es.getD i .top):=by simp[hi]
   exact aAF this
  refine⟨k1,k2,by simpa using k3,k4,λe he=>?_,?_⟩
  ·rcases aAz he with he|rfl
   ·exact k5 e he
   ·rw[hln];exact k5 _ hmem
  ·cases hb:L.b with
   | none=>rw[hb]at k6;exact k6
   | some b =>
    rw[hb]at k6
    obtain⟨C,hC,hCs,hcell⟩:=k6
    refine⟨C,hC,hCs,λi' j e d he hd=>?_⟩
    by_cases e':i'=i
    ·subst e'
     rw[aBD hi]at he
     cases he
     rw[hcl]at hd
     split at hd
     ·rename_i ej
      subst ej
      cases hd
      obtain⟨x,x1,x2,x3⟩:=hcell i' j _ .nils (by simp[hi]) hc
      refine⟨x,x1,x2,?_⟩
      rw[if_pos hvar]at x3 ⊢
      have x3:Fro F .nils x:=x3
      cases x3
      exact⟨⟨none,0,s⟩,none,An _ _ _,rfl,aAL _,λ_=>rfl,λh=>absurd h (Nat.lt_irrefl 0)⟩
     ·exact hcell i' j _ d (by simp[hi]) hd
    ·rw[aAh (λe=>e' e.symm)]at he
     exact hcell i' j e d he hd
 have:=h1.wrote (c:=True) (dst:=none) (d:=.top) (x:=undef) hg1 hfz hL rfl rfl rfl (aAL _) (λ_ _ _=>rfl) hok (λe=>by rw[hr]at e;cases e) (λt e=>by cases e) (Env.top _)
 exact this
theorem ID {e d:D} {off:Nat} (h:(cells e)[off]? =some d) (h1:cells d=[d]):cells (QG e off [d])=cells e:=by
 obtain⟨k1,_⟩:=BZ (aAA.1 h).1 h1 0
 apply List.ext_getElem?
 intro j
 rw[(BZ (aAA.1 h).1 h1 j).2]
 split
 ·rename_i e;subst e;exact h.symm
 ·rfl
theorem Ml (h:Sim N w0 F0 M B0 σ F β a w) {gw vw i off g v k:Nat} {ow o:Own} (hgw:σ.go gw=some (vw,ow)) (hrw:Dw.Ab gw=false) (hfzw:ow.fz=false) (hi:i<ow.es.length) (hc:(cells (ow.es.getD i .top))[off]? =some (.osl g v 0 k))
  (hg:σ.go g=some (v,o)) (hr:Dw.Ab g=false) (hfz:o.fz=false) (hk:k<=o.es.length) (hne:gw≠g) :
  Sim N w0 F0 M B0 ⟨σ.e,(gw,some (vw,{ ow with es:=ow.es.set i (QG (ow.es.getD i .top) off [.osl g v 0 (o.es.take k).length]) }))::(g,some (v,{ o with es:=o.es.take k }))::σ.o,σ.n⟩ F β a w:=by
 obtain⟨L,hL,_,hk1⟩:=h.own g v o hg
 have hok:AA F β w L { o with es:=o.es.take k }:=AA.cut (o:=o) (es:=o.es) (hk1 hfz) k
 have h1:=h.wrote (c:=True) (dst:=none) (d:=.top) (x:=undef) hg hfz hL rfl rfl rfl (aAL _) (λ_ _ _=>rfl) hok (λe=>by rw[hr]at e;cases e) (λt e=>by cases e) (Env.top _)
 have hgw1:(σ.app ⟨True,Ad none .top,[(g,some (v,{ o with es:=o.es.take k }))]⟩).go gw=some (vw,ow):=by
  rw[S.Cu]
  simp only[look]
  rw[if_neg hne];exact hgw
 obtain⟨Lw,hLw,_,hkw⟩:=h1.own gw vw ow hgw1
 have hlen:(o.es.take k).length=k:=by simp;omega
 have hsame:∀ e∈ow.es.set i (QG (ow.es.getD i .top) off [.osl g v 0 (o.es.take k).length]),∃ e'∈ow.es,cells e=cells e':=by
  intro e he
  rcases aAz he with he|rfl
  ·exact⟨e,he,rfl⟩
  ·have hm:ow.es[i]? =some (ow.es.getD i .top):=by simp[hi]
   refine⟨_,aAF hm,?_⟩
   rw[hlen];exact ID hc rfl
 have hget:∀ (i':Nat) e,(ow.es.set i (QG (ow.es.getD i .top) off [.osl g v 0 (o.es.take k).length]))[i']? =some e->∃ e',ow.es[i']? =some e'/\cells e=cells e':=by
  intro i' e he
  by_cases e':i'=i
  ·subst e'
   rw[aBD hi]at he
   cases he
   refine⟨ow.es.getD i' .top,by simp[hi],?_⟩
   rw[hlen];exact ID hc rfl
  ·rw[aAh (λq=>e' q.symm)]at he
   exact⟨e,he,rfl⟩
 have hokw:AA F β w Lw { ow with es:=ow.es.set i (QG (ow.es.getD i .top) off [.osl g v 0 (o.es.take k).length]) }:=by
  obtain⟨k1,k2,k3,k4,k5,k6⟩:=hkw hfzw
  refine⟨k1,k2,by simpa using k3,k4,λe he=>?_,?_⟩
  ·obtain⟨e',m1,m2⟩:=hsame e he
   rw[m2];exact k5 e' m1
  ·cases hb:Lw.b with
   | none=>rw[hb]at k6;exact k6
   | some b =>
    rw[hb]at k6
    obtain⟨C,hC,hCs,hcell⟩:=k6
    refine⟨C,hC,hCs,λi' j e d he hd=>?_⟩
    obtain⟨e',m1,m2⟩:=hget i' e he
    rw[m2]at hd
    exact hcell i' j e' d m1 hd
 have:=h1.wrote (c:=True) (dst:=none) (d:=.top) (x:=undef) hgw1 hfzw hLw rfl rfl rfl (aAL _) (λ_ _ _=>rfl) hokw (λe=>by rw[hrw]at e;cases e) (λt e=>by cases e) (Env.top _)
 exact this
theorem Sim.rw {τ:S} (h:Sim N w0 F0 M B0 σ F β a w) (hf:∀ v,σ.n<=v->β v=none) (hw:Rw σ τ):∃ F' β',Sim N w0 F0 M B0 τ F' β' a w/\∀ v,τ.n<=v->β' v=none:=by
 cases hw with
 | close g v i off g' v' m og o' c hg hr hfz hi hc hh hg' hfz' hvar hm hp hne=>exact⟨F,β,MO h hg hr hfz hi hc hh hg' hfz' hvar hm hp hne,hf⟩
 | enrich g g2 v o es' hg hfz hn he=>exact⟨F,β,Mj h hg hfz hn he,hf⟩
 | frows g v o es' hg hr hfz he=>exact(MP h hg hr hfz he).imp λF' h=>⟨β,h,hf⟩
 | nilsl g v o hg hr hfz hvar=>exact⟨F,β,MQ h hg hr hfz hvar,hf⟩
 | nams rn hn=>exact⟨F,β,Ok h hn,hf⟩
 | fvar g v o z hg hfz hvar hz hc=>exact(Oj h hg hfz hvar hz hc).imp λF' h=>⟨β,h,hf⟩
 | opn g v i off t s ty es o hg hr hfz hvar hi hrow hne =>
  obtain⟨L,h'⟩:=OW h (hf σ.n (aAL _)) hg hr hfz hvar hi hrow hne (σ.n+1)
  refine⟨F,_,h',λv hv=>?_⟩
  have hv':σ.n+1<=v:=hv
  simp only[upB]
  rw[if_neg (by omega)]
  exact hf v (by omega)
 | shrink gw vw i off g v k ow o hgw hrw hfzw hvarw hi hc hg hr hfz hvar hk hne=>exact⟨F,β,Ml h hgw hrw hfzw hi hc hg hr hfz hk hne,hf⟩
 | nilv g v i off t s ty o hg hr hfz hvar hi hc hs hne =>
  refine⟨F,_,Ol h hf hg hr hfz hvar hi hc hs hne (σ.n+1),λv hv=>?_⟩
  have hv':σ.n+1<=v:=hv
  simp only[upB]
  rw[if_neg (by omega)]
  exact hf v (by omega)
 | opnr g v i off t s ty es o hg hr hfz hvar hi hrow hne =>
  obtain⟨L,h'⟩:=Od h (hf σ.n (aAL _)) hg hr hfz hi hrow hne (σ.n+1)
  refine⟨F,_,h',λv hv=>?_⟩
  have hv':σ.n+1<=v:=hv
  simp only[upB]
  rw[if_neg (by omega)]
  exact hf v (by omega)
end
section
variable {N:Nat} {w0:World} {F0:Fz} {M:Nat->Prop} {B0:Bt} {P:Program}
theorem Ll {σ:S} {d:D} (hd:((AJ d).run σ).1):cells d=[d]/\cells ((AJ d).run σ).2.1=[((AJ d).run σ).2.1]:=by
 cases d<;>first|exact hd.elim|exact⟨rfl,rfl⟩|skip
 refine⟨rfl,?_⟩
 simp only[AJ,R.run]at hd ⊢
 split<;>simp_all<;>rfl
theorem Et.get {σ:S} {ws:List (Nat×Ac)}:∀ {cs cs':List D},Et σ ws cs cs'->cs'.length=cs.length/\∀ (j:Nat) c',cs'[j]? =some c'->∃ c,cs[j]? =some c/\Dm σ ws c c'
 | [],[],_=>⟨rfl,λj c' h=>by simp at h⟩
 | c::r,c'::r',h=>by
  obtain⟨h1,h2⟩:=h
  obtain⟨l,g⟩:=Et.get h2
  refine⟨by simp[l],λj x hx=>?_⟩
  cases j with
  | zero=>simp at hx;subst hx;exact⟨c,by simp,h1⟩
  | succ j=>simp at hx;simpa using g j x hx
 | [],_::_,h=>h.elim
 | _::_,[],h=>h.elim
theorem Conv.cells {σ:S} {ws:List (Nat×Ac)} {z z':D} (h:Conv σ ws z z'):(Dw.cells z').length=(Dw.cells z).length/\∀ (j:Nat) c',(Dw.cells z')[j]? =some c'->∃ c,(Dw.cells z)[j]? =some c/\Dm σ ws c c':=by
 rcases h with(rfl|⟨h1,rfl,h3⟩)|⟨cs,cs',rfl,rfl,h⟩
 ·exact⟨rfl,λj c' hc=>⟨c',hc,.inl rfl⟩⟩
 ·obtain⟨e1,e2⟩:=Ll h1
  rw[e1,e2]
  refine⟨rfl,λj c' hc=>?_⟩
  rcases j with _|j
  ·simp at hc;subst hc;exact⟨z,by simp,.inr ⟨h1,rfl,h3⟩⟩
  ·simp at hc
 ·exact h.get
theorem Sim.DF {σ τ:S} {ws:List (Nat×Ac)} {F:Fz} {β:Bt} {a:Act} {w:World} (h:Sim N w0 F0 M B0 σ F β a w) (hw:MA ws σ τ):∃ F',Sim N w0 F0 M B0 τ F' β a w:=by
 obtain⟨F',hsub,hS,_⟩:=h.freeze hw.fz
 refine⟨F',?_⟩
 have hcel:∀ c c' v,Dm σ ws c c'->Cel F β c v->Cel F' β c' v:=by
  rintro c c' v (rfl|⟨h1,rfl,h3⟩) hv
  ·exact hv.mono hsub (Aw.refl _)
  ·exact Cel.Af ((EH h c hv h1).2 ws F' hw.fz h3 hsub hS)
 have hval:∀ d d' x,Conv σ ws d d'->Env F β d x->Env F' β d' x:=by
  rintro d d' x ((rfl|⟨h1,rfl,h3⟩)|⟨cs,cs',rfl,rfl,hc⟩) hv
  ·exact hv.mono hsub (Aw.refl _)
  ·have hc:Cel F β d x:=by cases d<;>first|exact h1.elim|exact hv
   exact Env.Af ((EH h d hc h1).2 ws F' hw.fz h3 hsub hS)
  ·obtain⟨vs,rfl,hl,h1,hc1⟩:=hv
   obtain⟨l,g⟩:=hc.get
   refine⟨vs,rfl,by rw[l,hl],h1,λj c' v hc' hv'=>?_⟩
   obtain⟨c,k1,k2⟩:=g j c' hc'
   exact hcel c c' v k2 (hc1 j c v k1 hv')
 have hgo:∀ g v o,τ.go g=some (v,o)->(S.mk σ.e (ws++σ.o) σ.n).go g=some (v,o)\/∃ o' z z',(S.mk σ.e (ws++σ.o) σ.n).go g=some (v,o')/\o'.var=true/\o'.es=[z]/\o={ o' with es:=[z'] }/\Conv σ ws z z':=by
  intro g v o hg
  simp only[S.go]at hg
  cases hl:look τ.o g with
  | none=>rw[hl]at hg;cases hg
  | some y =>
   rw[hl]at hg
   simp only[aAB]at hg
   subst hg
   rcases hw.o _ (Bl hl)with h1|⟨v',o',z,z',h1,h2,h3,h4,h5⟩
   ·exact .inl h1
   ·simp only[Option.some.injEq,Prod.mk.injEq]at h4
    obtain⟨rfl,rfl⟩:=h4
    exact .inr ⟨o',z,z',h1,h2,h3,rfl,h5⟩
 have hgo':∀ g v o,τ.go g=some (v,o)->∃ o',(S.mk σ.e (ws++σ.o) σ.n).go g=some (v,o')/\o'.fz=o.fz/\o'.var=o.var:=by
  intro g v o hg
  rcases hgo g v o hg with h1|⟨o',z,z',h1,h2,h3,rfl,h5⟩
  ·exact⟨o,h1,rfl,rfl⟩
  ·exact⟨o',h1,rfl,rfl⟩
 refine{ nam:=hS.nam,size:=hS.size,defers:=hS.defers,env:=λt=>?_,own:=λg v o hg=>?_,dist:=λg g' v v' o o' L L' b hg hg' hf hf'=>?_,sep:=λg v o L b hg hf=>?_,Ab:=?_,frz:=hS.frz,fin:=hS.fin,step:=hS.step }
 ·simp only[S.ge]
  cases hl:look τ.e t with
  | none=>exact Env.top _
  | some d =>
   simp only[aAB]
   exact hval _ _ _ (hw.e _ (Bl hl)) (h.env t)
 ·rcases hgo g v o hg with h1|⟨o',z,z',h1,h2,h3,rfl,h5⟩
  ·exact hS.own g v o h1
  ·rcases hw.fz.go g with⟨v2,o2,k1,k2,_,k4⟩|⟨_,k2⟩
   ·rw[k4]at h1
    cases h1
    simp only at h2
    rw[k2]at h2;cases h2
   ·rw[k2]at h1
    obtain⟨L,hL,hz,hk⟩:=h.own g v o' h1
    refine⟨L,hL,λhfz=>?_,λhfz=>?_⟩
    ·have:=(hz hfz).var
     rw[h2]at this;cases this
    ·obtain⟨e1,e2,e3,e4,e5,e6⟩:=hk hfz
     obtain⟨l,gg⟩:=h5.cells
     refine⟨e1,e2,by simpa[h3]using e3,e4,λe he=>?_,?_⟩
     ·simp only[aAQ]at he
      subst he
      rw[l];exact e5 z (by rw[h3];simp)
     ·cases hb:L.b with
      | none=>rw[hb]at e6;exact e6
      | some b =>
       rw[hb]at e6
       obtain⟨C,hC,hs,hx⟩:=e6
       refine⟨C,hC,hs,λi j e d he hd=>?_⟩
       rcases i with _|i
       ·simp only[aAD,Option.some.injEq]at he
        subst he
        obtain⟨c,q1,q2⟩:=gg j d hd
        obtain⟨x,x1,x2,x3⟩:=hx 0 j z c (by rw[h3];rfl) q1
        refine⟨x,x1,x2,?_⟩
        rw[if_pos h2]at x3
        simp only[h2,if_true]
        exact hcel c d x q2 x3
       ·simp at he
 ·obtain⟨o1,q1,q2,q3⟩:=hgo' g v o hg
  obtain⟨o2,r1,r2,r3⟩:=hgo' g' v' o' hg'
  exact hS.dist g g' v v' o1 o2 L L' b q1 r1 (q2.trans hf) (r2.trans hf')
 ·obtain⟨o1,q1,q2,q3⟩:=hgo' g v o hg
  have:=hS.sep g v o1 L b q1 (q2.trans hf)
  exact this
 ·obtain⟨φ,hφ⟩:=hS.Ab
  refine⟨φ,hφ.QA (Ag.refl _) (Aw.refl _) (aAL _) (λ_ _ _ _ _ _=>rfl) (λ_ _ _ _ _=>rfl) (λg v o hg=>?_) (λg v o hr hg hf=>.inl ?_) (λg i j b g' v' o' L' hb hg hf hL=>?_)⟩
  ·obtain⟨L,hL,_⟩:=hS.own g v o hg
   exact⟨L,hL⟩
  ·rcases hgo g v o hg with h1|⟨o',z,z',h1,h2,h3,rfl,h5⟩
   ·exact⟨o,h1,hf,rfl,rfl,λi j e c he hj _=>⟨⟨e,he,hj⟩,λL b C x _ _ hC hx=>⟨C,hC,hx⟩⟩⟩
   ·refine⟨o',h1,hf,rfl,rfl,λi j e c he hj hp=>⟨⟨z,?_⟩,λL b C x _ _ hC hx=>⟨C,hC,hx⟩⟩⟩
    rcases i with _|i
    ·simp only[aAD,Option.some.injEq]at he
     subst he
     obtain⟨_,gg⟩:=h5.cells
     obtain⟨c0,q1,q2⟩:=gg j c hj
     refine⟨by rw[h3];rfl,?_⟩
     rcases q2 with rfl|⟨k1,k2,_⟩
     ·exact q1
     ·have hrr:=Hb (σ:=σ) k1
      cases c<;>first|(cases hp;done)|skip
      ·have:=hrr.1 _ _ _ k2;subst this;exact q1
      ·have:=hrr.2 _ _ _ k2;subst this;exact q1
    ·simp at he
  ·obtain⟨o1,q1,q2,_⟩:=hgo' g' v' o' hg
   exact hφ.sep g i j b g' v' o1 L' hb q1 (q2.trans hf) hL
theorem Sim.chg {σ τ:S} {F:Fz} {β:Bt} {a:Act} {w:World} (h:Sim N w0 F0 M B0 σ F β a w) (hf:∀ v,σ.n<=v->β v=none) (hw:Chg σ τ):∃ F' β',Sim N w0 F0 M B0 τ F' β' a w/\∀ v,τ.n<=v->β' v=none:=by
 induction hw generalizing F β with
 | refl=>exact⟨F,β,h,hf⟩
 | DF ws hw _ ih =>
  obtain⟨F',h'⟩:=h.DF hw
  exact ih h' λv hv=>hf v (aAn hw.n hv)
 | rw hw _ ih =>
  obtain⟨F',β',h',hf'⟩:=h.rw hf hw
  exact ih h' hf'
theorem Cp.Da {w1:World} {F1:Fz} {M1:Nat->Prop} {B1:Bt} {σ τ:S} {F':Fz} {β':Bt} {a:Act} {w:World} (h:Cp w0 M w1 F1 M1 B1 σ w) (hS:Sim N w1 F1 M1 B1 τ F' β' a w) (hgo:∀ g v o,τ.go g=some (v,o)->o.fz=true->σ.go g=some (v,o)):Cp w0 M w1 F1 M1 B1 τ w :=
 h.sub λg v o hg h0=>hgo g v o hg (by
  cases hf:o.fz with
  | true=>rfl
  | false=>exact(hS.HA hg hf h0).elim)
theorem Bk {σ:S} {e:List (Nat×D)} {n k:Nat} {x:Ac} {o':List (Nat×Ac)} (hx:∀ u q,x=some (u,q)->q.fz=true->σ.go k=some (u,q)) (hr:∀ g u q,(S.mk e o' n).go g=some (u,q)->q.fz=true->σ.go g=some (u,q)) :
  ∀ g u q,(S.mk e ((k,x)::o') n).go g=some (u,q)->q.fz=true->σ.go g=some (u,q):=by
 intro g u q hg hq
 simp only[S.go,look]at hg
 split at hg
 ·rename_i e;subst e
  simp only[aAB]at hg
  exact hx u q hg hq
 ·exact hr g u q hg hq
theorem Cd {v:Nat} {o:Own} {σ:S} {k:Nat} (h:o.fz=false):∀ u q,some (v,o)=some (u,q)->q.fz=true->σ.go k=some (u,q):=λu q e hq=>by cases e;rw[h]at hq;cases hq
theorem GV {σ:S} {k:Nat}:∀ u q,(none:Ac)=some (u,q)->q.fz=true->σ.go k=some (u,q):=λ_ _ e=>by cases e
theorem CS {σ:S} {e:List (Nat×D)} {n:Nat}:∀ g u q,(S.mk e σ.o n).go g=some (u,q)->q.fz=true->σ.go g=some (u,q):=λ_ _ _ h _=>h
theorem Az.rw {σ τ:S} {F:Fz} {β:Bt} {a:Act} {w:World} (h:Az N w0 F0 M B0 σ F β a w) (hf:∀ v,σ.n<=v->β v=none) (hw:Rw σ τ):∃ F' β',Az N w0 F0 M B0 τ F' β' a w/\∀ v,τ.n<=v->β' v=none:=by
 obtain⟨w1,F1,M1,B1,hb,hS,hm⟩:=h
 obtain⟨F',β',hS',hf'⟩:=hS.rw hf hw
 refine⟨F',β',⟨w1,F1,M1,B1,hb,hS',?_⟩,hf'⟩
 cases hw with
 | close g v i off g' v' m og o' c hg hr hfz hi hc hh hg' hfz' hvar hmm hp hne=>exact hm.Da hS' (Bk (Cd hfz) (Bk GV CS))
 | enrich g g2 v o es' hg hfz hn he =>
  refine hm.Da hS' (Bk (Cd hfz) (Bk ?_ CS))
  cases aAN g g2
  ·exact GV
  ·exact Cd hfz
 | frows g v o es' hg hr hfz he=>exact hm.Da hS' (Bk (Cd hfz) CS)
 | nilsl g v o hg hr hfz hvar=>exact hm.Da hS' (Bk (Cd hfz) CS)
 | fvar g v o z hg hfz hvar hz hc =>
  refine hm.Da hS' (Bk GV λk u q hk hq=>?_)
  rw[LG]at hk
  cases hx:σ.go k with
  | none =>
   have:(S.mk (σ.e.map λp=>(p.1,frp g v z p.2)) σ.o σ.n).go k=none:=hx
   rw[this]at hk;cases hk
  | some p =>
   obtain⟨u0,q0⟩:=p
   have:(S.mk (σ.e.map λp=>(p.1,frp g v z p.2)) σ.o σ.n).go k=some (u0,q0):=hx
   rw[this]at hk
   cases hk
   obtain⟨L,_,hz',_⟩:=hS.own k _ q0 hx
   have:=(hz' hq).var
   cases q0
   simp only at this
   subst this
   rfl
 | nams rn hn =>
  constructor
  ·intro k u q hk hq
   obtain⟨g,o,_,_,hgo,rfl⟩:=Ci hn hk
   obtain⟨r1,b,r2,r3,r6⟩:=hm.at_ g u o hgo hq
   obtain⟨L,_,hz,_⟩:=hS.own g u o hgo
   have hv:=(hz r1).var
   exact⟨r1,b,r2,r3,by rw[hv];exact r6⟩
  ·intro k k' u u' q q' c1 c2 b b' bb hk hk' hq hq' e1 e2 z1 z2
   obtain⟨g,o,_,rfl,hgo,rfl⟩:=Ci hn hk
   obtain⟨g',o',_,rfl,hgo',rfl⟩:=Ci hn hk'
   rw[hm.dis g g' u u' o o' _ _ b b' bb hgo hgo' hq hq' e1 e2 z1 z2]
 | opn g v i off t s ty es o hg hr hfz hvar hi hrow hne=>exact hm.Da hS' (Bk (Cd rfl) (Bk (Cd hfz) CS))
 | shrink gw vw i off g v k ow o hgw hrw hfzw hvarw hi hc hg hr hfz hvar hk hne=>exact hm.Da hS' (Bk (Cd hfzw) (Bk (Cd hfz) CS))
 | nilv g v i off t s ty o hg hr hfz hvar hi hc hs hne=>exact hm.Da hS' (Bk (Cd hfz) (Bk (Cd rfl) CS))
 | opnr g v i off t s ty es o hg hr hfz hvar hi hrow hne=>exact hm.Da hS' (Bk (Cd rfl) (Bk (Cd hfz) CS))
theorem Az.DF {σ τ:S} {ws:List (Nat×Ac)} {F:Fz} {β:Bt} {a:Act} {w:World} (h:Az N w0 F0 M B0 σ F β a w) (hw:MA ws σ τ):∃ F',Az N w0 F0 M B0 τ F' β a w:=by
 obtain⟨w1,F1,M1,B1,hb,hS,hm⟩:=h
 obtain⟨F',hS'⟩:=hS.DF hw
 refine⟨F',w1,F1,M1,B1,hb,hS',hm.sub λg v o hg h0=>?_⟩
 have hfz:o.fz=true:=by
  cases hf:o.fz with
  | true=>rfl
  | false=>exact(hS'.HA hg hf h0).elim
 have hl:look τ.o g=some (some (v,o)):=by
  unfold S.go at hg
  cases hx:look τ.o g with
  | none=>rw[hx]at hg;cases hg
  | some x=>rw[hx]at hg;simp only[aAB]at hg;rw[hg]
 have hz:=hw.o _ (Bl hl)
 simp only at hz
 have key:∀ q,σ.gof ws g=some (v,q)->q.s=0->q.fz=true->σ.go g=some (v,q):=by
  intro q hq hs hqf
  rcases hw.fz.go g with⟨v2,o2,k1,k2,_,k4⟩|⟨_,k2⟩
  ·have:σ.gof ws g=some (v2,{ o2 with fz:=true }):=k4
   rw[this]at hq
   cases hq
   have:=(hm.at_ g _ o2 k1 hs).1
   rw[k1]
   cases o2
   simp only at this
   subst this
   rfl
  ·have:σ.gof ws g=σ.go g:=k2
   rw[<- this];exact hq
 rcases hz with hz|⟨v',q,z,z',h1,h2,h3,h4,_⟩
 ·exact key o hz h0 hfz
 ·cases h4
  have:=key q h1 h0 hfz
  obtain⟨L,_,hz,_⟩:=hS.own g _ q this
  have hv:=(hz hfz).var
  rw[h2]at hv;cases hv
theorem Az.chg {σ τ:S} {F:Fz} {β:Bt} {a:Act} {w:World} (h:Az N w0 F0 M B0 σ F β a w) (hf:∀ v,σ.n<=v->β v=none) (hw:Chg σ τ):∃ F' β',Az N w0 F0 M B0 τ F' β' a w/\∀ v,τ.n<=v->β' v=none:=by
 induction hw generalizing F β with
 | refl=>exact⟨F,β,h,hf⟩
 | DF ws hw _ ih =>
  obtain⟨F',h'⟩:=h.DF hw
  exact ih h' λv hv=>hf v (aAn hw.n hv)
 | rw hw _ ih =>
  obtain⟨F',β',h',hf'⟩:=h.rw hf hw
  exact ih h' hf'
theorem Xu {P:Program} {e u:TypeId} (h:KP P e=some u):∃ i z,P.info? e=some i/\i.zero=some z/\z.cells= #[.pointer none,.slice none 0 0]:=by
 unfold KP at h
 simp only[aAG,aA]at h
 obtain⟨i,hi,z,hz,h⟩:=h
 refine⟨i,z,hi,hz,?_⟩
 split at h
 ·rename_i hc
  apply Array.ext'
  exact hc
 ·cases h
theorem Mc {σ:S} {F:Fz} {β:Bt} {a:Act} {w:World} (h:Az N w0 F0 M B0 σ F β a w) (hf:∀ v,σ.n<=v->β v=none) {ops:Array Oper} {i:Nat} {o:Oper} {o':As} (hop:Cm P N ops false i o=some o')
  {KS:S->Prop} (hx:Lj o' σ KS) (K:Act->World->Prop) (Q:Exit->Act->World->Prop)
  (hK:∀ a' w' F' β' τ,Az N w0 F0 M B0 τ F' β' a' w'->(∀ v,τ.n<=v->β' v=none)->KS τ->K a' w') :
  if Region.wanted o (yielded ops a.tmps)then o.wp P a w K Q else K (a.put o.dst undef) w:=by
 obtain⟨hgd,t,hdt,ty,es,hm,hk⟩:=hx
 unfold Cm at hop
 simp only[aA]at hop
 obtain⟨dop,hdop,g,hg,he⟩:=hop
 split at he
 ·rename_i hcond
  simp only[aAT]at hcond
  obtain⟨hdst,_⟩:=hcond
  cases he
  simp only at hm hgd hdt
  have hwant:Region.wanted o (yielded ops a.tmps)=true:=by
   cases hgd':o.guard with
   | none=>simp[Region.wanted,hgd']
   | some p =>
    exfalso
    obtain⟨j,want⟩:=p
    rw[hgd']at hg
    simp only[Fw,aA]at hg
    obtain⟨oj,hoj,t',ht',hg⟩:=hg
    cases hg
    cases hgd
  rw[if_pos hwant]
  cases ho:o.op with
  | makeMap mt mr =>
   cases mr with
   | some _=>rw[ho]at hdop;cases hdop;exact hm.elim
   | none =>
    rw[ho]at hdop
    simp only[cOp,aAG,aA]at hdop
    obtain⟨_,_,he⟩:=hdop;cases he
    obtain⟨rfl,rfl⟩:=hm
    obtain⟨β',hS,hfr⟩:=h.Hz hf (DX hdst t hdt) (ob:=.map #[] 0) (x:=.map (some w.heap.size)) (aAm _) (.inl ⟨rfl,rfl⟩) (λw' hw'=>.inl ⟨rfl,#[],0,hw',show CN [] []from trivial⟩) λ_ _ _ _ _ e=>by cases e
    have hrun:(execOp a.eval o).run P w= .ok (.value (.map (some w.heap.size))) (w.alloc (.map #[] 0)):=by
     unfold execOp;rw[ho]
     have:(Instr.makeMap mt none).run P w= .ok (.map (some w.heap.size)) (w.alloc (.map #[] 0)):=rfl
     simp[this]
    unfold Oper.wp
    rw[hrun]
    simp only[Oper.upon]
    rw[hdt]
    exact hK _ _ _ β' _ hS hfr hk
  | alloc e =>
   rw[ho]at hdop
   simp only[cOp]at hdop
   split at hdop
   ·rename_i u hu
    cases hdop
    obtain⟨rfl,rfl⟩:=hm
    obtain⟨inf,z,hi,hz,hc⟩:=Xu hu
    obtain⟨β',hS,hfr⟩:=h.Hz hf (DX hdst t hdt) (ob:=.cells z.cells e) (x:=.pointer (some ⟨w.heap.size,0,none⟩)) (aAL 2) (.inr ⟨by omega,rfl⟩)
     (λw' hw'=>.inr (.inr ⟨rfl,[],e,u,rfl,.inl ⟨aAm _,.slice none 0 0,by rw[hw',hc],⟨rfl,.inl ⟨rfl,rfl⟩⟩,by intro e;cases e⟩⟩)) (λp n c T q e=>by rw[hc]at e;cases e)
    have hrun:(execOp a.eval o).run P w= .ok (.value (.pointer (some ⟨w.heap.size,0,none⟩))) (w.alloc (.cells z.cells e)):=by
     unfold execOp;rw[ho]
     simp[Instr.alloc,zeroValue,typeInfo,hi,hz,newVar,newRow]
    unfold Oper.wp
    rw[hrun]
    simp only[Oper.upon]
    rw[hdt]
    exact hK _ _ _ β' _ hS hfr hk
   ·simp only[aAG,aA]at hdop
    obtain⟨_,_,he⟩:=hdop
    split at he
    ·cases he;exact hm.elim
    ·cases he
  | box e x =>
   rw[ho]at hdop
   simp only[cOp]at hdop
   split at hdop
   ·rename_i u hu
    simp only[aAG,aA]at hdop
    obtain⟨ax,hax,he⟩:=hdop;cases he
    obtain⟨hr,rfl,rfl⟩:=hm
    have hv:=Au h.sim hax (by rw[hr])
    rw[hr]at hv
    obtain⟨vs,hxv,hl,_,hc⟩:=hv
    have hvs:vs=[.pointer none,.slice none 0 0]:=by
     match vs,hl with
     | [p,q],_ =>
      have h0:=hc 0 _ _ rfl rfl
      have h1:=hc 1 _ _ rfl rfl
      cases h0;cases h1;rfl
    subst hvs
    obtain⟨β',hS,hfr⟩:=h.Hz hf (DX hdst t hdt) (ob:=.cells #[.pointer none,.slice none 0 0] e) (x:=.pointer (some ⟨w.heap.size,0,none⟩)) (aAL 2) (.inr ⟨by omega,rfl⟩)
     (λw' hw'=>.inr (.inr ⟨rfl,[],e,u,rfl,.inl ⟨aAm _,.slice none 0 0,by rw[hw'],⟨rfl,.inl ⟨rfl,rfl⟩⟩,by intro e;cases e⟩⟩)) (λp n c T q e=>by cases e)
    have hrun:(execOp a.eval o).run P w= .ok (.value (.pointer (some ⟨w.heap.size,0,none⟩))) (w.alloc (.cells #[.pointer none,.slice none 0 0] e)):=by
     unfold execOp;rw[ho]
     simp[hxv,Instr.box,newVar,newRow,Value.cells]
    unfold Oper.wp
    rw[hrun]
    simp only[Oper.upon]
    rw[hdt]
    exact hK _ _ _ β' _ hS hfr hk
   ·simp only[aAG,aA]at hdop
    split at hdop
    ·simp only[aA]at hdop
     obtain⟨_,_,he⟩:=hdop
     cases he;exact hm.elim
    ·cases hdop
  | range rt rx =>
   rw[ho]at hdop
   simp only[cOp]at hdop
   split at hdop
   ·rename_i hu
    simp only[aAG,aA]at hdop
    obtain⟨ax,hax,he⟩:=hdop;cases he
    obtain⟨l,hl,rfl,rfl⟩:=hm
    have hx1:=Au h.sim hax (by rw[hl])
    rw[hl]at hx1
    have hx2:a.eval rx= .string ⟨l.toArray⟩:=Cj hx1
    obtain⟨β',hS,hfr⟩:=h.Hz hf (DX hdst t hdt) (ob:=.stringIter ⟨l.toArray⟩ 0) (x:=.pointer (some ⟨w.heap.size,0,none⟩)) (by omega) (.inr ⟨by omega,rfl⟩) (λw' hw'=>.inr (.inl ⟨rfl,l,0,hw',rfl⟩)) λ_ _ _ _ _ e=>by cases e
    have hrun:(execOp a.eval o).run P w= .ok (.value (.pointer (some ⟨w.heap.size,0,none⟩))) (w.alloc (.stringIter ⟨l.toArray⟩ 0)):=by
     unfold execOp;rw[ho]
     have:(newObj (.stringIter ⟨l.toArray⟩ 0)).run P w= .ok w.heap.size (w.alloc (.stringIter ⟨l.toArray⟩ 0)):=rfl
     simp[Instr.range,hx2,run_underlying hu,Result.andThen]
    unfold Oper.wp
    rw[hrun]
    simp only[Oper.upon]
    rw[hdt]
    exact hK _ _ _ β' _ hS hfr hk
   ·cases hdop;exact hm.elim
  | lookup _ _ _ b =>
   exfalso
   rw[ho]at hdop
   cases b<;>simp only[cOp,aAG,aA]at hdop
   ·obtain⟨_,_,_,_,_,_,he⟩:=hdop;cases he;exact hm
   ·cases hdop;exact hm
  | mapUpdate _ _ _ _ =>
   exfalso
   rw[ho]at hdop
   simp only[cOp,aAG,aA]at hdop
   obtain⟨_,_,_,_,_,_,_,_,he⟩:=hdop;cases he;exact hm
  | next _ b =>
   exfalso
   rw[ho]at hdop
   cases b<;>simp only[cOp,aAG,aA]at hdop
   ·cases hdop;exact hm
   ·obtain⟨_,_,he⟩:=hdop;cases he;exact hm
  | call c =>
   exfalso
   rw[ho]at hdop
   simp only[cOp,Ho]at hdop
   revert hdop
   (repeat' split)<;>simp[aA]<;>intros<;>(try subst_vars)<;>(try rintro rfl)<;>exact hm
  | _ =>
   exfalso
   have hno:Dt dop=false:=IB hdop (by rw[ho];exact λ_ _ e=>by cases e) (by rw[ho];exact λ_ _ _ _ e=>by cases e) (by rw[ho];exact λ_ _ _ _ e=>by cases e) (by rw[ho];exact λ_ e=>by cases e) (by rw[ho];exact λ_ _ e=>by cases e) (by rw[ho];exact λ_ _ e=>by cases e) (by rw[ho];exact λ_ e=>by cases e) (by rw[ho];exact λ_ _ e=>by cases e)
   cases dop<;>first|exact hm|cases hno
 ·cases he
def QR (N:Nat) (w0:World) (F0:Fz) (M:Nat->Prop) (B0:Bt) (Q:Ax->S->Prop):Exit->Act->World->Prop:=λe a w =>
 ∃ τ F β,Az N w0 F0 M B0 τ F β a w/\(∀ v,τ.n<=v->β v=none)/\match e with
  | .normal=>Q .normal τ
  | .exit id=>Q (.exit id) τ
  | .ret=>Q .ret τ
  | _=>False
theorem LC {type:TypeId} {op:Op} {fa:Arg} {args:List Arg} (h:cOp P type op=some (.call fa args)) :
  ∃ cf cas cts,op= .call { callee:=.value cf,args:=cas,argTypes:=cts }/\Ak cf=some fa/\CX cas.toList=some args:=by
 by_cases hop:∃ c,op= .call c
 ·obtain⟨c,rfl⟩:=hop
  simp only[cOp,Ho]at h
  split at h
  ·rename_i f h1
   simp only[aAG,aA]at h
   obtain⟨x,hx,y,hy,he⟩:=h
   cases he
   cases c with
   | mk callee cargs argTypes =>
    simp only at h1
    subst h1
    exact⟨f,cargs,argTypes,rfl,hx,hy⟩
  ·exfalso;revert h;split<;>simp[aA]
  ·exfalso;revert h;split<;>simp[aA]
  ·exfalso;revert h;split<;>simp[aA]
  ·exfalso;revert h;(repeat' split)<;>simp[aA]
  ·exfalso;revert h;simp[aA]
  ·exfalso;revert h;simp[aA]
  ·cases h
 ·exfalso
  unfold cOp at h
  split at h
  all_goals first
   | (exact hop ⟨_,rfl⟩)
   | (revert h;simp[aA];done)
   | (revert h;(repeat' split)<;>simp[aA];done)
   | (revert h;unfold KQ KT;(repeat' split)<;>simp[aA];done)
   | (simp only[aAG,aA]at h;obtain⟨z,_,h⟩:=h;revert h;(repeat' split)<;>simp[aA];done)
   | (split at h<;>first|(simp only[aAG,aA]at h;obtain⟨z,_,h⟩:=h;revert h;(repeat' split)<;>simp[aA];done)|(cases h;done))
theorem JR {Γ:Ar} (hΓ:∀ k sp,Γ k=some sp->Bv P F0 (k % 4096) sp) {σ:S} {F:Fz} {β:Bt} {a:Act} {w:World} (h:Az N w0 F0 M B0 σ F β a w) (hf:∀ v,σ.n<=v->β v=none) {ops:Array Oper} {i:Nat} {o:Oper} {o':As} (hop:Cm P N ops false i o=some o')
  {KS:S->Prop} (hx:HU Γ o' σ KS) (K:Act->World->Prop) (Q:Exit->Act->World->Prop)
  (hK:∀ a' w' F' β' τ,Az N w0 F0 M B0 τ F' β' a' w'->(∀ v,τ.n<=v->β' v=none)->KS τ->K a' w') :
  if Region.wanted o (yielded ops a.tmps)then o.wp P a w K Q else K (a.put o.dst undef) w:=by
 obtain⟨hon,fa,args,f,caps,sp,φ,K0,hK0,hcall,hclo,hblt,hG,hopn,hall,hφ⟩:=hx
 unfold Cm at hop
 simp only[aA]at hop
 obtain⟨dop,hdop,g,hg,he⟩:=hop
 split at he
 ·rename_i hcond
  simp only[aAT]at hcond
  obtain⟨hdst,_⟩:=hcond
  cases he
  simp only at hcall hφ hon
  subst hcall
  have hwant:Region.wanted o (yielded ops a.tmps)=true:=by
   cases hgd:o.guard with
   | none=>simp[Region.wanted,hgd]
   | some p =>
    obtain⟨j,want⟩:=p
    rw[hgd]at hg
    simp only[Fw,aA]at hg
    obtain⟨oj,hoj,t,ht,hg⟩:=hg
    cases hg
    obtain⟨h1,h2⟩:=hon
    have hy:yielded ops a.tmps j=match a.tmps[t]? with|some (.bool b)=>some b|_=>none:=by
     simp only[yielded,hoj,Option.bind_some,ht]
     rcases a.tmps[t]? with _|v
     ·rfl
     ·cases v<;>rfl
    have hget:∀ b:Bool,a.tmps.getD t undef= .bool b->a.tmps[t]? =some (.bool b):=by
     intro b hb
     rw[aAb]at hb
     cases hh:a.tmps[t]? with
     | none=>rw[hh]at hb;cases hb
     | some v=>rw[hh]at hb;simp only[aAB]at hb;rw[hb]
    have henv:=h.sim.env t
    generalize σ.ge t=gd at *
    have fin:∀ b:Bool,a.tmps.getD t undef= .bool b->(b==want)=true->Region.wanted o (yielded ops a.tmps)=true:=by
     intro b hb hbw
     simp only[Region.wanted,hgd,hy,hget b hb]
     simpa using hbw
    cases gd with
    | bool b=>exact fin b (BQ (β:=β) (F:=F) henv) h2
    | when p d =>
     cases d with
     | bool b =>
      simp only[guardOf,aAT]at h2
      exact fin b (BQ (β:=β) (F:=F) (henv.1 h2.1)) h2.2
     | _=>exact h1.elim
    | _=>exact h1.elim
  rw[if_pos hwant]
  obtain⟨cf,cas,cts,hoo,hfa,hys⟩:=LC hdop
  have hfe:=CI h.sim hfa
  rw[hclo]at hfe
  obtain⟨vs,hvs,hvl,hvr⟩:=hfe
  rw[Hv hblt]at hvs
  obtain⟨l,r⟩:=DU h.sim hys
  have hsp:=hΓ _ sp hG
  have hkm:(f+4096*AN ((AL args).run σ)) % 4096=f:=by
   have:f<4096:=by simpa[Nat.blt_eq]using hblt
   omega
  rw[hkm]at hsp
  obtain⟨fn,hfn,hnm,hbd⟩:=hsp.1
  have hrun:(execOp a.eval o).run P w= .ok (.enter f (cas.toList.map a.eval++vs).toArray) w:=by
   unfold execOp
   simp only[hoo]
   have e1:(cas.map a.eval++vs.toArray)=(cas.toList.map a.eval++vs).toArray:=by
    apply Array.ext'
    simp
   have hnm':¬ fn.name = "runtime.NumGoroutine":=by simpa using hnm
   have hbd':¬ fn.body=none:=by intro e;rw[e]at hbd;cases hbd
   rw[<- e1]
   simp[resolve,Deferred.ofValue,hvs,invoke,callFunc,hfn,hnm',hbd']
  have hvals:∀ (q:Nat) d x,((AL args).run σ++caps)[q]? =some d->(cas.toList.map a.eval++vs)[q]? =some x->Val F β d x:=by
   intro q d x hq hx
   by_cases hlt:q<cas.toList.length
   ·rw[aAH (by rw[l];exact hlt)]at hq
    rw[aAH (by simpa using hlt)]at hx
    have henv:=r q d x hq hx
    have hnw:=aAR.1 hall d (aAF hq)
    cases d<;>first|exact henv|cases hnw
   ·rw[aAI (by rw[l];omega),l]at hq
    rw[aAI (by simp at hlt ⊢;omega)]at hx
    simp only[aAc]at hx
    exact Val.Ap (Cel.CL (hvr _ d x hq hx))
  have hcall:=hsp.2.2.2.1 φ hopn F0 (Ag.refl _) N w0 M B0 σ F β a w ((AL args).run σ++caps) (cas.toList.map a.eval++vs) _ h hf (by simp[l,hvl]) hvals hφ
  unfold Oper.wp
  rw[hrun]
  simp only[Oper.upon]
  refine hcall.mono ?_
  rintro e w' ⟨v,d,o',n',F',β',rfl,hS,hfr,hv,hk⟩
  have hd:∀ t,o.dst=some t->t<N:=by
   intro t ht
   simp only[CO,ht,aAT,decide_eq_true_eq]at hdst
   exact hdst.1
  have hS':=hS.put (c:=True) (dst:=o.dst) (d:=d) (v:=v) hd (Env.Ah hv) (w':=w') rfl rfl rfl rfl
  exact hK _ _ F' β' _ hS' hfr (hK0 _ hk)
 ·cases he
theorem CK {Γ:Ar} (hΓ:∀ k sp,Γ k=some sp->Bv P F0 (k % 4096) sp) {ops:Array Oper} {Q:Exit->Act->World->Prop} {KD:S->Prop}:∀ (l:List Oper) (i:Nat) (ds:List As),BE P N ops false i l=some ds ->
  ∀ (σ:S) (F:Fz) (β:Bt) (a:Act) (w:World) (nv:Nat),Az N w0 F0 M B0 σ F β a w->(∀ v,nv<=v->β v=none)->wpS Γ ds nv σ KD ->
  (∀ τ F' β' a' w',Az N w0 F0 M B0 τ F' β' a' w'->(∀ v,τ.n<=v->β' v=none)->KD τ->Q .normal a' w')->wpList P ops Q l a w
 | [],i,ds,hds,σ,F,β,a,w,nv,h,hf,hw,hQ=>by
  simp only[BE,Option.some.injEq]at hds
  subst hds
  exact wpList_nil (hQ { σ with n:=nv } F β a w (h.congr λk=>by cases k<;>rfl) hf hw)
 | o::l,i,ds,hds,σ,F,β,a,w,nv,h,hf,hw,hQ=>by
  simp only[BE,aAG,aA]at hds
  obtain⟨o',ho',r,hr,he⟩:=hds
  cases he
  refine wpList_step λK hK=>?_
  rcases hw with⟨hc,hw'⟩|⟨σ1,hchg1,hx⟩|⟨σ1,hchg1,hx⟩
  ·refine Eo hΓ h ho' (hf nv (aAL _)) hc K Q λa' w' F' β' hS hb1 hb2=>hK a' w' ?_
   refine CK hΓ l (i+1) r hr _ F' β' a' w' (nv+1) hS (λv hv=>?_) hw' hQ
   rw[hb2 v (by omega)]
   exact hf v (by omega)
  ·obtain⟨F1,β1,h1,hf1⟩:=Az.chg (σ:={ σ with n:=nv }) (h.congr λk=>by cases k<;>rfl) hf hchg1
   refine JR hΓ h1 hf1 ho' hx K Q λa' w' F' β' τ hS hfr hk=>hK a' w' ?_
   obtain⟨τ2,hchg,hk⟩:=hk
   obtain⟨F2,β2,hS2,hfr2⟩:=hS.chg hfr hchg
   exact CK hΓ l (i+1) r hr τ2 F2 β2 a' w' τ2.n hS2 hfr2 hk hQ
  ·obtain⟨F1,β1,h1,hf1⟩:=Az.chg (σ:={ σ with n:=nv }) (h.congr λk=>by cases k<;>rfl) hf hchg1
   refine Mc h1 hf1 ho' hx K Q λa' w' F' β' τ hS hfr hk=>hK a' w' ?_
   obtain⟨τ2,hchg,hk⟩:=hk
   obtain⟨F2,β2,hS2,hfr2⟩:=hS.chg hfr hchg
   exact CK hΓ l (i+1) r hr τ2 F2 β2 a' w' τ2.n hS2 hfr2 hk hQ
theorem KX {N:Nat} {ops:Array Oper} {ds:List As} {dl:As} (h:EA P N ops=some (ds,dl)):∃ init l,ops=init.push l/\Cm P N ops false init.size l=some dl/\(∀ o∈ops.toList,o.guard=none)/\Ez init init.size (AO true l)=true/\(∀ e∈AO true l,e<init.size)/\BE P N init true 0 init.toList=some ds:=by
 unfold EA at h
 split at h
 ·cases h
 ·rename_i l hl
  obtain⟨init,rfl⟩:=Array.back?_eq_some_iff.1 hl
  simp only[aA,Array.pop_push]at h
  obtain⟨dl',hdl,h⟩:=h
  split at h
  ·split at h
   ·rename_i hc
    simp only[aAT,aAR,decide_eq_true_eq,Option.isNone_iff_eq_none]at hc
    simp only[aAE,Prod.mk.injEq]at h
    obtain⟨ds',hds,rfl,rfl⟩:=h
    exact⟨init,l,rfl,hdl,hc.1.1,hc.1.2,hc.2,hds⟩
   ·cases h
  ·cases h
theorem Lf {Γ:Ar} (hΓ:∀ k sp,Γ k=some sp->Bv P F0 (k % 4096) sp) {id:Nat} {ops:Array Oper} {ds:List As} {dl:As} (hm:P.follows .mixedOrders=true) (hcut:EA P N ops=some (ds,dl)) {Q:Ax->S->Prop} {σ:S} {F:Fz} {β:Bt} {a:Act} {w:World}
  (h:Az N w0 F0 M B0 σ F β a w) (hf:∀ v,σ.n<=v->β v=none) (hw:DWp Γ (.seq (.reg ds true) (.reg [dl] false)) Q σ):(Code.region id ops true).wp P (QR N w0 F0 M B0 Q) a w:=by
 obtain⟨init,l,rfl,hdl,hg,hcov,hlt,hds⟩:=KX hcut
 obtain⟨σ0,hchg0,hw⟩:=hw
 obtain⟨F,β,h,hf⟩:=h.chg hf hchg0
 rw[if_pos rfl]at hw
 obtain⟨hw1,hw2⟩:=hw
 have h':Az N w0 F0 M B0 σ0 F β a { w with drawn:=w.drawn+1 }:=by
  have:=h.put (c:=True) (dst:=none) (d:=.top) (v:=undef) (λt e=>by cases e) (Env.top _) (w':={ w with drawn:=w.drawn+1 }) rfl rfl rfl rfl
  exact this
 refine wp_region_any hm ?_
 obtain⟨hlen,hget⟩:=DI init.toList 0 ds hds
 simp only[Array.length_toList]at hlen
 have hol:=(DC Γ ds σ0.n σ0 0 (λ_=>true) (λ_=>rfl)).1
 let Q1:Exit->Act->World->Prop:=λe a w=>match e with
  | .normal=>∃ τ F' β',Az N w0 F0 M B0 τ F' β' a w/\(∀ v,τ.n<=v->β' v=none)/\Wk (DWp Γ (.reg [dl] false) Q) τ
  | e=>QR N w0 F0 M B0 Q e a w
 have key:wpAny P .any init Q1 init.size (aAP init.size false) a { w with drawn:=w.drawn+1 }:=by
  refine Ir (w0:=w0) (F0:=F0) (M:=M) (B0:=B0) hΓ hds hw1 hw2 (λτ F' β' a' w' hS hf' hk=>?_) init.size (aAP init.size false) F β a _ (by simp) ?_ ?_ ?_ ?_
  ·obtain⟨τ',hk1,hk2⟩:=hk
   exact⟨{ τ' with n:=σ0.n+ds.length },F',β',hS.congr (λk=>(by cases k<;>rfl:({ τ' with n:=σ0.n+ds.length }:S).get k=τ'.get k).trans (hk2 k)),hf',hk1⟩
  ·rw[aBG.2]
   ·simp
   ·intro i hi
    simp only[aBH]at hi
    simp[hi]
  ·intro j o ho hl
   have hj:j<init.size:=(aAi.1 ho).1
   simp[hj]at hl
  ·intro v hv hb
   exact absurd (hf v hv) hb
  ·have hnone:∀ (us:List Out) (i:Nat) (τ:S),i+us.length<=init.size->Bj (λi=>(aAP init.size false).getD i true) us i τ=τ:=by
    intro us
    induction us with
    | nil=>intro i τ _;rfl
    | cons u us ih =>
     intro i τ hle
     simp only[aB]at hle
     have hi:i<init.size:=by omega
     simp only[Bj]
     have hne:¬ ((aAP init.size false).getD i true=true):=by simp[hi]
     rw[if_neg hne]
     exact ih (i+1) τ (by omega)
   rw[hnone _ 0 σ0 (by rw[hol,hlen];omega)]
   exact h'
 have hre:aAP (init.push l).size false=(aAP init.size false).push false:=by
  rw[Array.size_push,Array.replicate_succ]
 rw[hre,Array.size_push]
 refine MC hg (λj o ho e he=>?_) hcov hlt ?_ ?_ init.size _ a _ (by simp) (λj o ho hj=>?_) key
 ·obtain⟨o',_,h2⟩:=hget j o (by simpa using ho)
  have:=(Dn h2).2 e he
  omega
 ·intro e a w he hq
  cases e<;>first|exact(he rfl).elim|exact hq
 ·rintro a w ⟨τ,F',β',hS,hfr,τ1,hchg1,τ2,hchg2,hwS⟩
  obtain⟨F1,β1,h1,hf1⟩:=hS.chg hfr hchg1
  obtain⟨F2,β2,h2,hf2⟩:=h1.chg hf1 hchg2
  rw[if_neg (by simp)]at hwS
  have hl1:BE P N (init.push l) false init.size [l]=some [dl]:=by simp[BE,hdl]
  have:=CK (w0:=w0) (F0:=F0) (M:=M) (B0:=B0) (Q:=QR N w0 F0 M B0 Q) hΓ [l] init.size [dl] hl1 τ2 F2 β2 a w τ2.n h2 hf2 hwS (λτ F' β' a' w' hS hf' hk=>⟨τ,F',β',hS,hf',hk⟩)
  have hgl:l.guard=none:=hg l (by simp)
  unfold wpList at this
  simp only[Region.wanted,hgl,if_true]at this
  exact this
 ·rw[aAb]at hj
  by_cases hjl:j<init.size<;>simp[hjl]at hj
theorem BT {Γ:Ar} (hΓ:∀ k sp,Γ k=some sp->Bv P F0 (k % 4096) sp):∀ (c:Code) (d:Ru),SE P N c=some d->∀ (Q:Ax->S->Prop) (σ:S) (F:Fz) (β:Bt) (a:Act) (w:World),
  Az N w0 F0 M B0 σ F β a w->(∀ v,σ.n<=v->β v=none)->DWp Γ d Q σ->c.wp P (QR N w0 F0 M B0 Q) a w
 | .skip,d,hd,Q,σ,F,β,a,w,h,hf,hw=>by
  simp only[SE,Option.some.injEq]at hd
  subst hd
  exact wp_skip ⟨σ,F,β,h,hf,hw⟩
 | .ret,d,hd,Q,σ,F,β,a,w,h,hf,hw=>by
  simp only[SE,Option.some.injEq]at hd
  subst hd
  exact wp_ret ⟨σ,F,β,h,hf,hw⟩
 | .exit id,d,hd,Q,σ,F,β,a,w,h,hf,hw=>by
  simp only[SE,Option.some.injEq]at hd
  subst hd
  exact wp_exit ⟨σ,F,β,h,hf,hw⟩
 | .region id ops draw,d,hd,Q,σ,F,β,a,w,h,hf,hw=>by
  simp only[SE]at hd
  split at hd
  ·cases hd
  ·rename_i hdr
   split at hd
   ·rename_i ds dl hcut
    cases hd
    cases draw with
    | false=>cases hcut
    | true =>
    have hcut:EA P N ops=some (ds,dl):=by simpa using hcut
    have hm:P.follows .mixedOrders=true:=by simpa using hdr
    exact Lf hΓ hm hcut h hf hw
   simp only[aAG,aA]at hd
   obtain⟨ds,hds,he⟩:=hd
   cases he
   obtain⟨σ0,hchg0,hw⟩:=hw
   obtain⟨F,β,h,hf⟩:=h.chg hf hchg0
   cases draw with
   | false =>
    rw[if_neg (by simp)]at hw
    refine wp_region_list ?_
    exact CK (w0:=w0) (F0:=F0) (M:=M) (B0:=B0) hΓ ops.toList 0 ds hds σ0 F β a w σ0.n h hf hw (λτ F' β' a' w' hS hf' hk=>⟨τ,F',β',hS,hf',hk⟩)
   | true =>
    rw[if_pos rfl]at hw
    obtain⟨hw1,hw2⟩:=hw
    have hm:P.follows .mixedOrders=true:=by simpa using hdr
    have h':Az N w0 F0 M B0 σ0 F β a { w with drawn:=w.drawn+1 }:=by
     have:=h.put (c:=True) (dst:=none) (d:=.top) (v:=undef) (λt e=>by cases e) (Env.top _) (w':={ w with drawn:=w.drawn+1 }) rfl rfl rfl rfl
     exact this
    refine wp_region_any hm ?_
    have hid:∀ (us:List Out) (i:Nat),Bj (λi=>(aAP ops.size false).getD i true) us i σ=Bj (λi=>(aAP ops.size false).getD i true) us i σ:=λ_ _=>rfl
    obtain⟨hlen,_⟩:=DI ops.toList 0 ds hds
    simp only[Array.length_toList]at hlen
    have hol:=(DC Γ ds σ0.n σ0 0 (λ_=>true) (λ_=>rfl)).1
    refine Ir (w0:=w0) (F0:=F0) (M:=M) (B0:=B0) hΓ hds hw1 hw2 (λτ F' β' a' w' hS hf' hk=>?_) ops.size (aAP ops.size false) F β a _ (by simp) ?_ ?_ ?_ ?_
    ·obtain⟨τ',hk1,hk2⟩:=hk
     exact⟨{ τ' with n:=σ0.n+ds.length },F',β',hS.congr (λk=>(by cases k<;>rfl:({ τ' with n:=σ0.n+ds.length }:S).get k=τ'.get k).trans (hk2 k)),hf',hk1⟩
    ·rw[aBG.2]
     ·simp
     ·intro i hi
      simp only[aBH]at hi
      simp[hi]
    ·intro j o ho hl
     have hj:j<ops.size:=(aAi.1 ho).1
     simp[hj]at hl
    ·intro v hv hb
     exact absurd (hf v hv) hb
    ·have hnone:∀ (us:List Out) (i:Nat) (τ:S),i+us.length<=ops.size->Bj (λi=>(aAP ops.size false).getD i true) us i τ=τ:=by
      intro us
      induction us with
      | nil=>intro i τ _;rfl
      | cons u us ih =>
       intro i τ hle
       simp only[aB]at hle
       have hi:i<ops.size:=by omega
       simp only[Bj]
       have hne:¬ ((aAP ops.size false).getD i true=true):=by simp[hi]
       rw[if_neg hne]
       exact ih (i+1) τ (by omega)
     rw[hnone _ 0 σ0 (by rw[hol,hlen];omega)]
     exact h'
 | .seq x y,d,hd,Q,σ,F,β,a,w,h,hf,hw=>by
  simp only[SE,aAG,aA]at hd
  obtain⟨dx,hx,dy,hy,he⟩:=hd
  cases he
  refine wp_seq (wp_mono (BT hΓ x dx hx _ σ F β a w h hf hw) λe a' w' hq=>?_)
  obtain⟨τ,F',β',h1,h2,h3⟩:=hq
  cases e with
  | normal =>
   obtain⟨τ',hwk,h3⟩:=h3
   obtain⟨F2,β2,h1',h2'⟩:=h1.chg h2 hwk
   exact BT hΓ y dy hy Q τ' F2 β2 a' w' h1' h2' h3
  | exit id=>exact⟨τ,F',β',h1,h2,h3⟩
  | ret=>exact⟨τ,F',β',h1,h2,h3⟩
  | goto l=>exact h3.elim
  | panic ch=>exact h3.elim
  | outgrown=>exact h3.elim
 | .cond c x y,d,hd,Q,σ,F,β,a,w,h,hf,hw=>by
  simp only[SE,aAG,aA]at hd
  obtain⟨dc,hc,dx,hx,dy,hy,he⟩:=hd
  cases he
  have henv:=CI h.sim hc
  have hev:(raw dc).run σ=Dp σ dc:=by cases dc<;>rfl
  rw[hev]at henv
  simp only[DWp]at hw
  generalize Dp σ dc=dv at *
  cases dv<;>try exact hw.elim
  case bool t =>
   have e1:=BQ (β:=β) (F:=F) henv
   exact wp_cond_split e1 (λht=>BT hΓ x dx hx Q σ F β a w h hf (hw.1 ht)) (λht=>BT hΓ y dy hy Q σ F β a w h hf (hw.2 ht))
 | .block id b,d,hd,Q,σ,F,β,a,w,h,hf,hw=>by
  simp only[SE,aAG,aA]at hd
  obtain⟨db,hb,he⟩:=hd
  cases he
  refine wp_block (wp_mono (BT hΓ b db hb _ σ F β a w h hf hw) λe a' w' hq=>?_)
  obtain⟨τ,F',β',h1,h2,h3⟩:=hq
  cases e with
  | normal=>exact⟨τ,F',β',h1,h2,h3⟩
  | exit id' =>
   simp only[Ax.inBlock]at h3
   simp only[Exit.inBlock]
   split
   ·rename_i e
    rw[if_pos e]at h3
    obtain⟨τ',hwk,h3⟩:=h3
    obtain⟨F2,β2,h1',h2'⟩:=h1.chg h2 hwk
    exact⟨τ',F2,β2,h1',h2',h3⟩
   ·rename_i e;rw[if_neg e]at h3;exact⟨τ,F',β',h1,h2,h3⟩
  | ret=>exact⟨τ,F',β',h1,h2,h3⟩
  | goto l=>exact h3.elim
  | panic ch=>exact h3.elim
  | outgrown=>exact h3.elim
 | .loop b,d,hd,Q,σ,F,β,a,w,h,hf,hw=>by
  simp only[SE,aAG,aA]at hd
  obtain⟨db,hb,he⟩:=hd
  cases he
  obtain⟨ι,St,μ,i₀,hwk,hround⟩:=hw
  obtain⟨F2,β2,hS2,hf2⟩:=h.chg hf hwk
  refine wp_loop_ghost (λk a w=>∃ i F β,μ i=k/\Az N w0 F0 M B0 (St i) F β a w/\∀ v,(St i).n<=v->β v=none) (μ i₀) ⟨i₀,F2,β2,rfl,hS2,hf2⟩ ?_
  rintro k a w ⟨i,F,β,rfl,h,hf⟩
  refine wp_mono (BT hΓ b db hb _ (St i) F β a w h hf (hround i)) λe a' w' hq=>?_
  obtain⟨τ,F',β',h1,h2,h3⟩:=hq
  cases e with
  | normal =>
   obtain⟨i',hlt,hwk'⟩:=h3
   obtain⟨F3,β3,hS3,hf3⟩:=h1.chg h2 hwk'
   exact⟨μ i',hlt,i',F3,β3,rfl,hS3,hf3⟩
  | exit id=>exact⟨τ,F',β',h1,h2,h3⟩
  | ret=>exact⟨τ,F',β',h1,h2,h3⟩
  | goto l=>exact h3.elim
  | panic ch=>exact h3.elim
  | outgrown=>exact h3.elim
 | .rangeFunc ..,d,hd,_,_,_,_,_,_,_,_,_=>by cases hd
 | .scope ..,d,hd,_,_,_,_,_,_,_,_,_=>by cases hd
 | .label ..,d,hd,_,_,_,_,_,_,_,_,_=>by cases hd
 | .goto ..,d,hd,_,_,_,_,_,_,_,_,_=>by cases hd
 | .refuse ..,d,hd,_,_,_,_,_,_,_,_,_=>by cases hd
end
inductive Be where
 | t (n:Nat)
 | c (a n:Nat) (agg:Bool)
def Wp (P:Program):ResultVar->Option Be
 | .tmp t=>some (.t t)
 | .cell a ty=>if Cq P ty then some (.c a (P.cellsOf ty) true)else if(P.underlying ty).isSome then some (.c a 1 false)else none
def QB:Be->R (Prop×D)
 | .t n=>do
  let(p,d)<-rdA (.t n)
  pure (p=true,d)
 | .c a n agg=>do
  let(p,d)<-rdA (.t a)
  let(c,e,off)<-QS d
  pure (p=true/\c/\off+n<=(cells e).length,QN (cells e) off n agg)
def Er (r:Be):R (Prop×D×List (Nat×Ac)):=do
 let(c,d)<-QB r
 let(c',d',w)<-res d
 pure (c/\c',d',w)
def Cg (s ty:Nat) (d:D):R (Prop×D×List (Nat×Ac)×Nat) :=
 match d with
 | .optr g v i off=>.go g fun
  | some (v',o)=>do
   let(c,e',w)<-res (o.es.getD 0 .top)
   pure ((v=v'/\i=0/\off=0/\o.fz=false/\o.var=true/\o.es.length=1/\o.s=s/\o.ty=ty)/\c,e',w,g)
  | none=>.ret (False,.top,[],0)
 | _=>.ret (False,.top,[],0)
def Ii (s ty:Nat) (d:D):R (Prop×D×List (Nat×Ac)) :=
 match d with
 | .optr g v i off=>.go g fun
  | some (v',o)=>do
   let(c,e',w)<-pas (Ab g) (o.es.getD 0 .top)
   pure ((v=v'/\i=0/\off=0/\o.fz=false/\o.var=true/\o.es.length=1/\o.s=s/\o.ty=ty)/\c,e',w)
  | none=>.ret (False,.top,[])
 | _=>.ret (False,.top,[])
def Ep (r:Bool) (s ty:Nat) (d:D):R (Prop×D×Nat) :=
 match d with
 | .osl g v i n=>.go g fun
  | some (v',o)=>.ret (v=v'/\i=0/\n<=o.es.length/\o.fz=false/\o.var=false/\o.s=s/\o.ty=ty/\Ab g=r/\(r=true->∀ e∈o.es,∀ c∈cells e,∀ nm u m,c≠ .hole nm u m),.sl (o.es.take n),g)
  | none=>.ret (False,.top,0)
 | _=>.ret (False,.top,0)
def AG:List Be->R (Prop×List D×List (Nat×Ac))
 | []=>.ret (True,[],[])
 | r::rs=>do
  let(c,d,w)<-Er r
  let(c',ds,w')<-AG rs
  pure (c/\c',d::ds,w++w')
def BN:List (Nat×(Nat×Nat))->R (Prop×List D×List (Nat×Ac))
 | []=>.ret (True,[],[])
 | (j,(s,ty))::r=>do
  let(c,e,w)<-Ii s ty (.optr (8192+j) j 0 0)
  let(c',es,w')<-BN r
  pure (c/\c',e::es,w++w')
def Ew (ptr:List (Nat×(Nat×Nat))):Nat->List D->List Nat
 | _,[]=>[]
 | j,_::r=>(match look ptr j with|some _=>[j]|none=>[])++Ew ptr (j+1) r
def BJ (ptr:List (Nat×(Nat×Nat))):Nat->List D->List Nat
 | _,[]=>[]
 | j,d::r=>(match look ptr j with|some _=>[j]|none=>match d with| .clo _ caps=>Ew ptr (64*(j+1)) caps|_=>[])++BJ ptr (j+1) r
def DJ (ptr:List (Nat×(Nat×Nat))):Nat->List D->List D
 | _,[]=>[]
 | j,d::r=>(match look ptr j with|some _=>.optr (8192+j) j 0 0|none=>d)::DJ ptr (j+1) r
def Gg (ptr:List (Nat×(Nat×Nat))) (j:Nat) (d:D):D :=
 match look ptr j with
 | some _=>.optr (8192+j) j 0 0
 | none=>match d with| .clo f caps=>.clo f (DJ ptr (64*(j+1)) caps)|d=>d
def Ds (ptr:List (Nat×(Nat×Nat))):Nat->List D->List (Nat×D)
 | _,[]=>[]
 | j,d::r=>(j,Gg ptr j d)::Ds ptr (j+1) r
def GL (ptr:List (Nat×(Nat×Nat))):Nat->List D->List (Nat×Ac)
 | _,[]=>[]
 | j,d::r=>(match look ptr j with|some (s,ty)=>[(8192+j,some (j,⟨false,true,s,ty,[d]⟩))]|none=>[])++GL ptr (j+1) r
def CE (ptr:List (Nat×(Nat×Nat))):Nat->List D->List (Nat×Ac)
 | _,[]=>[]
 | j,d::r=>(match look ptr j with|some (s,ty)=>[(8192+j,some (j,⟨false,true,s,ty,[d]⟩))]|none=>match d with| .clo _ caps=>GL ptr (64*(j+1)) caps|_=>[])++CE ptr (j+1) r
def DK (sp:Spec) (ds:List D):S:=⟨Ds sp.ptr 0 ds,CE sp.ptr 0 ds,262144⟩
def EW (ptr:List (Nat×(Nat×Nat))):Bool:=(ptr.map Prod.fst).all (λk=>aAW k 262144)&&decide (ptr.map Prod.fst).Nodup
def Cl (sp:Spec) (rs:List Be) (ds:List D) (τ:S):Prop :=
 ((BN sp.ptr).run τ).1/\((BN sp.ptr).run τ).2.1=sp.eff ds /\
 match sp.kind,rs with
 | .val,[r]| .ground,[r]=>((Er r).run τ).1/\((Er r).run τ).2.1=sp.res ds
 | .val,rs| .ground,rs=>((AG rs).run τ).1/\ .tup ((AG rs).run τ).2.1=sp.res ds/\rs.length≠1
 | .row s ty,[r]=>((QB r).run τ).1/\((Ep false s ty ((QB r).run τ).2).run τ).1/\((Ep false s ty ((QB r).run τ).2).run τ).2.1=sp.res ds/\((BN sp.ptr).run τ).2.2.all (λx=>x.1 != ((Ep false s ty ((QB r).run τ).2).run τ).2.2)=true
 | .mat s ty,[r]=>((QB r).run τ).1/\((Ep true s ty ((QB r).run τ).2).run τ).1/\((Ep true s ty ((QB r).run τ).2).run τ).2.1=sp.res ds/\sp.ptr=[]
 | .ptr s ty,[r]=>((QB r).run τ).1/\((Cg s ty ((QB r).run τ).2).run τ).1/\((Cg s ty ((QB r).run τ).2).run τ).2.1=sp.res ds/\Ab ((Cg s ty ((QB r).run τ).2).run τ).2.2.2=false
 | .tupPtr q s ty,rs=>q<rs.length/\rs.length≠1/\sp.ptr=[]/\((AG (rs.take q)).run τ).1/\((AG (rs.drop (q+1))).run τ).1/\((QB (rs.getD q (.t 0))).run τ).1/\((Cg s ty ((QB (rs.getD q (.t 0))).run τ).2).run τ).1 /\
   .tup (((AG (rs.take q)).run τ).2.1++((Cg s ty ((QB (rs.getD q (.t 0))).run τ).2).run τ).2.1::((AG (rs.drop (q+1))).run τ).2.1)=sp.res ds
 | _,_=>False
def Nc (Γ:Ar) (sp:Spec) (np:Nat) (rs:List Be) (c:Ru):Prop :=
 ∀ ds,sp.pre ds->ds.length=np/\BJ sp.ptr 0 ds=sp.ptr.map Prod.fst->Wk (DWp Γ c (λe τ=>match e with| .exit _=>False|_=>Wk (Cl sp rs ds) τ)) (DK sp ds)
section
variable {N:Nat} {w0:World} {F0:Fz} {M:Nat->Prop} {B0:Bt} {P:Program} {σ:S} {F:Fz} {β:Bt} {a:Act} {w:World}
theorem Of (h:Sim N w0 F0 M B0 σ F β a w) {rv:ResultVar} {r:Be} (hr:Wp P rv=some r) (hc:((QB r).run σ).1) :
  ∃ v,(match rv with| .tmp t=>(pure (a.tmps.getD t undef):Sem Value)| .cell c t=>(do loadVar t (<- asAddr (a.tmps.getD c undef)):Sem Value)).run P w= .ok v w/\Val F β ((QB r).run σ).2 v:=by
 cases rv with
 | tmp t =>
  simp only[Wp,Option.some.injEq]at hr
  subst hr
  simp only[QB,R.run_bind,R.run_pure]at hc ⊢
  refine⟨_,rfl,?_⟩
  have:=(h.env t).strip (by simpa[rdA,raw]using hc)
  simpa[rdA,raw]using this
 | cell c ty =>
  simp only[Wp]at hr
  have key:∀ (n:Nat) (agg:Bool),r= .c c n agg->Cq P ty=agg->(P.underlying ty).isSome=true->(agg=true->P.info? ty≠none/\n=P.cellsOf ty)->(agg=false->n=1)->∃ v,(do loadVar ty (<- asAddr (a.tmps.getD c undef)):Sem Value).run P w= .ok v w/\Val F β ((QB r).run σ).2 v:=by
   rintro n agg rfl h1 h2 h3 h4
   simp only[QB,R.run_bind,R.run_pure,rdA,raw,R.run]at hc ⊢
   obtain⟨q1,q2,q3⟩:=hc
   have hv:=(h.env c).strip q1
   obtain⟨v,r1,r2⟩:=Ki (P:=P) h hv q2 ty n agg h1 h2 h3 h4 q3
   obtain⟨b,o,hx,_⟩:=Jb h hv q2
   refine⟨v,?_,r2⟩
   rw[hx]at r1 ⊢
   simpa[Instr.loadAt,Instr.sureAddr,asAddr]using r1
  split at hr
  ·rename_i hagg
   cases hr
   have hu:=Ec hagg
   obtain⟨td,htd⟩:=Option.isSome_iff_exists.1 hu
   exact key _ _ rfl hagg hu (λ_=>⟨DE htd,rfl⟩) (λe=>by cases e)
  ·rename_i hagg
   split at hr
   ·rename_i hu
    cases hr
    exact key _ _ rfl (by simpa using hagg) hu (λe=>by cases e) (λ_=>rfl)
   ·cases hr
end
section
variable {N:Nat} {w0:World} {F0:Fz} {M:Nat->Prop} {B0:Bt} {P:Program} {σ:S} {F:Fz} {β:Bt} {a:Act} {w:World}
def HE (a:Act):ResultVar->Sem Value
 | .tmp t=>pure (a.tmps.getD t undef)
 | .cell c t=>do loadVar t (<- asAddr (a.tmps.getD c undef))
theorem MN (h:Sim N w0 F0 M B0 σ F β a w) {rv:ResultVar} {r:Be} (hr:Wp P rv=some r) (hc:((QB r).run σ).1) :
  ∃ v,(HE a rv).run P w= .ok v w/\Val F β ((QB r).run σ).2 v:=by
 have:=Of (P:=P) h hr hc
 cases rv<;>exact this
theorem FL (h:Sim N w0 F0 M B0 σ F β a w):∀ (rvs:List ResultVar) (rs:List Be),rvs.mapM (Wp P)=some rs->(∀ r∈rs,((QB r).run σ).1) ->
  ∃ vs:List Value,(rvs.mapM (HE a)).run P w= .ok vs w/\vs.length=rs.length/\rvs.length=rs.length/\∀ (i:Nat) r v,rs[i]? =some r->vs[i]? =some v->Val F β ((QB r).run σ).2 v
 | [],rs,hm,_=>by
  simp at hm
  subst hm
  exact⟨[],rfl,rfl,rfl,λi r v hi=>by simp at hi⟩
 | rv::rvs,rs,hm,hc=>by
  simp only[List.mapM_cons,aAG,aA]at hm
  obtain⟨r,hr,rs',hrs,he⟩:=hm
  cases he
  obtain⟨v,v1,v2⟩:=MN (P:=P) h hr (hc r (by simp))
  obtain⟨vs,k1,k2,k3,k4⟩:=FL h rvs rs' hrs (λr hr=>hc r (by simp[hr]))
  refine⟨v::vs,by simp[List.mapM_cons,v1,k1],by simp[k2],by simp[k3],λi r' v' hi hv=>?_⟩
  rcases i with _|i
  ·simp only[aAD,Option.some.injEq]at hi hv
   subst hi;subst hv
   exact v2
  ·simp only[aAK]at hi hv
   exact k4 i r' v' hi hv
theorem BX (h:Sim N w0 F0 M B0 σ F β a w) {fn:Func} {rs:List Be} (hm:fn.results.toList.mapM (Wp P)=some rs) (hc:∀ r∈rs,((QB r).run σ).1) :
  ∃ vs:List Value,(results fn a.tmps).run P w= .ok (if h:vs.length=1 then vs[0]else .tuple vs.toArray) w/\vs.length=rs.length/\∀ (i:Nat) r v,rs[i]? =some r->vs[i]? =some v->Val F β ((QB r).run σ).2 v:=by
 obtain⟨vs,k1,k2,_,k4⟩:=FL (P:=P) h _ rs hm hc
 refine⟨vs,?_,k2,k4⟩
 have hmap:(fn.results.mapM (HE a)).run P w= .ok vs.toArray w:=by
  rw[Array.mapM_eq_mapM_toList]
  simp[k1]
 have e:results fn a.tmps=(do let vs<-fn.results.mapM (HE a);pure (if h:vs.size=1 then vs[0]else .tuple vs)):=by
  unfold results
  have:(fun
   | .tmp t=>pure (a.tmps.getD t undef)
   | .cell b t=>do loadVar t (<- asAddr (a.tmps.getD b undef)):ResultVar->Sem Value)=HE a:=by
   funext rv;cases rv<;>rfl
  rw[<- this]
  rfl
 rw[e]
 simp only[Sem.run_bind]
 rw[hmap]
 simp only[Result.andThen_ok,Sem.run_pure]
 congr 1
theorem Kr (h:Sim N w0 F0 M B0 σ F β a w) (hdr:w0.heap.size<=w0.drawn) {s ty:Nat} {d:D} {x:Value} (hx:Val F β d x) (hc:((Cg s ty d).run σ).1) :
  Aq σ ((Cg s ty d).run σ).2.2.1/\∃ g v o b,((Cg s ty d).run σ).2.2.2=g/\σ.go g=some (v,o)/\o.fz=false/\o.var=true/\β v=some ⟨some b,1,s⟩/\x= .pointer (some ⟨b,0,none⟩) /\
   ∀ (ws:List (Nat×Ac)) F',Aq σ ws->(∀ p∈((Cg s ty d).run σ).2.2.1,p∈ws)->Ag F F'->Sim N w0 F0 M B0 ⟨σ.e,ws++σ.o,σ.n⟩ F' β a w->IV F' w b s ty ((Cg s ty d).run σ).2.1/\(∀ i,F' b i=none)/\b<w.heap.size/\(w0.heap.size<=b\/(M b/\Ab g=true))/\∃ v' o',(S.mk σ.e (ws++σ.o) σ.n).go g=some (v',o')/\o'.fz=false/\β v'=some ⟨some b,1,s⟩:=by
 cases d<;>try exact hc.elim
 case optr g v i off =>
  simp only[Cg,R.run]at hc ⊢
  cases hg:σ.go g with
  | none=>rw[hg]at hc;exact hc.elim
  | some p =>
   obtain⟨v',o⟩:=p
   rw[hg]at hc
   simp only[R.run_bind,R.run_pure]at hc ⊢
   obtain⟨⟨rfl,rfl,rfl,hfz,hvar,hlen,rfl,rfl⟩,hc1⟩:=hc
   obtain⟨L,b,hL,hb,rfl⟩:=hx
   obtain⟨L',hL',_,hk⟩:=h.own g v o hg
   rw[hL]at hL';cases hL'
   obtain⟨e1,e2,e3,e4,e5,e6⟩:=hk hfz
   rw[hb]at e6
   obtain⟨C,hC,hCs,hcell⟩:=e6
   obtain⟨e,he⟩:∃ e,o.es=[e]:=aBE.1 hlen
   have hge:o.es.getD 0 .top=e:=by simp[he]
   rw[hge]at hc1 ⊢
   have hX:∀ (j:Nat) c,(cells e)[j]? =some c->∃ x,C[j]? =some x/\x.oneCell'=true/\Cel F β c x:=by
    intro j c hj
    obtain⟨x,x1,x2,x3⟩:=hcell 0 j e c (by simp[he]) hj
    rw[hvar]at x3
    exact⟨x,by simpa using x1,x2,by simpa using x3⟩
   obtain⟨f1,l1,r1⟩:=FJ h e (λj=>C[j]?) hX hc1
   have hcap:L.cap=1:=by
    rw[hvar]at e4
    simp only[if_true]at e4
    have:o.es.length=1:=hlen
    omega
   have hLe:L=⟨some b,1,o.s⟩:=by cases L;simp_all
   refine⟨f1,g,v,o,b,rfl,hg,hfz,hvar,by rw[hL,hLe],by simp,λws F' q1 q2 q3 q4=>?_⟩
   have hgo:(S.mk σ.e (ws++σ.o) σ.n).go g=some (v,o):=by
    rcases q1.go g with⟨v2,o2,k1,k2,_,_⟩|⟨_,k2⟩
    ·rw[hg]at k1;cases k1;rw[hvar]at k2;cases k2
    ·rw[k2];exact hg
   obtain⟨s1,s2,s3⟩:=q4.sep g v o L b hgo hfz hL hb
   replace s3:w0.heap.size<=b\/(M b/\Ab g=true):=s3.elim .inl λs3=>s3.2.elim (λe=>.inr ⟨s3.1,e⟩) λe=>.inl (aAn hdr e)
   refine⟨⟨rfl,e2,by simp,by simp,λq hq=>?_,C,hC,by rw[hCs,hcap],λi j c' c hc' hj=>?_⟩,s1,s2,s3,v,o,hgo,hfz,by rw[hL,hLe]⟩
   ·simp only[aAQ]at hq
    subst hq
    rw[l1]
    exact e5 e (by simp[he])
   ·rcases i with _|i
    ·simp only[aAD,Option.some.injEq]at hc'
     subst hc'
     obtain⟨x,x1,x2,x3⟩:=r1 ws F' q1 q2 q3 q4 j c hj
     exact⟨x,by simpa using x1,x2,by simpa using Cel.Af x3⟩
    ·simp at hc'
theorem Og {L:Loc} {b:Nat} (h:Sim N w0 F0 M B0 σ F β a w) {s ty g v:Nat} (hL:β v=some L) (hb:L.b=some b) (hLs:L.cap=1/\L.s=s) (hc:((Ii s ty (.optr g v 0 0)).run σ).1) :
  Aq σ ((Ii s ty (.optr g v 0 0)).run σ).2.2/\∃ o,σ.go g=some (v,o)/\o.fz=false/\o.var=true /\
   ∀ (ws:List (Nat×Ac)) F' φ,Aq σ ws->(∀ p∈((Ii s ty (.optr g v 0 0)).run σ).2.2,p∈ws)->Ag F F'->Sim N w0 F0 M B0 ⟨σ.e,ws++σ.o,σ.n⟩ F' β a w->AE F' β w0.heap.size M ⟨σ.e,ws++σ.o,σ.n⟩ w φ ->
    EM F' w ⟨b,s,ty,φ g 0⟩ ((Ii s ty (.optr g v 0 0)).run σ).2.1/\(S.mk σ.e (ws++σ.o) σ.n).go g=some (v,o):=by
 simp only[Ii,R.run]at hc ⊢
 cases hg:σ.go g with
 | none=>rw[hg]at hc;exact hc.elim
 | some p =>
  obtain⟨v',o⟩:=p
  rw[hg]at hc
  simp only[R.run_bind,R.run_pure]at hc ⊢
  obtain⟨⟨rfl,_,_,hfz,hvar,hlen,rfl,rfl⟩,hc1⟩:=hc
  obtain⟨L',hL',_,hk⟩:=h.own g v o hg
  rw[hL]at hL';cases hL'
  obtain⟨e1,e2,e3,e4,e5,e6⟩:=hk hfz
  rw[hb]at e6
  obtain⟨C,hC,hCs,hcell⟩:=e6
  obtain⟨e,he⟩:∃ e,o.es=[e]:=aBE.1 hlen
  have hge:o.es.getD 0 .top=e:=by simp[he]
  rw[hge]at hc1 ⊢
  obtain⟨hc1,hpe,hpr⟩:=Kn hc1
  have hpe':(pas (Ab g) e).run σ=(((pas (Ab g) e).run σ).1,((res e).run σ).2):=Prod.ext rfl hpe
  rw[hpe']
  dsimp only
  have hX:∀ (j:Nat) c,(cells e)[j]? =some c->∃ x,C[j]? =some x/\x.oneCell'=true/\Cel F β c x:=by
   intro j c hj
   obtain⟨x,x1,x2,x3⟩:=hcell 0 j e c (by simp[he]) hj
   rw[hvar]at x3
   exact⟨x,by simpa using x1,x2,by simpa using x3⟩
  obtain⟨f1,l1,r1⟩:=FJ h e (λj=>C[j]?) hX hc1
  refine⟨f1,o,rfl,hfz,hvar,λws F' φ q1 q2 q3 q4 hφ=>?_⟩
  have hgo:(S.mk σ.e (ws++σ.o) σ.n).go g=some (v,o):=by
   rcases q1.go g with⟨v2,o2,k1,k2,_,_⟩|⟨_,k2⟩
   ·rw[hg]at k1;cases k1;rw[hvar]at k2;cases k2
   ·rw[k2];exact hg
  obtain⟨s1,s2,_⟩:=q4.sep g v o L b hgo hfz hL hb
  refine⟨⟨⟨rfl,e2,by simp,by simp,λq hq=>?_,C,hC,by rw[hCs,hLs.1],λi j c' c hc' hj=>?_⟩,s1,s2,hφ.none_ g 0,hφ.lt g 0,λj b' hb' e'=>?_,λj j' b' h1 h2=>(hφ.dis _ _ _ _ _ _ _ h1 h2).2.2,λC' j x s ty es hC' hj hx=>?_,λj nm u n hj=>(hpr j _ hj).2 nm u n rfl⟩,hgo⟩
  ·simp only[aAQ]at hq
   subst hq
   rw[l1]
   exact e5 e (by simp[he])
  ·rcases i with _|i
   ·simp only[aAD,Option.some.injEq]at hc'
    subst hc'
    obtain⟨x,x1,x2,x3⟩:=r1 ws F' q1 q2 q3 q4 j c hj
    exact⟨x,by simpa using x1,x2,by simpa using Cel.Af x3⟩
   ·simp at hc'
  ·simp only at e'
   subst e'
   exact hφ.sep g 0 j _ g v o L hb' hgo hfz hL hb
  ·obtain⟨z1,z2⟩:=(hpr j _ hj).1 s ty es rfl
   exact hφ.row g v o L b C' 0 j e x s ty es z1 hgo hfz hL hb hC' (by simp[he]) z2 (by simpa using hx)
theorem Ks (_h:Sim N w0 F0 M B0 σ F β a w) (hdr:w0.heap.size<=w0.drawn) {r:Bool} {s ty:Nat} {d:D} {x:Value} (hx:Val F β d x) (hc:((Ep r s ty d).run σ).1) :
  ∃ es L g v o,((Ep r s ty d).run σ).2.1= .sl es/\x= .slice (L.b.map λb=>⟨b,0,none⟩) es.length L.cap/\Ab g=r/\o.fz=false/\o.s=s/\o.ty=ty/\β v=some L/\(∃ n,es=o.es.take n)/\(r=true->∀ e∈o.es,∀ c∈cells e,∀ nm u m,c≠ .hole nm u m) /\
   ∀ (ws:List (Nat×Ac)) F',ws.all (λx=>x.1 != ((Ep r s ty d).run σ).2.2)=true->Ag F F'->Sim N w0 F0 M B0 ⟨σ.e,ws++σ.o,σ.n⟩ F' β a w->AA F' noB w L ⟨false,false,s,ty,es⟩/\(S.mk σ.e (ws++σ.o) σ.n).go g=some (v,o)/\∀ b,L.b=some b->(w0.heap.size<=b\/(r=true/\M b))/\b<w.heap.size/\∀ i,F' b i=none:=by
 cases d<;>try exact hc.elim
 case osl g v i n =>
  simp only[Ep,R.run]at hc ⊢
  cases hg:σ.go g with
  | none=>rw[hg]at hc;exact hc.elim
  | some p =>
   obtain⟨v',o⟩:=p
   rw[hg]at hc
   simp only[R.run]at hc ⊢
   obtain⟨rfl,rfl,hn,hfz,hvar,rfl,rfl,hrg,hnh⟩:=hc
   obtain⟨L,a',hL,rfl,hcap,ha,_⟩:=hx
   refine⟨o.es.take n,L,g,v,o,rfl,by rw[ha rfl];simp[Nat.min_eq_left hn],hrg,hfz,rfl,rfl,hL,⟨n,rfl⟩,hnh,λws F' hws hF hS=>?_⟩
   have hgo:(S.mk σ.e (ws++σ.o) σ.n).go g=some (v,o):=by
    have:look ws g=none:=by
     cases hl:look ws g with
     | none=>rfl
     | some y =>
      have:=aAR.1 hws _ (Bl hl)
      simp at this
    simp only[S.go,BH,this,Option.none_or]
    exact hg
   obtain⟨L',hL',_,hk⟩:=hS.own g v o hgo
   rw[hL]at hL';cases hL'
   obtain⟨e1,e2,e3,e4,e5,e6⟩:=hk hfz
   refine⟨⟨e1,e2,?_,?_,λe he=>e5 e (List.mem_of_mem_take he),?_⟩,hgo,λb hb=>?_⟩
   ·simp only[List.length_take];omega
   ·simpa[hvar]using e4
   ·cases hb:L.b with
    | none=>rw[hb]at e6;exact⟨e6.1,rfl⟩
    | some b =>
     rw[hb]at e6
     obtain⟨C,hC,hCs,hcell⟩:=e6
     refine⟨C,hC,hCs,λi j e d he hd=>?_⟩
     have he':o.es[i]? =some e:=by
      rw[aAr]at he
      split at he
      ·exact he
      ·cases he
     obtain⟨x,x1,x2,x3⟩:=hcell i j e d he' hd
     rw[hvar]at x3
     exact⟨x,x1,x2,by simpa using x3⟩
   ·obtain⟨s1,s2,s3⟩:=hS.sep g v o L b hgo hfz hL hb
    replace s3:w0.heap.size<=b\/(M b/\Ab g=true):=s3.elim .inl λs3=>s3.2.elim (λe=>.inr ⟨s3.1,e⟩) λe=>.inl (aAn hdr e)
    refine⟨?_,s2,s1⟩
    rcases s3 with s3|s3
    ·exact .inl s3
    ·rw[hrg]at s3
     exact .inr ⟨s3.2,s3.1⟩
theorem EY (h:Sim N w0 F0 M B0 σ F β a w):∀ (rs:List Be) (vs:List Value),rs.length=vs.length->(∀ (i:Nat) r v,rs[i]? =some r->vs[i]? =some v->((QB r).run σ).1->Val F β ((QB r).run σ).2 v)->((AG rs).run σ).1 ->
  Aq σ ((AG rs).run σ).2.2/\((AG rs).run σ).2.1.length=vs.length/\∀ (ws:List (Nat×Ac)) F',Aq σ ws->(∀ p∈((AG rs).run σ).2.2,p∈ws)->Ag F F'->Sim N w0 F0 M B0 ⟨σ.e,ws++σ.o,σ.n⟩ F' β a w ->
   ∀ (j:Nat) c v,((AG rs).run σ).2.1[j]? =some c->vs[j]? =some v->Fro F' c v
 | [],vs,hl,_,_=>⟨Aq.nil σ,by simpa[AG,R.run]using hl,λ_ _ _ _ _ _ j c v hj=>by simp[AG]at hj⟩
 | r::rs,[],hl,_,_=>by simp at hl
 | r::rs,v::vs,hl,hv,hc=>by
  simp only[AG,Er,R.run_bind,R.run_pure]at hc ⊢
  obtain⟨⟨c1,c2⟩,c3⟩:=hc
  obtain⟨f1,r1⟩:=FK h _ (hv 0 r v rfl rfl c1) c2
  obtain⟨f2,l2,r2⟩:=EY h rs vs (by simpa using hl) (λi r' v' h1 h2=>hv (i+1) r' v' (by simpa using h1) (by simpa using h2)) c3
  refine⟨f1.append f2,by simp[l2],λws F' q1 q2 q3 q4 j c v' hj hv'=>?_⟩
  rcases j with _|j
  ·simp only[aAD,Option.some.injEq]at hj hv'
   subst hj;subst hv'
   exact r1 ws F' q1 (λp hp=>q2 p (by simp[hp])) q3 q4
  ·simp only[aAK]at hj hv'
   exact r2 ws F' q1 (λp hp=>q2 p (by simp[hp])) q3 q4 j c v' hj hv'
theorem Dx:∀ (rs:List Be),((AG rs).run σ).1->∀ r∈rs,((QB r).run σ).1
 | [],_,r,hr=>by cases hr
 | r0::rs,hc,r,hr=>by
  simp only[AG,Er,R.run_bind,R.run_pure]at hc
  cases hr with
  | head=>exact hc.1.1
  | tail _ hr=>exact Dx rs hc.2 r hr
end
section
variable {N:Nat} {P:Program}
def ini (p:(Nat×D)×Hd):Nat×Ac:=(8192+p.1.1,some (p.1.1,⟨false,true,p.2.s,p.2.ty,[p.1.2]⟩))
structure Ini (F:Fz) (w:World) (ptr:List (Nat×(Nat×Nat))) (O:List (Nat×Ac)) (keys:List Nat) (Mb:List Hd) (K:List (Nat×D)):Prop where
 len:K.length=Mb.length
 keys:K.map Prod.fst=keys
 obj:O=(K.zip Mb).map ini
 ok:∀ (k:Nat) key d m,K[k]? =some (key,d)->Mb[k]? =some m->EM F w m d/\look ptr key=some (m.s,m.ty)
 apart:∀ (k k':Nat) m m',k<k'->Mb[k]? =some m->Mb[k']? =some m'->XO m m'
def Nam (K:List (Nat×D)) (Mb:List Hd) (PB:Bt):Prop:=∀ (k:Nat) key d m,K[k]? =some (key,d)->Mb[k]? =some m->PB key=some ⟨some m.b,1,m.s⟩
theorem Nam.cons {K:List (Nat×D)} {Mb:List Hd} {p:Nat×D} {m:Hd} {PB:Bt} (h:Nam (p::K) (m::Mb) PB):PB p.1=some ⟨some m.b,1,m.s⟩/\Nam K Mb PB :=
 ⟨h 0 p.1 p.2 m rfl rfl,λk key d m' h1 h2=>h (k+1) key d m' (by simpa using h1) (by simpa using h2)⟩
theorem Nam.append {K1 K2:List (Nat×D)} {M1 M2:List Hd} {PB:Bt} (hl:K1.length=M1.length) (h:Nam (K1++K2) (M1++M2) PB):Nam K1 M1 PB/\Nam K2 M2 PB:=by
 refine⟨λk key d m h1 h2=>h k key d m ?_ ?_,λk key d m h1 h2=>h (K1.length+k) key d m ?_ ?_⟩
 ·rw[aAH (aAA.1 h1).1];exact h1
 ·rw[aAH (aAA.1 h2).1];exact h2
 ·rw[aAI (by omega)];simpa using h1
 ·rw[aAI (by omega),show K1.length+k-M1.length=k by omega];exact h2
theorem Ini.nil {F:Fz} {w:World} {ptr:List (Nat×(Nat×Nat))}:Ini F w ptr [] [] [] []:=⟨rfl,rfl,rfl,λk key d m h=>by simp at h,λk k' m m' _ h=>by simp at h⟩
theorem Ini.cons {F:Fz} {w:World} {ptr:List (Nat×(Nat×Nat))} {O:List (Nat×Ac)} {keys:List Nat} {Mb:List Hd} {K:List (Nat×D)} (h:Ini F w ptr O keys Mb K) {j:Nat} {d:D} {m:Hd} (hp:look ptr j=some (m.s,m.ty)) (hd:EM F w m d) (hM:∀ m'∈Mb,XO m m') :
  Ini F w ptr ((8192+j,some (j,⟨false,true,m.s,m.ty,[d]⟩))::O) (j::keys) (m::Mb) ((j,d)::K):=by
 refine⟨by simp[h.len],by simp[h.keys],by simp[h.obj,ini],λk key d' m' h1 h2=>?_,λk k' m1 m2 hlt h1 h2=>?_⟩
 ·rcases k with _|k
  ·simp only[aAD,Option.some.injEq,Prod.mk.injEq]at h1 h2
   obtain⟨rfl,rfl⟩:=h1
   subst h2
   exact⟨hd,hp⟩
  ·simp only[aAK]at h1 h2
   exact h.ok k key d' m' h1 h2
 ·rcases k' with _|k'
  ·omega
  ·simp only[aAK]at h2
   rcases k with _|k
   ·simp only[aAD,Option.some.injEq]at h1
    subst h1
    exact hM m2 (aAF h2)
   ·simp only[aAK]at h1
    exact h.apart k k' m1 m2 (by omega) h1 h2
theorem Ini.append {F:Fz} {w:World} {ptr:List (Nat×(Nat×Nat))} {O1 O2:List (Nat×Ac)} {k1 k2:List Nat} {M1 M2:List Hd} {K1 K2:List (Nat×D)} (h1:Ini F w ptr O1 k1 M1 K1) (h2:Ini F w ptr O2 k2 M2 K2) (hM:∀ m∈M1,∀ m'∈M2,XO m m') :
  Ini F w ptr (O1++O2) (k1++k2) (M1++M2) (K1++K2):=by
 refine⟨by simp[h1.len,h2.len],by simp[h1.keys,h2.keys],by rw[h1.obj,h2.obj,List.zip_append h1.len,List.map_append],λk key d m q1 q2=>?_,λk k' m m' hlt q1 q2=>?_⟩
 ·by_cases hk:k<K1.length
  ·rw[aAH hk]at q1
   rw[aAH (by rw[<- h1.len];exact hk)]at q2
   exact h1.ok k key d m q1 q2
  ·rw[aAI (by omega)]at q1
   rw[aAI (by rw[<- h1.len];omega),<- h1.len]at q2
   exact h2.ok _ key d m q1 q2
 ·by_cases hk:k'<M1.length
  ·rw[aAH (by omega)]at q1
   rw[aAH hk]at q2
   exact h1.apart k k' m m' hlt q1 q2
  ·rw[aAI (by omega)]at q2
   by_cases hk2:k<M1.length
   ·rw[aAH hk2]at q1
    exact hM m (aAF q1) m' (aAF q2)
   ·rw[aAI (by omega)]at q1
    exact h2.apart _ _ m m' (by omega) q1 q2
theorem ME {F:Fz} {w:World} {ptr:List (Nat×(Nat×Nat))} {j:Nat} {ds:List D} {xs:List Value} {Mb:List Hd} (h:CV F w ptr j ds xs Mb) :
  ∃ K,Ini F w ptr (GL ptr j ds) (Ew ptr j ds) Mb K/\(DJ ptr j ds).length=xs.length/\∀ PB,Nam K Mb PB->∀ (q:Nat) d x,(DJ ptr j ds)[q]? =some d->xs[q]? =some x->Ref F PB d x:=by
 induction h with
 | nil j=>exact⟨[],Ini.nil,rfl,λPB _ q d x hq=>by simp[DJ]at hq⟩
 | val j d ds x xs M hp hx _ ih =>
  obtain⟨K,k1,k2,k3⟩:=ih
  refine⟨K,by simpa[GL,Ew,hp]using k1,by simp[DJ,k2],λPB hPB q d' x' hq hx'=>?_⟩
  simp only[DJ,hp]at hq
  rcases q with _|q
  ·simp only[aAD,Option.some.injEq]at hq hx'
   subst hq;subst hx'
   exact Ref.Af hx
  ·simp only[aAK]at hq hx'
   exact k3 PB hPB q d' x' hq hx'
 | ptr j d ds xs M m hp hd hM _ ih =>
  obtain⟨K,k1,k2,k3⟩:=ih
  refine⟨(j,d)::K,by simpa[GL,Ew,hp]using k1.cons hp hd hM,by simp[DJ,k2],λPB hPB q d' x' hq hx'=>?_⟩
  obtain⟨n1,n2⟩:=hPB.cons
  simp only[DJ,hp]at hq
  rcases q with _|q
  ·simp only[aAD,Option.some.injEq]at hq hx'
   subst hq;subst hx'
   exact⟨_,m.b,n1,rfl,by simp⟩
  ·simp only[aAK]at hq hx'
   exact k3 PB n2 q d' x' hq hx'
theorem MD {F:Fz} {w:World} {ptr:List (Nat×(Nat×Nat))} {j:Nat} {ds:List D} {xs:List Value} {Mb:List Hd} (h:BM F w ptr j ds xs Mb) :
  ∃ K,Ini F w ptr (CE ptr j ds) (BJ ptr j ds) Mb K/\∀ PB,Nam K Mb PB->∀ t d,look (Ds ptr j ds) t=some d->∃ x,j<=t/\xs[t-j]? =some x/\Env F PB d x:=by
 have tail:∀ {j:Nat} {d0:D} {ds:List D} {x0:Value} {xs:List Value} {PB:Bt},Env F PB (Gg ptr j d0) x0->(∀ t d,look (Ds ptr (j+1) ds) t=some d->∃ x,j+1<=t/\xs[t-(j+1)]? =some x/\Env F PB d x) ->
   ∀ t d,look (Ds ptr j (d0::ds)) t=some d->∃ x,j<=t/\(x0::xs)[t-j]? =some x/\Env F PB d x:=by
  intro j d0 ds x0 xs PB h0 hr t d ht
  simp only[Ds,look]at ht
  split at ht
  ·rename_i e
   cases ht
   subst e
   exact⟨x0,aAL _,by simp,h0⟩
  ·obtain⟨x',q1,q2,q3⟩:=hr t d ht
   refine⟨x',by omega,?_,q3⟩
   rw[show t-j=(t-(j+1))+1 by omega,aAK]
   exact q2
 induction h with
 | nil j=>exact⟨[],Ini.nil,λPB _ t d ht=>by simp[Ds,look]at ht⟩
 | val j d ds x xs M hp hn hx _ ih =>
  obtain⟨K,k1,k3⟩:=ih
  have hm:CE ptr j (d::ds)=CE ptr (j+1) ds/\BJ ptr j (d::ds)=BJ ptr (j+1) ds/\Gg ptr j d=d:=by
   cases d<;>first|exact(hn _ _ rfl).elim|(refine⟨?_,?_,?_⟩<;>simp[CE,BJ,Gg,hp])
  obtain⟨m1,m2,m3⟩:=hm
  rw[m1,m2]
  exact⟨K,k1,λPB hPB=>tail (by rw[m3];exact Env.Af hx) (k3 PB hPB)⟩
 | ptr j d ds xs M m hp hd hM _ ih =>
  obtain⟨K,k1,k3⟩:=ih
  refine⟨(j,d)::K,by simpa[CE,BJ,hp]using k1.cons hp hd hM,λPB hPB=>?_⟩
  obtain⟨n1,n2⟩:=hPB.cons
  exact tail (by simp only[Gg,hp];exact⟨_,m.b,n1,rfl,by simp⟩) (k3 PB n2)
 | clo j f caps vs ds xs M1 M2 hp hc hM _ ih =>
  obtain⟨K,k1,k3⟩:=ih
  obtain⟨K1,c1,c2,c3⟩:=ME hc
  refine⟨K1++K,by simpa[CE,BJ,hp]using c1.append k1 hM,λPB hPB=>?_⟩
  obtain⟨n1,n2⟩:=hPB.append c1.len
  exact tail (by simp only[Gg,hp];exact⟨vs,rfl,c2,c3 PB n1⟩) (k3 PB n2)
theorem MT {sp:Spec} {F:Fz} {w:World} {ds:List D} {xs:List Value} {Mb:List Hd} (hF:Fok F w) (hfin:∀ b i x,F b i=some x->b<w.heap.size) (h:BM F w sp.ptr 0 ds xs Mb) {k:Nat} (hN:xs.length+k=N)
  (hok:EW sp.ptr=true) (hkeys:BJ sp.ptr 0 ds=sp.ptr.map Prod.fst) :
  ∃ (PB:Bt) (K:List (Nat×D)),Sim N { w with drawn:=w.heap.size } F (Wr Mb) PB (DK sp ds) F PB { tmps:=xs.toArray++aAP k undef,defers:=[] } w/\(∀ v,262144<=v->PB v=none)/\Nam K Mb PB/\K.length=Mb.length/\K.map Prod.fst=sp.ptr.map Prod.fst /\
   ∀ (i:Nat) key d m,K[i]? =some (key,d)->Mb[i]? =some m->look sp.ptr key=some (m.s,m.ty):=by
 obtain⟨K,hI,hE⟩:=MD h
 simp only[EW,aAT,decide_eq_true_eq]at hok
 obtain⟨hlt,hnd⟩:=hok
 have hKn:(K.map Prod.fst).Nodup:=by rw[hI.keys,hkeys];exact hnd
 have hzl:(K.zip Mb).length=K.length:=by simp[hI.len]
 have huk:∀ (i i':Nat) key d d',K[i]? =some (key,d)->K[i']? =some (key,d')->i=i':=by
  intro i i' key d d' h1 h2
  have e1:(K.map Prod.fst)[i]? =some key:=by simp[h1]
  have e2:(K.map Prod.fst)[i']? =some key:=by simp[h2]
  have l1:=(aAA.1 e1).1
  exact(aAx l1 hKn).1 (e1.trans e2.symm)
 let PB:Bt:=λv=>((K.zip Mb).find? λp=>p.1.1==v).map λp=>⟨some p.2.b,1,p.2.s⟩
 have hPB:∀ v L,PB v=some L->∃ (i:Nat) (d:D) (m:Hd),K[i]? =some (v,d)/\Mb[i]? =some m/\L=⟨some m.b,1,m.s⟩:=by
  intro v L hv
  simp only[PB,aAE]at hv
  obtain⟨⟨⟨key,d⟩,m⟩,h1,rfl⟩:=hv
  have hk:=List.find?_some h1
  simp only[beq_iff_eq]at hk
  subst hk
  obtain⟨i,hi⟩:=aAY (List.mem_of_find?_eq_some h1)
  rw[aAj]at hi
  exact⟨i,d,m,hi.1,hi.2,rfl⟩
 have hnam:Nam K Mb PB:=by
  intro i key d m h1 h2
  have hm:((key,d),m)∈K.zip Mb:=aAF (i:=i) (by rw[aAj];exact⟨h1,h2⟩)
  cases hf:(K.zip Mb).find? λp=>p.1.1==key with
  | none =>
   have:=List.find?_eq_none.1 hf _ hm
   simp at this
  | some p =>
   have hv:PB key=some ⟨some p.2.b,1,p.2.s⟩:=by simp only[PB,hf];rfl
   obtain⟨i',d',m',q1,q2,q3⟩:=hPB key _ hv
   have:=huk i i' key d d' h1 q1
   subst this
   rw[h2]at q2;cases q2
   rw[hv,q3]
 have hgo:∀ g v o,(DK sp ds).go g=some (v,o)->∃ (i:Nat) (d:D) (m:Hd),K[i]? =some (v,d)/\Mb[i]? =some m/\g=8192+v/\o=⟨false,true,m.s,m.ty,[d]⟩:=by
  intro g v o hg
  simp only[S.go,DK]at hg
  cases hl:look (CE sp.ptr 0 ds) g with
  | none=>rw[hl]at hg;cases hg
  | some y =>
   rw[hl]at hg
   simp only[aAB]at hg
   subst hg
   have hm:=Bl hl
   rw[hI.obj,aAU]at hm
   obtain⟨⟨⟨key,d⟩,m⟩,h1,h2⟩:=hm
   obtain⟨i,hi⟩:=aAY h1
   rw[aAj]at hi
   simp only[ini,Prod.mk.injEq,Option.some.injEq]at h2
   obtain⟨rfl,rfl,rfl⟩:=h2
   exact⟨i,d,m,hi.1,hi.2,rfl,rfl⟩
 have hap:∀ (i i':Nat) m m' b,Mb[i]? =some m->Mb[i']? =some m'->m.own b->m'.own b->i=i':=by
  intro i i' m m' b h1 h2 h3 h4
  rcases Nat.lt_trichotomy i i' with hl|hl|hl
  ·exact(hI.apart i i' m m' hl h1 h2 b h3 h4).elim
  ·exact hl
  ·exact(hI.apart i' i m' m hl h2 h1 b h4 h3).elim
 refine⟨PB,K,?_,?_,hnam,hI.len,by rw[hI.keys,hkeys],λi key d m h1 h2=>(hI.ok i key d m h1 h2).2⟩
 ·refine{ nam:=Aw.refl _,size:=by simp[hN],defers:=rfl,env:=λt=>?_,own:=?_,dist:=?_,sep:=?_,Ab:=?_,frz:=hF,fin:=hfin,step:=⟨rfl,rfl,rfl,aAL _,λ_ _ _=>rfl,Ag.refl F,λ_ _ _ _=>rfl⟩ }
  ·simp only[S.ge,DK]
   cases hl:look (Ds sp.ptr 0 ds) t with
   | none=>exact Env.top _
   | some d =>
    obtain⟨x,_,q2,q3⟩:=hE PB hnam t d hl
    simp only[Nat.sub_zero]at q2
    have hlt:t<xs.length:=(aAA.1 q2).1
    have:(xs.toArray++aAP k undef).getD t undef=x:=by
     rw[aAb,aAt (by simpa using hlt)]
     simp[q2]
    simp only[aAB,this]
    exact q3
  ·intro g v o hg
   obtain⟨i,d,m,h1,h2,rfl,rfl⟩:=hgo g v o hg
   exact⟨_,hnam i v d m h1 h2,λe=>(by cases e),λ_=>(hI.ok i v d m h1 h2).1.var.QA (Ag.refl _) (Ie _) (λ_ _=>rfl)⟩
  ·intro g g' v v' o o' L L' b hg hg' _ _ hL hL' hb hb'
   obtain⟨i,d,m,h1,h2,rfl,_⟩:=hgo g v o hg
   obtain⟨i',d',m',h1',h2',rfl,_⟩:=hgo g' v' o' hg'
   rw[hnam i v d m h1 h2]at hL;cases hL;cases hb
   rw[hnam i' v' d' m' h1' h2']at hL';cases hL'
   have hbb:m'.b=m.b:=Option.some.inj hb'
   have:=hap i i' m m' m.b h2 h2' (.inl rfl) (.inl hbb.symm)
   subst this
   rw[h1]at h1';cases h1';rfl
  ·intro g v o L b hg _ hL hb
   obtain⟨i,d,m,h1,h2,rfl,rfl⟩:=hgo g v o hg
   rw[hnam i v d m h1 h2]at hL;cases hL;cases hb
   have hz:=(hI.ok i v d m h1 h2).1
   exact⟨hz.none_,hz.lt,.inr ⟨⟨m,aAF h2,.inl rfl⟩,by simp[Ab];omega⟩⟩
  ·refine⟨λg i j b=>∃ (q:Nat) (key:Nat) (d:D) (m:Hd),K[q]? =some (key,d)/\Mb[q]? =some m/\g=8192+key/\i=0/\m.φ j b,?_,?_,?_,?_,?_,?_,?_⟩
   ·intro g v o L b C i j e x s ty es _ hg _ hL hb hC he hj hx
    obtain⟨q,d,m,h1,h2,rfl,rfl⟩:=hgo g v o hg
    rw[hnam q v d m h1 h2]at hL;cases hL;cases hb
    rcases i with _|i
    ·simp only[aAD,Option.some.injEq]at he
     subst he
     exact((hI.ok q v d m h1 h2).1.row C j x s ty es hC hj (by simpa using hx)).QA (Ag.refl _) (λ_ _=>rfl) (λb hb=>⟨q,v,d,m,h1,h2,rfl,rfl,hb⟩)
    ·simp at he
   ·intro g v o L b C i j e x nm u n _ hg _ hL hb hC he hj hx
    obtain⟨q,d,m,h1,h2,rfl,rfl⟩:=hgo g v o hg
    rcases i with _|i
    ·simp only[aAD,Option.some.injEq]at he
     subst he
     exact((hI.ok q v d m h1 h2).1.hole j _ u n hj).elim
    ·simp at he
   ·rintro g i j b ⟨q,key,d,m,h1,h2,_,_,hb⟩
    exact(hI.ok q key d m h1 h2).1.fno j b hb
   ·rintro g i j b ⟨q,key,d,m,h1,h2,_,_,hb⟩
    exact(hI.ok q key d m h1 h2).1.flt j b hb
   ·rintro g i j b ⟨q,key,d,m,h1,h2,_,_,hb⟩
    exact .inr ⟨m,aAF h2,.inr ⟨j,hb⟩⟩
   ·rintro g i j b g' v' o' L' ⟨q,key,d,m,h1,h2,_,_,hb⟩ hg' _ hL' hLb
    obtain⟨q',d',m',h1',h2',rfl,rfl⟩:=hgo g' v' o' hg'
    rw[hnam q' v' d' m' h1' h2']at hL';cases hL'
    have hbb:m'.b=b:=Option.some.inj hLb
    have:=hap q q' m m' b h2 h2' (.inr ⟨j,hb⟩) (.inl hbb.symm)
    subst this
    rw[h2]at h2';cases h2'
    exact(hI.ok q key d m h1 h2).1.fne j b hb hbb.symm
   ·rintro g i j g' i' j' b ⟨q,key,d,m,h1,h2,rfl,rfl,hb⟩ ⟨q',key',d',m',h1',h2',rfl,rfl,hb'⟩
    have:=hap q q' m m' b h2 h2' (.inr ⟨j,hb⟩) (.inr ⟨j',hb'⟩)
    subst this
    rw[h1]at h1';cases h1'
    rw[h2]at h2';cases h2'
    exact⟨rfl,rfl,(hI.ok q key d m h1 h2).1.dis j j' b hb hb'⟩
 ·intro v hv
  cases hh:PB v with
  | none=>rfl
  | some L =>
   obtain⟨i,d,m,h1,_⟩:=hPB v L hh
   have hm:v∈sp.ptr.map Prod.fst:=by
    rw[<- hkeys,<- hI.keys]
    exact aAU.2 ⟨_,aAF h1,rfl⟩
   have:=aAR.1 hlt v hm
   simp only[Nat.blt_eq]at this
   omega
section
variable {w0:World} {F0:Fz} {M:Nat->Prop} {B0:Bt} {σ:S} {F:Fz} {β:Bt} {a:Act} {w:World}
theorem Ka (h:Sim N w0 F0 M B0 σ F β a w):∀ (ptr:List (Nat×(Nat×Nat))) (Ms:List Hd),ptr.length=Ms.length->(∀ (k:Nat) key s ty m,ptr[k]? =some (key,(s,ty))->Ms[k]? =some m->s=m.s/\ty=m.ty/\β key=some ⟨some m.b,1,m.s⟩)->((BN ptr).run σ).1 ->
  Aq σ ((BN ptr).run σ).2.2/\(∀ (k:Nat) key s ty m,ptr[k]? =some (key,(s,ty))->Ms[k]? =some m->∃ o,σ.go (8192+key)=some (key,o)/\o.fz=false/\o.var=true) /\
   ∀ (ws:List (Nat×Ac)) F' φ,Aq σ ws->(∀ p∈((BN ptr).run σ).2.2,p∈ws)->Ag F F'->Sim N w0 F0 M B0 ⟨σ.e,ws++σ.o,σ.n⟩ F' β a w->AE F' β w0.heap.size M ⟨σ.e,ws++σ.o,σ.n⟩ w φ ->
    ∀ (k:Nat) key s ty m,ptr[k]? =some (key,(s,ty))->Ms[k]? =some m->EM F' w ⟨m.b,m.s,m.ty,φ (8192+key) 0⟩ (((BN ptr).run σ).2.1.getD k .top)/\∃ o,(S.mk σ.e (ws++σ.o) σ.n).go (8192+key)=some (key,o)/\o.fz=false
 | [],_,_,_,_=>⟨Aq.nil σ,λk key s ty m hk=>by simp at hk,λ_ _ _ _ _ _ _ _ k key s ty m hk=>by simp at hk⟩
 | _::_,[],hl,_,_=>by simp at hl
 | (j,(s,ty))::ptr,m::Ms,hl,hB,hc=>by
  simp only[BN,R.run_bind,R.run_pure]at hc ⊢
  obtain⟨c1,c2⟩:=hc
  obtain⟨rfl,rfl,hβ⟩:=hB 0 j s ty m rfl rfl
  obtain⟨f1,o,g1,g2,g3,r1⟩:=Og h hβ rfl ⟨rfl,rfl⟩ c1
  obtain⟨f2,g4,r2⟩:=Ka h ptr Ms (by simpa using hl) (λk key s ty m' h1 h2=>hB (k+1) key s ty m' (by simpa using h1) (by simpa using h2)) c2
  refine⟨f1.append f2,λk key s ty m' h1 h2=>?_,λws F' φ q1 q2 q3 q4 q5 k key s ty m' h1 h2=>?_⟩
  ·rcases k with _|k
   ·simp only[aAD,Option.some.injEq,Prod.mk.injEq]at h1
    obtain⟨rfl,_⟩:=h1
    exact⟨o,g1,g2,g3⟩
   ·simp only[aAK]at h1 h2
    exact g4 k key s ty m' h1 h2
  ·rcases k with _|k
   ·simp only[aAD,Option.some.injEq,Prod.mk.injEq]at h1 h2
    obtain⟨rfl,_⟩:=h1
    subst h2
    obtain⟨z1,z2⟩:=r1 ws F' φ q1 (λp hp=>q2 p (by simp[hp])) q3 q4 q5
    exact⟨by simpa using z1,o,z2,g2⟩
   ·simp only[aAK]at h1 h2
    have:=r2 ws F' φ q1 (λp hp=>q2 p (by simp[hp])) q3 q4 q5 k key s ty m' h1 h2
    simpa using this
end
theorem Hf {α:Type} {l:List α} {q i:Nat} {x:α} (h:(l.take q)[i]? =some x):l[i]? =some x:=by
 rw[aAr]at h
 split at h
 ·exact h
 ·cases h
theorem JY (ptr:List (Nat×(Nat×Nat))):∀ (j:Nat) (ds:List D),∀ p∈GL ptr j ds,∀ v o,p.2=some (v,o)->o.fz=false
 | _,[],p,hp=>by cases hp
 | j,d::r,p,hp=>by
  unfold GL at hp
  rcases aAZ.1 hp with hp|hp
  ·intro v o e
   split at hp
   ·simp only[aAQ]at hp;subst hp;cases e;rfl
   ·cases hp
  ·exact JY ptr (j+1) r p hp
theorem Jm (ptr:List (Nat×(Nat×Nat))):∀ (j:Nat) (ds:List D),∀ p∈CE ptr j ds,∀ v o,p.2=some (v,o)->o.fz=false
 | _,[],p,hp=>by cases hp
 | j,d::r,p,hp=>by
  unfold CE at hp
  rcases aAZ.1 hp with hp|hp
  ·intro v o e
   split at hp
   ·simp only[aAQ]at hp;subst hp;cases e;rfl
   ·split at hp
    ·exact JY ptr _ _ p hp v o e
    ·cases hp
  ·exact Jm ptr (j+1) r p hp
theorem Lc {sp:Spec} {ds:List D} {PB:Bt} {F:Fz} {w:World} {a:Act} {M:Nat->Prop} {B0:Bt} {F0:Fz} {w0:World} (h:Sim N w0 F0 M B0 (DK sp ds) F PB a w):∀ g v o,(DK sp ds).go g=some (v,o)->o.s≠0:=by
 intro g v o hg
 refine h.HA hg ?_
 have hl:look (DK sp ds).o g=some (some (v,o)):=by
  unfold S.go at hg
  cases hx:look (DK sp ds).o g with
  | none=>rw[hx]at hg;cases hg
  | some x=>rw[hx]at hg;simp only[aAB]at hg;rw[hg]
 exact Jm sp.ptr 0 ds _ (Bl hl) v o rfl
theorem OD {Γ:Ar} (hΓ:∀ k sp,Γ k=some sp->Qi P (k % 4096) sp) {f:Nat} {fn:Func} {c:Code} {sp:Spec} {dc:Ru} {rs:List Be} (hf:P.funcs[f]? =some fn) (hname:(fn.name == "runtime.NumGoroutine")=false) (hb:fn.body=some c)
  (hc:SE P fn.ntmps c=some dc) (hr:fn.results.toList.mapM (Wp P)=some rs) {np:Nat} (hnp:np<=fn.ntmps) (hpre:∀ ds,sp.pre ds->ds.length=np/\BJ sp.ptr 0 ds=sp.ptr.map Prod.fst) (hptr:EW sp.ptr=true) (hok:Nc Γ sp np rs dc) (hni:Cc sp.kind=none) (hno:Ej sp.kind=none:=by rfl):Qi P f sp:=by
 intro F00 hG0
 refine⟨⟨fn,hf,hname,by rw[hb];rfl⟩,(λq hq=>by rw[hni]at hq;cases hq),λ_ _ w F ds xs Mb hsub0 hF hfin hA hp=>?_,(λφ hφ=>by rw[hno]at hφ;cases hφ),hG0⟩
 have hΓ:∀ k sp,Γ k=some sp->Bv P F (k % 4096) sp:=λk sp h=>hΓ k sp h F (hG0.mono hsub0)
 have hlen:ds.length=xs.length:=by
  clear hp
  generalize 0=j at hA
  induction hA with
  | nil=>rfl
  | val _ _ _ _ _ _ _ _ _ _ ih=>simp[ih]
  | ptr _ _ _ _ _ _ _ _ _ _ ih=>simp[ih]
  | clo _ _ _ _ _ _ _ _ _ _ _ _ ih=>simp[ih]
 obtain⟨hdl,hkeys⟩:=hpre ds hp
 obtain⟨PB,K,hS,hfresh,hnam,hKl,hKf,hKp⟩:=MT (N:=fn.ntmps) (k:=fn.ntmps-xs.length) hF hfin hA (by omega) hptr hkeys
 refine calls_of_wp hf hb ?_
 have e0:(xs.toArray.size)=xs.length:=by simp
 rw[e0]
 obtain⟨τ0,hchg0,hok0⟩:=hok ds hp ⟨hdl,hkeys⟩
 obtain⟨F00,B00,hS0,hfresh0⟩:=(Az.of hS (aAL _) (Lc hS)).chg hfresh hchg0
 refine wp_mono (BT hΓ c dc hc _ τ0 F00 B00 _ w hS0 hfresh0 hok0) λe a' w' hq=>?_
 obtain⟨τ1,F1,β1,k1',kf1,k3⟩:=hq
 replace k1':=k1'.sim
 have fin0:∀ τ F' β',Sim fn.ntmps { w with drawn:=w.heap.size } F (Wr Mb) PB τ F' β' a' w'->Cl sp rs ds τ->(a'.defers=[]/\∃ v,(results fn a'.tmps).run P w'= .ok v w'/\Df sp w F ds Mb (.returned v) w'):=by
  intro τ F' β' k1
  rintro⟨r1,r2,r3⟩
  have hpl:sp.ptr.length=Mb.length:=by
   have:=congrArg List.length hKf
   simpa[hKl]using this.symm
  have hnd:(sp.ptr.map Prod.fst).Nodup:=by
   simp only[EW,aAT,decide_eq_true_eq]at hptr
   exact hptr.2
  have hBk:∀ (k:Nat) key s ty m,sp.ptr[k]? =some (key,(s,ty))->Mb[k]? =some m->s=m.s/\ty=m.ty/\β' key=some ⟨some m.b,1,m.s⟩:=by
   intro k key s ty m h1 h2
   have hkl:k<K.length:=by rw[hKl];exact(aAA.1 h2).1
   obtain⟨⟨key',d⟩,hK⟩:∃ p,K[k]? =some p:=⟨_,aAC hkl⟩
   have e1:(K.map Prod.fst)[k]? =some key':=by simp[hK]
   have e2:(sp.ptr.map Prod.fst)[k]? =some key:=by simp[h1]
   rw[hKf,e2]at e1
   cases e1
   have hl:=hKp k key d m hK h2
   have hl2:look sp.ptr key=some (s,ty):=by
    cases hq:look sp.ptr key with
    | none=>exact absurd (aAF h1) (Ei hq _)
    | some y =>
     have hm:=Bl hq
     obtain⟨k',hk'⟩:=aAY hm
     have e3:(sp.ptr.map Prod.fst)[k']? =some key:=by simp[hk']
     have:=(aAx (aAA.1 e2).1 hnd).1 (e2.trans e3.symm)
     subst this
     rw[h1]at hk';cases hk';rfl
   rw[hl2]at hl
   cases hl
   exact⟨rfl,rfl,k1.nam _ _ (hnam k key d m hK h2)⟩
  obtain⟨fe,ge,be⟩:=Ka k1 sp.ptr Mb hpl hBk r1
  have ending:∀ (ws:List (Nat×Ac)) (v:Value) (ρ:Nat->Prop),Aq τ ws->(∀ p∈((BN sp.ptr).run τ).2.2,p∈ws)->(∀ F2 φ,Ag F' F2->Sim fn.ntmps { w with drawn:=w.heap.size } F (Wr Mb) PB ⟨τ.e,ws++τ.o,τ.n⟩ F2 β' a' w'->AE F2 β' w.heap.size (Wr Mb) ⟨τ.e,ws++τ.o,τ.n⟩ w' φ->Nf w F2 w' (sp.res ds) v (λb=>ρ b\/(Mb=[]/\∃ g i j,φ g i j b)) sp.kind/\(Mb≠[]->∀ g j b,φ g 0 j b->¬ ρ b)) ->
    Df sp w F ds Mb (.returned v) w':=by
   intro ws v ρ hws hsub hres
   obtain⟨F2,hF2,hS2,_⟩:=k1.freeze hws
   obtain⟨φ,hφ⟩:=hS2.Ab
   obtain⟨q1,q2⟩:=hres F2 φ hF2 hS2 hφ
   have hbe:=be ws F2 φ hws hsub hF2 hS2 hφ
   have hpk:∀ (k:Nat) m,Mb[k]? =some m->∃ key s ty,sp.ptr[k]? =some (key,(s,ty)):=by
    intro k m hk
    have hlt:k<sp.ptr.length:=by rw[hpl];exact(aAA.1 hk).1
    exact⟨_,_,_,aAC hlt⟩
   refine⟨v,F2,λk j b=>∃ key st m,sp.ptr[k]? =some (key,st)/\Mb[k]? =some m/\φ (8192+key) 0 j b,_,rfl,hS2.frz,hS2.fin,⟨hS2.step.os,hS2.step.tape,hS2.step.output,hS2.step.size,hS2.step.block,hS2.step.sub,hS2.step.old⟩,q1,?_,?_⟩
   ·rw[<- r2]
    refine⟨λk m hk=>?_,λk j b ⟨key,st,m,h1,h2,_⟩=>(aAA.1 h2).1,λk j b ⟨key,st,m,h1,h2,h3⟩=>hφ.new _ _ _ _ h3,λk j k' j' b ⟨key,st,m,h1,h2,h3⟩ ⟨key',st',m',h1',h2',h3'⟩=>?_,λk j b m ⟨key,st,m1,h1,h2,h3⟩ hm e=>?_⟩
    ·obtain⟨key,s,ty,hp⟩:=hpk k m hk
     have hz:=(hbe k key s ty m hp hk).1
     refine⟨hz.var,hz.none_,hz.lt,?_,?_,?_,?_,?_,hz.hole⟩
     ·rintro j b ⟨key',st,m',h1,h2,h3⟩
      rw[hp]at h1;cases h1
      exact hz.fno j b h3
     ·rintro j b ⟨key',st,m',h1,h2,h3⟩
      rw[hp]at h1;cases h1
      exact hz.flt j b h3
     ·rintro j b ⟨key',st,m',h1,h2,h3⟩
      rw[hp]at h1;cases h1
      exact hz.fne j b h3
     ·rintro j j' b ⟨key',st,m',h1,h2,h3⟩ ⟨key'',st',m'',h1',h2',h3'⟩
      rw[hp]at h1;cases h1
      rw[hp]at h1';cases h1'
      exact hz.dis j j' b h3 h3'
     ·intro C j x s' ty' es hC hj hx
      exact(hz.row C j x s' ty' es hC hj hx).QA (Ag.refl _) (λ_ _=>rfl) (λb hb=>⟨key,(s,ty),m,hp,hk,hb⟩)
    ·have hkk:=(hφ.dis _ _ _ _ _ _ _ h3 h3').1
     have:key=key':=by omega
     subst this
     have e2:(sp.ptr.map Prod.fst)[k]? =some key:=by simp[h1]
     have e3:(sp.ptr.map Prod.fst)[k']? =some key:=by simp[h1']
     exact(aAx (aAA.1 e2).1 hnd).1 (e2.trans e3.symm)
    ·obtain⟨k',hk'⟩:=aAY hm
     obtain⟨key',s',ty',hp'⟩:=hpk k' m hk'
     obtain⟨_,o',z1,z2⟩:=hbe k' key' s' ty' m hp' hk'
     obtain⟨_,_,hβ⟩:=hBk k' key' s' ty' m hp' hk'
     subst e
     exact hφ.sep _ _ _ _ _ _ _ _ h3 z1 z2 hβ rfl
   ·rintro k j b ⟨key,st,m,h1,h2,h3⟩ (hρ|⟨hM0,_⟩)
    ·exact q2 (λe=>by rw[e]at h2;simp at h2) _ _ _ h3 hρ
    ·rw[hM0]at h2;simp at h2
  refine⟨k1.defers,?_⟩
  have one:(sp.kind= .val\/sp.kind= .ground)->∀ r,rs=[r]->((Er r).run τ).1->((Er r).run τ).2.1=sp.res ds->∃ v,(results fn a'.tmps).run P w'= .ok v w'/\Df sp w F ds Mb (.returned v) w':=by
   rintro hk r rfl c1 c2
   simp only[Er,R.run_bind,R.run_pure]at c1 c2
   obtain⟨d1,d2⟩:=c1
   obtain⟨vs,v1,v2,v3⟩:=BX (P:=P) k1 hr (λr' hr'=>by simp only[aAQ]at hr';subst hr';exact d1)
   have hl1:vs.length=1:=v2
   rw[dif_pos hl1]at v1
   refine⟨_,v1,?_⟩
   have hval:=v3 0 r vs[0] rfl (aAC (by omega))
   obtain⟨f1,g1⟩:=FK k1 _ hval d2
   refine ending (((res ((QB r).run τ).2).run τ).2.2++((BN sp.ptr).run τ).2.2) _ (λ_=>False) (f1.append fe) (λp hp=>by simp[hp]) (λF2 φ hF2 hS2 _=>⟨?_,λ_ _ _ _ _=>id⟩)
   have:=g1 _ F2 (f1.append fe) (λp hp=>by simp[hp]) hF2 hS2
   rw[c2]at this
   rcases hk with hk|hk<;>(rw[hk];exact this)
  have many:(sp.kind= .val\/sp.kind= .ground)->((AG rs).run τ).1-> .tup ((AG rs).run τ).2.1=sp.res ds->rs.length≠1->∃ v,(results fn a'.tmps).run P w'= .ok v w'/\Df sp w F ds Mb (.returned v) w':=by
   intro hk c1 c2 c3
   obtain⟨vs,v1,v2,v3⟩:=BX (P:=P) k1 hr (Dx rs c1)
   have hl1:¬ vs.length=1:=by rw[v2];exact c3
   rw[dif_neg hl1]at v1
   refine⟨_,v1,?_⟩
   obtain⟨f1,l1,g1⟩:=EY k1 rs vs v2.symm (λi r v h1 h2 _=>v3 i r v h1 h2) c1
   refine ending (((AG rs).run τ).2.2++((BN sp.ptr).run τ).2.2) _ (λ_=>False) (f1.append fe) (λp hp=>by simp[hp]) (λF2 φ hF2 hS2 _=>⟨?_,λ_ _ _ _ _=>id⟩)
   have hh:=g1 _ F2 (f1.append fe) (λp hp=>by simp[hp]) hF2 hS2
   have:Fro F2 (sp.res ds) (.tuple vs.toArray):=by
    rw[<- c2]
    exact .tup _ vs l1 hh
   rcases hk with hk|hk<;>(rw[hk];exact this)
  cases hk:sp.kind with
  | inpl r fl fk=>rw[hk]at hni;cases hni
  | opn q=>rw[hk]at hno;cases hno
  | val =>
   rw[hk]at r3
   match rs,r3,one,many with
   | [r],r3,one,_=>exact one (.inl hk) r rfl r3.1 r3.2
   | [],r3,_,many=>exact many (.inl hk) r3.1 r3.2.1 r3.2.2
   | _::_::_,r3,_,many=>exact many (.inl hk) r3.1 r3.2.1 r3.2.2
  | ground =>
   rw[hk]at r3
   match rs,r3,one,many with
   | [r],r3,one,_=>exact one (.inr hk) r rfl r3.1 r3.2
   | [],r3,_,many=>exact many (.inr hk) r3.1 r3.2.1 r3.2.2
   | _::_::_,r3,_,many=>exact many (.inr hk) r3.1 r3.2.1 r3.2.2
  | row s ty =>
   rw[hk]at r3
   match rs,r3,hr with
   | [r],⟨d1,d2,d3,d4⟩,hr =>
    obtain⟨vs,v1,v2,v3⟩:=BX (P:=P) k1 hr (λr' hr'=>by simp only[aAQ]at hr';subst hr';exact d1)
    have hl1:vs.length=1:=v2
    rw[dif_pos hl1]at v1
    refine⟨_,v1,?_⟩
    have hval:=v3 0 r vs[0] rfl (aAC (by omega))
    obtain⟨es,L,g,v,o,g1,g2,n1,n2,n3,n4,n5,n6,n7,g3⟩:=Ks k1 (aAL _) hval d2
    refine ending _ _ (λb=>L.b=some b) fe (λp hp=>hp) (λF2 φ hF2 hS2 hφ=>?_)
    obtain⟨g4,g6,g5⟩:=g3 _ F2 d4 hF2 hS2
    rw[hk]
    refine⟨⟨es,L,d3.symm.trans g1,g2,g4,λb hb=>⟨((g5 b hb).1).resolve_right (λz=>by cases z.1),(g5 b hb).2.1,(g5 b hb).2.2,.inl hb⟩⟩,λ_ g' j b hb hLb=>?_⟩
    exact hφ.sep g' 0 j b g v o L hb g6 n2 n5 hLb
   | [],r3,_=>exact r3.elim
   | _::_::_,r3,_=>exact r3.elim
  | mat s ty =>
   rw[hk]at r3
   match rs,r3,hr with
   | [r],⟨d1,d2,d3,d4⟩,hr =>
    obtain⟨vs,v1,v2,v3⟩:=BX (P:=P) k1 hr (λr' hr'=>by simp only[aAQ]at hr';subst hr';exact d1)
    have hl1:vs.length=1:=v2
    rw[dif_pos hl1]at v1
    refine⟨_,v1,?_⟩
    have hval:=v3 0 r vs[0] rfl (aAC (by omega))
    have hM0:Mb=[]:=CW d4 hA
    have hpe:(BN sp.ptr).run τ=(True,[],[]):=by rw[d4];rfl
    obtain⟨es,L,g,v,o,g1,g2,n1,n2,n3,n4,n5,⟨n0,rfl⟩,n7,g3⟩:=Ks k1 (aAL _) hval d2
    refine ending [] _ (λb=>L.b=some b) (Aq.nil _) (λp hp=>by rw[hpe]at hp;cases hp) (λF2 φ hF2 hS2 hφ=>?_)
    obtain⟨g4,g6,g5⟩:=g3 [] F2 (by simp) hF2 hS2
    have hidx:∀ (i:Nat) e,(o.es.take n0)[i]? =some e->o.es[i]? =some e:=λi e he=>Hf he
    have hnew:∀ b,w.heap.size<=b\/Wr Mb b->w.heap.size<=b:=by
     rintro b (hb|⟨m,hm,_⟩)
     ·exact hb
     ·rw[hM0]at hm;cases hm
    rw[hk]
    refine⟨⟨_,L,λi j b=>φ g i j b,d3.symm.trans g1,g2,g4,λb hb=>⟨hnew b ((g5 b hb).1.imp id And.right),(g5 b hb).2.1,(g5 b hb).2.2,.inl hb⟩,λi j b hb=>⟨hnew b (hφ.new _ _ _ _ hb),hφ.lt _ _ _ _ hb,hφ.none_ _ _ _ _ hb,.inr ⟨hM0,g,i,j,hb⟩,hφ.sep g i j b g v o L hb g6 n2 n5⟩,
     λi j i' j' b h1 h2=>(hφ.dis _ _ _ _ _ _ _ h1 h2).2,λb C i j e x s' ty' es' hb hC he hj hx=>hφ.row g v o L b C i j e x s' ty' es' n1 g6 n2 n5 hb (by rw[n4];exact hC) (hidx i e he) hj (by rw[n3];exact hx),λi j e nm u n he hj=>n7 rfl e (aAF (hidx i e he)) _ (aAF hj) nm u n rfl⟩,λhne=>absurd hM0 hne⟩
   | [],r3,_=>exact r3.elim
   | _::_::_,r3,_=>exact r3.elim
  | ptr s ty =>
   rw[hk]at r3
   match rs,r3,hr with
   | [r],⟨d1,d2,d3,d4⟩,hr =>
    obtain⟨vs,v1,v2,v3⟩:=BX (P:=P) k1 hr (λr' hr'=>by simp only[aAQ]at hr';subst hr';exact d1)
    have hl1:vs.length=1:=v2
    rw[dif_pos hl1]at v1
    refine⟨_,v1,?_⟩
    have hval:=v3 0 r vs[0] rfl (aAC (by omega))
    obtain⟨f1,g,v,o,b,g1,g2,g3,g4,g5,g6,g7⟩:=Kr k1 (aAL _) hval d2
    refine ending (((Cg s ty ((QB r).run τ).2).run τ).2.2.1++((BN sp.ptr).run τ).2.2) _ (λb'=>b'=b) (f1.append fe) (λp hp=>by simp[hp]) (λF2 φ hF2 hS2 hφ=>?_)
    obtain⟨z1,z2,z3,z4,v',o',z5,z6,z7⟩:=g7 _ F2 (f1.append fe) (λp hp=>by simp[hp]) hF2 hS2
    rw[hk]
    refine⟨⟨b,g6,by rw[<- d3];exact z1,z4.resolve_right (λz=>by rw[g1]at d4;rw[d4]at z;cases z.2),z3,z2,.inl rfl⟩,λ_ g' j b' hb e=>?_⟩
    subst e
    exact hφ.sep g' 0 j _ g v' o' _ hb z5 z6 z7 rfl
   | [],r3,_=>exact r3.elim
   | _::_::_,r3,_=>exact r3.elim
  | tupPtr q s ty =>
   rw[hk]at r3
   have r3':q<rs.length/\rs.length≠1/\sp.ptr=[]/\((AG (rs.take q)).run τ).1/\((AG (rs.drop (q+1))).run τ).1/\((QB (rs.getD q (.t 0))).run τ).1/\((Cg s ty ((QB (rs.getD q (.t 0))).run τ).2).run τ).1 /\
     .tup (((AG (rs.take q)).run τ).2.1++((Cg s ty ((QB (rs.getD q (.t 0))).run τ).2).run τ).2.1::((AG (rs.drop (q+1))).run τ).2.1)=sp.res ds:=by
    cases rs with
    | nil=>exact r3
    | cons r0 rs=>cases rs<;>exact r3
   obtain⟨t1,t2,t3,t4,t5,t6,t7,t8⟩:=r3'
   have hq:rs[q]? =some (rs.getD q (.t 0)):=by simp[t1]
   generalize rs.getD q (.t 0)=rq at *
   have hsplit:rs=rs.take q++rq::rs.drop (q+1):=by
    obtain⟨hl,he⟩:=aAA.1 hq
    rw[<- he,<- List.drop_eq_getElem_cons hl,aAg]
   have conds:∀ r∈rs,((QB r).run τ).1:=by
    intro r hr'
    rw[hsplit,aAZ,aAu]at hr'
    rcases hr' with h1|rfl|h1
    ·exact Dx _ t4 r h1
    ·exact t6
    ·exact Dx _ t5 r h1
   obtain⟨vs,v1,v2,v3⟩:=BX (P:=P) k1 hr conds
   rw[dif_neg (by rw[v2];exact t2)]at v1
   refine⟨_,v1,?_⟩
   have hvl:q<vs.length:=by omega
   have hvq:vs[q]? =some vs[q]:=aAC hvl
   obtain⟨fP,g,v,o,b,g1,g2,g3,g4,g5,g6,g7⟩:=Kr k1 (aAL _) (v3 q rq vs[q] hq hvq) t7
   obtain⟨fA,lA,gA⟩:=EY k1 (rs.take q) (vs.take q) (by simp[v2]) (λi r v h1 h2 _=>v3 i r v (Hf h1) (Hf h2)) t4
   obtain⟨fB,lB,gB⟩:=EY k1 (rs.drop (q+1)) (vs.drop (q+1)) (by simp[v2]) (λi r v h1 h2 _=>v3 (q+1+i) r v (by rw[<- aAs];exact h1) (by rw[<- aAs];exact h2)) t5
   refine ending (((AG (rs.take q)).run τ).2.2++(((Cg s ty ((QB rq).run τ).2).run τ).2.2.1++(((AG (rs.drop (q+1))).run τ).2.2++((BN sp.ptr).run τ).2.2))) _ (λb'=>b'=b) (fA.append (fP.append (fB.append fe))) (λp hp=>by simp[hp]) (λF2 φ hF2 hS2 _=>⟨?_,λhne=>absurd (CW t3 hA) hne⟩)
   have hws:=fA.append (fP.append (fB.append fe))
   obtain⟨z1,z2,z3,z4⟩:=g7 _ F2 hws (λp hp=>by simp[hp]) hF2 hS2
   have zA:=gA _ F2 hws (λp hp=>by simp[hp]) hF2 hS2
   have zB:=gB _ F2 hws (λp hp=>by simp[hp]) hF2 hS2
   have lA':((AG (rs.take q)).run τ).2.1.length=q:=by rw[lA];simp;omega
   rw[hk]
   refine⟨_,vs,b,t8.symm,rfl,?_,?_,?_,?_,?_,z3,z2,.inl rfl⟩
   ·simp only[List.length_append,aB,lA',lB,List.length_drop];omega
   ·intro j c x hj hc hx
    rcases Nat.lt_trichotomy j q with h1|h1|h1
    ·rw[aAH (by omega)]at hc
     exact zA j c x hc (by rw[aAr];simp[h1,hx])
    ·exact absurd h1 hj
    ·obtain⟨i,rfl⟩:∃ i,j=q+1+i:=⟨j-(q+1),by omega⟩
     rw[aAI (by omega),lA',show q+1+i-q=i+1 by omega,aAK]at hc
     exact zB i c x hc (by rw[aAs];exact hx)
   ·rw[hvq,g6]
   ·rw[aAd,aAI (by omega),lA',Nat.sub_self]
    exact z1
   ·rcases z4.1 with z4|⟨⟨m,hm,_⟩,_⟩
    ·exact z4
    ·rw[CW t3 hA]at hm;cases hm
 have fin:Wk (Cl sp rs ds) τ1->(a'.defers=[]/\∃ v,(results fn a'.tmps).run P w'= .ok v w'/\Df sp w F ds Mb (.returned v) w'):=by
  rintro⟨τ,hc1,hr1⟩
  obtain⟨F',β',k1,_⟩:=k1'.chg kf1 hc1
  exact fin0 τ F' β' k1 hr1
 cases e with
 | normal=>exact fin k3
 | ret=>exact fin k3
 | exit id=>exact k3.elim
 | goto l=>exact k3.elim
 | panic ch=>exact k3.elim
 | outgrown=>exact k3.elim
end
theorem NX {P:Program} {Γ:Ar} (hΓ:∀ k sp,Γ k=some sp->Qi P (k % 4096) sp) {f:Nat} {fn:Func} {sp:Spec} {dc:Ru} {rs:List Be} (hf:P.funcs[f]? =some fn) (hname:(fn.name == "runtime.NumGoroutine")=false)
  (hc:(fn.body.bind (SE P fn.ntmps))=some dc) (hr:fn.results.toList.mapM (Wp P)=some rs) {np:Nat} (hnp:np<=fn.ntmps) (hpre:∀ ds,sp.pre ds->ds.length=np/\BJ sp.ptr 0 ds=sp.ptr.map Prod.fst) (hptr:EW sp.ptr=true) (hok:Nc Γ sp np rs dc) (hni:Cc sp.kind=none) (hno:Ej sp.kind=none:=by rfl):Qi P f sp:=by
 rw[aA]at hc
 obtain⟨c,hb,hc⟩:=hc
 exact OD hΓ hf hname hb hc hr hnp hpre hptr hok hni hno
def specs (l:List (Nat×Spec)):Ar:=λk=>look l k
theorem Qw {P:Program} {l:List (Nat×Spec)} (h:∀ p∈l,Qi P (p.1 % 4096) p.2):∀ k sp,specs l k=some sp->Qi P (k % 4096) sp:=λ_k _sp hk=>h _ (Bl hk)
theorem RE {P:Program}:∀ k sp,specs [] k=some sp->Qi P (k % 4096) sp:=Qw (λ_ h=>by cases h)
theorem AdR {n:Int} (h0: -9223372036854775808<=n) (h1:n<=9223372036854775807):IntKind.i64.wrap n=n:=by
 rw[IntKind.wrap_i64];omega
def Em:Nat->List D->List (Nat×D)
 | _,[]=>[]
 | j,d::r=>(j,d)::Em (j+1) r
theorem Iz:∀ (ds:List D) (j t:Nat),look (Em j ds) t=if j<=t then ds[t-j]? else none
 | [],j,t=>by simp[Em,look]
 | d::r,j,t=>by
  simp only[Em,look,Iz r (j+1) t]
  by_cases h:t=j
  ·subst h;simp
  ·rw[if_neg h]
   by_cases h2:j+1<=t
   ·rw[if_pos h2,if_pos (by omega),show t-j=(t-(j+1))+1 by omega,aAK]
   ·rw[if_neg h2,if_neg (by omega)]
def YM:D->Bool
 | .agg _| .tup _| .when ..=>false
 | _=>true
def Rs (rs:List Be) (τ:S):Prop×D :=
 match rs with
 | [r]=>(((QB r).run τ).1,((QB r).run τ).2)
 | rs=>((∀ r∈rs,((QB r).run τ).1)/\(rs.map λr=>((QB r).run τ).2).all YM=true,.tup (rs.map λr=>((QB r).run τ).2))
def Js (rs:List Be) (e:List (Nat×D)) (K:D->S->Prop):Ax->S->Prop:=λx τ =>
 match x with
 | .exit _=>False
 | _=>Wk (λτ=>(Rs rs τ).1/\K (Rs rs τ).2 ⟨e,τ.o,τ.n⟩) τ
def ML (Γ:Ar) (np:Nat) (rs:List Be) (dc:Ru):List D->S->(D->S->Prop)->Prop:=λds σ K =>
 ds.length=np/\Wk (DWp Γ dc (Js rs σ.e K)) ⟨Em 0 ds,σ.o,σ.n⟩
def Abg (Γ:Ar) (np:Nat) (rs:List Be) (dc:Ru):Spec:=⟨[],.opn (ML Γ np rs dc),λ_=>False,λ_=>.top,λ_=>[]⟩
theorem Nb {F:Fz} {β:Bt} {d:D} {x:Value} (h:Val F β d x) (ht:YM d=true):Cel F β d x:=by
 cases d<;>first|exact h|cases ht
theorem Adb {P:Program} {Γ:Ar} (hΓ:∀ k sp,Γ k=some sp->Qi P (k % 4096) sp) {f:Nat} {fn:Func} {dc:Ru} {rs:List Be} (hf:P.funcs[f]? =some fn) (hname:(fn.name == "runtime.NumGoroutine")=false)
  (hc:(fn.body.bind (SE P fn.ntmps))=some dc) (hr:fn.results.toList.mapM (Wp P)=some rs) {np:Nat} (hnp:np<=fn.ntmps):Qi P f (Abg Γ np rs dc):=by
 rw[aA]at hc
 obtain⟨c,hb,hc⟩:=hc
 intro F0 hG
 refine⟨⟨fn,hf,hname,by rw[hb];rfl⟩,λq hq=>(by cases hq),λ_ h=>(by cases h),λφ hφ=>?_,hG⟩
 cases hφ
 rintro F0' hF0' N w0 M B0 σ F β a w ds vs K hM hfr hl hv ⟨hn,τ0,hchg,hw⟩
 have h:=hM.sim
 obtain⟨w1,F1',M1,B1,hb1,h1,hm1⟩:=hM
 have hΓ':∀ k sp,Γ k=some sp->Bv P F (k % 4096) sp:=λk sp hk=>hΓ k sp hk F (hG.mono (hF0'.trans h.step.sub))
 have hS:Sim fn.ntmps w1 F M1 β ⟨Em 0 ds,σ.o,σ.n⟩ F β { tmps:=vs.toArray++aAP (fn.ntmps-vs.toArray.size) undef,defers:=[] } w:=by
  refine{ nam:=Aw.refl _,size:=by simp;omega,defers:=rfl,env:=λt=>?_,own:=h1.own,dist:=h1.dist,sep:=h1.sep,Ab:=?_,frz:=h1.frz,fin:=h1.fin,step:=⟨h1.step.os,h1.step.tape,h1.step.output,h1.step.size,h1.step.block,Ag.refl _,λ_ _ _ _=>rfl⟩ }
  ·simp only[S.ge,Iz,aAm,if_true,Nat.sub_zero]
   by_cases ht:t<ds.length
   ·have h1:ds[t]? =some ds[t]:=aAC ht
    have h2:vs[t]? =some (vs[t]'(by omega)):=aAC _
    rw[h1]
    have e:(vs.toArray++aAP (fn.ntmps-vs.toArray.size) undef).getD t undef=vs[t]'(by omega):=by
     rw[aAb,aAt (by simp;omega)]
     simp[h2]
    rw[e]
    exact Env.Ah (hv t _ _ h1 h2)
   ·rw[List.getElem?_eq_none (by omega)]
    exact Env.top _
  ·obtain⟨φ,hφ⟩:=h1.Ab
   exact⟨φ,hφ.congr λ_=>rfl⟩
 have hbase:Dd w0 F M β w1 F M1 β:=⟨⟨hb1.stp.os,hb1.stp.tape,hb1.stp.output,hb1.stp.size,hb1.stp.block,Ag.refl _,λ_ _ _ _=>rfl⟩,hb1.new,Aw.refl _,hb1.mark⟩
 have hSM:Az fn.ntmps w0 F M β ⟨Em 0 ds,σ.o,σ.n⟩ F β { tmps:=vs.toArray++aAP (fn.ntmps-vs.toArray.size) undef,defers:=[] } w :=
  ⟨w1,F,M1,β,hbase,hS,λg v o hg h0=>by
   obtain⟨q1,b,q2,q3,q6⟩:=hm1.at_ g v o hg h0
   exact⟨q1,b,h1.nam _ _ q2,λbb hbb=>by
    obtain⟨r3,r4,r5,r7⟩:=q3 bb hbb
    exact⟨r3,r4,λi=>(h1.step.old bb i r3 r4).trans (r5 i),r7⟩,q6⟩,λg g' v v' o o' c1 c2 b b' bb hg hg' h0 h0' e1 e2 y1 y2=>by
   obtain⟨_,b1,q2,_⟩:=hm1.at_ g v o hg h0
   obtain⟨_,b2,q2',_⟩:=hm1.at_ g' v' o' hg' h0'
   have z1:=h1.nam _ _ q2
   have z2:=h1.nam _ _ q2'
   rw[e1]at z1;cases z1
   rw[e2]at z2;cases z2
   exact hm1.dis g g' v v' o o' _ _ _ _ bb hg hg' h0 h0' q2 q2' y1 y2⟩
 refine calls_of_wp hf hb ?_
 obtain⟨F1,β1,hS1,hfr1⟩:=hSM.chg hfr hchg
 refine wp_mono (BT hΓ' c dc hc _ τ0 F1 β1 _ w hS1 hfr1 hw) λe a' w' hq=>?_
 obtain⟨τ1,F2,β2,k1,k2,k3⟩:=hq
 have fin:Wk (λτ=>(Rs rs τ).1/\K (Rs rs τ).2 ⟨σ.e,τ.o,τ.n⟩) τ1->(a'.defers=[]/\∃ v,(results fn a'.tmps).run P w'= .ok v w'/\∃ v' d o' n' F' β',Ending.returned v= .returned v'/\Az N w0 F0' M B0 ⟨σ.e,o',n'⟩ F' β' a w'/\(∀ v,n'<=v->β' v=none)/\Val F' β' d v'/\K d ⟨σ.e,o',n'⟩):=by
  rintro⟨τ,hc1,hr1,hk⟩
  obtain⟨F',β',zM,z2⟩:=k1.chg k2 hc1
  obtain⟨w2,F2',M2,B2,hb2,z1,hm2⟩:=zM
  have hall:∀ r∈rs,((QB r).run τ).1:=by
   unfold Rs at hr1
   split at hr1
   ·intro r hr;simp only[aAQ]at hr;subst hr;exact hr1
   ·exact hr1.1
  obtain⟨xs,r1,r2,r3⟩:=BX (P:=P) z1 (fn:=fn) hr hall
  refine⟨z1.defers,_,r1,_,(Rs rs τ).2,τ.o,τ.n,F',β',rfl,?_,z2,?_,hk⟩
  ·refine⟨w2,F2',M2,B2,⟨⟨hb2.stp.os,hb2.stp.tape,hb2.stp.output,hb2.stp.size,hb2.stp.block,h.step.sub.trans hb2.stp.sub,λb i hb hM=>(hb2.stp.old b i hb hM).trans (h.step.old b i hb hM)⟩,hb2.new,h.nam.trans hb2.nam,hb2.mark⟩,?_,hm2.sub λg v o hg _=>hg⟩
   refine{ nam:=z1.nam,size:=h.size,defers:=h.defers,env:=λt=>(h.env t).mono (hb2.stp.sub.trans z1.step.sub) (hb2.nam.trans z1.nam),own:=z1.own,dist:=z1.dist,sep:=z1.sep,Ab:=?_,frz:=z1.frz,fin:=z1.fin,step:=z1.step }
   obtain⟨φ,hφ⟩:=z1.Ab
   exact⟨φ,hφ.congr λ_=>rfl⟩
  ·unfold Rs at hr1 ⊢
   split
   ·rename_i r
    have hl1:xs.length=1:=by simpa using r2
    rw[dif_pos hl1]
    exact r3 0 r _ rfl (aAC (by omega))
   ·rename_i hne
    have hl1:xs.length≠1:=by
     intro e
     rw[r2]at e
     match rs,e with
     | [r],_=>exact hne r rfl
    rw[dif_neg hl1]
    split at hr1
    ·rename_i r;exact(hne r rfl).elim
    refine⟨xs,rfl,by simp[r2],λj c x hj hx=>?_⟩
    have ht:=aAR.1 hr1.2 c (aAF hj)
    rw[aAO,aAE]at hj
    obtain⟨r,hj,rfl⟩:=hj
    exact Nb (r3 j r x hj hx) ht
 cases e with
 | normal=>exact fin k3
 | ret=>exact fin k3
 | exit id=>exact k3.elim
 | goto l=>exact k3.elim
 | panic ch=>exact k3.elim
 | outgrown=>exact k3.elim
section
variable {ι R:Type} {body:ι->Option (ι⊕R)} {s:ι} {r r':R} {n m:Nat}
def Wa (body:ι->Option (ι⊕R)):Nat->ι->Option R
 | 0,_=>none
 | n+1,s=>match body s with
  | none=>none
  | some (.inr r)=>some r
  | some (.inl s')=>Wa body n s'
theorem Ue:Wa body (n+1) s=match body s with
  | none=>none
  | some (.inr r)=>some r
  | some (.inl s')=>Wa body n s':=rfl
theorem ET:∀ {n m:Nat} {s:ι},Wa body n s=some r->n<=m->Wa body m s=some r
 | 0,_,_,h,_=>by cases h
 | n+1,0,_,_,h'=>by omega
 | n+1,m+1,s,h,h'=>by
  rw[Ue]at h ⊢
  cases hb:body s with
  | none=>rw[hb]at h;cases h
  | some x =>
   rw[hb]at h
   cases x with
   | inr y=>exact h
   | inl s'=>exact ET h (Nat.le_of_succ_le_succ h')
theorem LW (h:Wa body n s=some r) (h':Wa body m s=some r'):r=r':=by
 have h1:=ET h (Nat.le_max_left n m)
 have h2:=ET h' (Nat.le_max_right n m)
 rw[h1]at h2
 exact Option.some.inj h2
open Classical in
noncomputable def Qv (body:ι->Option (ι⊕R)) (s:ι):Option R :=
 if h:∃ r,∃ n,Wa body n s=some r then some (Classical.choose h)else none
theorem Yq:Qv body s=some r↔∃ n,Wa body n s=some r:=by
 unfold Qv
 split
 ·rename_i h
  obtain⟨n,hn⟩:=Classical.choose_spec h
  constructor
  ·intro e
   cases e
   exact⟨n,hn⟩
  ·rintro⟨m,hm⟩
   rw[LW hn hm]
 ·rename_i h
  constructor
  ·intro e;cases e
  ·rintro⟨n,hn⟩;exact(h ⟨r,n,hn⟩).elim
theorem Rp (body:ι->Option (ι⊕R)) (s:ι):Qv body s=match body s with
  | none=>none
  | some (.inr r)=>some r
  | some (.inl s')=>Qv body s':=by
 apply Option.ext
 intro r
 rw[Yq]
 cases hb:body s with
 | none =>
  simp only[reduceCtorEq,iff_false,not_exists]
  intro n hn
  cases n with
  | zero=>cases hn
  | succ n=>rw[Ue,hb]at hn;cases hn
 | some x =>
  cases x with
  | inr y =>
   constructor
   ·rintro⟨n,hn⟩
    cases n with
    | zero=>cases hn
    | succ n=>rw[Ue,hb]at hn;exact hn
   ·intro e;exact⟨1,by rw[Ue,hb];exact e⟩
  | inl s' =>
   simp only[Yq]
   constructor
   ·rintro⟨n,hn⟩
    cases n with
    | zero=>cases hn
    | succ n=>rw[Ue,hb]at hn;exact⟨n,hn⟩
   ·rintro⟨n,hn⟩;exact⟨n+1,by rw[Ue,hb];exact hn⟩
theorem Aci (I:ι->Prop) (P:R->Prop) (μ:ι->Nat) (h0:I s)
  (hb:∀ s,I s->(∃ s',body s=some (.inl s')/\I s'/\μ s'<μ s)\/∃ r,body s=some (.inr r)/\P r):∃ r,Qv body s=some r/\P r:=by
 generalize hk:μ s=k
 induction k using Nat.strongRecOn generalizing s with
 | _ k ih =>
  rw[Rp]
  rcases hb s h0 with⟨s',h1,h2,h3⟩|⟨r,h1,h2⟩
  ·rw[h1]
   exact ih (μ s') (by omega) h2 rfl
  ·rw[h1]
   exact⟨r,rfl,h2⟩
end
def chk {R:Type} (p:Prop) [Decidable p] (t:Option R):Option R:=if p then t else none
def ixO {α:Type} (l:List α) (i:Int):Option α:=if i<0 then none else l[i.toNat]?
def lft {ι R:Type} (t:Option R):Option (ι⊕R):=t.map .inr
def cnt {ι R:Type} (s:ι):Option (ι⊕R):=some (.inl s)
theorem Qs {R:Type} {p:Prop} [Decidable p] {t:Option R} (h:p):chk p t=t:=if_pos h
theorem MG {R:Type} {p:Prop} [Decidable p] {t:Option R} {r:R} (h:chk p t=some r):p/\t=some r:=by
 unfold chk at h
 split at h
 ·exact⟨‹_›,h⟩
 ·cases h
theorem AcW {α:Type} {l:List α} {i:Int} {x:α} (h:ixO l i=some x):0<=i/\i<l.length/\l[i.toNat]? =some x:=by
 unfold ixO at h
 split at h
 ·cases h
 ·have:=(aAA.1 h).1
  exact⟨by omega,by omega,h⟩
section
variable {Γ:Ar} {R ι γ:Type}
def Has (σ:S) (E:List (Nat×D)) (O:List (Nat×Ac)):Prop:=∃ n,Chg σ ⟨E,O,n⟩
def Tr (Γ:Ar) (c:Ru) (K:R->Ax->S->Prop) (σ:S) (t:Option R):Prop:=∀ r,t=some r->DWp Γ c (K r) σ
def TrX (e:Ax) (K:R->Ax->S->Prop) (σ:S) (t:Option R):Prop:=∀ r,t=some r->K r e σ
abbrev Co:=List Key×List Key×List Nat
structure KR (R:Type) where
 N:Nat
 K:R->Ax->S->Prop
def TrO (Γ:Ar) (ops:List As) (nv:Nat) (σ:S) (d:Bool) (acc:List Co) (K:KR R) (t:Option R):Prop :=
 ∀ r,t=some r->(d=false->wpS Γ ops nv σ (K.K r .normal))/\(d=true->Dw.wpOps Γ ops nv σ (λτ=>K.K r .normal { τ with n:=K.N })/\EB (acc++CZ Γ ops nv σ)=true)
def Ck (N:Nat) (K:R->Ax->S->Prop):KR R:=⟨N,K⟩
def Jq (Γ:Ar) (b:Ru) (K:R->Ax->S->Prop):R->Ax->S->Prop:=λr=>Ax.then (Wk (DWp Γ b (K r))) (K r)
def GU (id:Nat) (K:R->Ax->S->Prop):R->Ax->S->Prop:=λr=>Ax.inBlock id (K r)
def Jp (E:ι->γ->List (Nat×D)) (O:ι->γ->List (Nat×Ac)) (j:ι->Option R) (K:R->Ax->S->Prop):R->Ax->S->Prop:=λr e τ =>
 match e with
 | .normal=>∃ s g,j s=some r/\Has τ (E s g) (O s g)
 | e=>K r e τ
def Du (id:Nat) (E:ι->γ->List (Nat×D)) (O:ι->γ->List (Nat×Ac)) (j:ι->Option R) (K:R->Ax->S->Prop):R->Ax->S->Prop:=λr e τ =>
 match e with
 | .normal=>∃ s g,j s=some r/\Has τ (E s g) (O s g)
 | .exit id'=>if id'=id then ∃ s g,j s=some r/\Has τ (E s g) (O s g)else K r (.exit id') τ
 | .ret=>K r .ret τ
def Hx (E:ι->γ->List (Nat×D)) (O:ι->γ->List (Nat×Ac)) (K:R->Ax->S->Prop):(ι⊕R)->Ax->S->Prop:=λx e τ =>
 match x,e with
 | .inl s,.normal=>∃ g,Has τ (E s g) (O s g)
 | .inl _,_=>False
 | .inr _,.normal=>False
 | .inr r,e=>K r e τ
theorem HR:∀ (ops:List As) (nv:Nat) (σ:S) (K K':S->Prop),(∀ τ,K τ->K' τ)->Dw.wpOps Γ ops nv σ K->Dw.wpOps Γ ops nv σ K'
 | [],_,_,_,_,hK,h=>hK _ h
 | _::ops,_,_,_,_,hK,h=>⟨h.1,HR ops _ _ _ _ hK h.2⟩
theorem Wk.mono {f g:S->Prop} (h:∀ τ,f τ->g τ) {σ:S}:Wk f σ->Wk g σ:=λ⟨τ,h1,h2⟩=>⟨τ,h1,h τ h2⟩
theorem Ls {o:As} {σ:S} {K K':S->Prop} (hK:∀ τ,K τ->K' τ):HU Γ o σ K->HU Γ o σ K':=by
 rintro⟨h1,fa,args,f,caps,sp,φ,K0,h2,h⟩
 exact⟨h1,fa,args,f,caps,sp,φ,K0,λτ hτ=>hK τ (h2 τ hτ),h⟩
theorem Ma {o:As} {σ:S} {K K':S->Prop} (hK:∀ τ,K τ->K' τ):Lj o σ K->Lj o σ K':=by
 rintro⟨h1,t,h2,ty,es,h3,h5⟩
 exact⟨h1,t,h2,ty,es,h3,hK _ h5⟩
theorem Ff:∀ (ops:List As) (nv:Nat) (σ:S) (K K':S->Prop),(∀ τ,K τ->K' τ)->wpS Γ ops nv σ K->wpS Γ ops nv σ K'
 | [],_,_,_,_,hK,h=>hK _ h
 | _::ops,_,_,_,_,hK,h=>h.imp (λh=>⟨h.1,Ff ops _ _ _ _ hK h.2⟩) (Or.imp (Wk.mono λ_=>Ls λ_ ⟨τ,h1,h2⟩=>⟨τ,h1,Ff ops _ _ _ _ hK h2⟩) (Wk.mono λ_=>Ma λ_ ⟨τ,h1,h2⟩=>⟨τ,h1,Ff ops _ _ _ _ hK h2⟩))
theorem Bw:∀ (b:Ru) (Q Q':Ax->S->Prop) (σ:S),(∀ e τ,Q e τ->Q' e τ)->DWp Γ b Q σ->DWp Γ b Q' σ
 | .skip,_,_,_,h,hd=>h _ _ hd
 | .ret,_,_,_,h,hd=>h _ _ hd
 | .exit _,_,_,_,h,hd=>h _ _ hd
 | .reg ops d,_,_,_,h,hd=>Wk.mono (λτ hq=>by
   cases d with
   | true=>rw[if_pos rfl]at hq ⊢;exact⟨HR ops _ _ _ _ (λ_ hq=>h _ _ hq) hq.1,hq.2⟩
   | false=>rw[if_neg (by simp)]at hq ⊢;exact Ff ops _ _ _ _ (λ_ hq=>h _ _ hq) hq) hd
 | .seq a b,Q,Q',σ,h,hd=>Bw a _ _ σ (λe τ hq=>by
   cases e with
   | normal=>exact Wk.mono (λτ' h'=>Bw b _ _ τ' h h') hq
   | exit id=>exact h _ _ hq
   | ret=>exact h _ _ hq) hd
 | .cond c a b,Q,Q',σ,h,hd=>by
  simp only[DWp]at hd ⊢
  generalize Dp σ c=d at *
  cases d<;>try exact hd.elim
  exact⟨λht=>Bw a _ _ σ h (hd.1 ht),λht=>Bw b _ _ σ h (hd.2 ht)⟩
 | .block id b,Q,Q',σ,h,hd=>Bw b _ _ σ (λe τ hq=>by
   cases e with
   | normal=>exact h _ _ hq
   | ret=>exact h _ _ hq
   | exit id' =>
    simp only[Ax.inBlock]at hq ⊢
    split
    ·rename_i e;rw[if_pos e]at hq;exact Wk.mono (λτ' h'=>h _ _ h') hq
    ·rename_i e;rw[if_neg e]at hq;exact h _ _ hq) hd
 | .loop b,Q,Q',σ,h,⟨ι,St,μ,i₀,h1,h2⟩=>⟨ι,St,μ,i₀,h1,λi=>Bw b _ _ _ (λe τ hq=>by
   cases e with
   | normal=>exact hq
   | exit id=>exact h _ _ hq
   | ret=>exact h _ _ hq) (h2 i)⟩
variable {K:R->Ax->S->Prop} {t t1 t2:Option R} {e:List (Nat×D)} {o:List (Nat×Ac)} {n N nv:Nat} {σ τ:S} {a b:Ru}
theorem Mu {ops:List As} {d:Bool} (h:TrO Γ ops n ⟨e,o,n⟩ d [] (Ck (n+ops.length) K) t):Tr Γ (.reg ops d) K ⟨e,o,n⟩ t :=
 λr hr=>⟨_,.refl _,by
  cases d with
  | true=>rw[if_pos rfl];exact(h r hr).2 rfl
  | false=>rw[if_neg (by simp)];exact(h r hr).1 rfl⟩
theorem PG {ops:List As} {d:Bool} {E:List (Nat×D)} {O:List (Nat×Ac)} (hh:Has ⟨e,o,n⟩ E O) (h:∀ n,TrO Γ ops n ⟨E,O,n⟩ d [] (Ck (n+ops.length) K) t):Tr Γ (.reg ops d) K ⟨e,o,n⟩ t :=
 λr hr=>hh.elim λm hh=>⟨_,hh,by
  cases d with
  | true=>rw[if_pos rfl];exact(h m r hr).2 rfl
  | false=>rw[if_neg (by simp)];exact(h m r hr).1 rfl⟩
theorem KH {acc:List Co} (h:TrX .normal K ⟨e,o,nv⟩ t):TrO Γ [] nv ⟨e,o,n⟩ false acc (Ck N K) t :=
 λr hr=>⟨λ_=>h r hr,λhd=>by cases hd⟩
theorem FW {acc:List Co} (ha:EB acc=true) (h:TrX .normal K ⟨e,o,N⟩ t):TrO Γ [] nv ⟨e,o,n⟩ true acc (Ck N K) t :=
 λr hr=>⟨λhd=>(by cases hd),λ_=>⟨h r hr,by simpa[CZ]using ha⟩⟩
def TrE (Γ:Ar) (c:Ru) (K:R->Ax->S->Prop) (σ:S) (t:Option R):Prop:=∀ r,t=some r->Wk (DWp Γ c (K r)) σ
theorem Ph (h:Tr Γ a K σ t):TrE Γ a K σ t:=λr hr=>⟨_,.refl _,h r hr⟩
theorem PF {E:List (Nat×D)} {O:List (Nat×Ac)} (hh:Has σ E O) (h:∀ n,Tr Γ a K ⟨E,O,n⟩ t):TrE Γ a K σ t :=
 λr hr=>hh.elim λn hh=>⟨_,hh,h n r hr⟩
theorem Mw (h:Tr Γ a (Jq Γ b K) σ t):Tr Γ (.seq a b) K σ t:=h
theorem KJ (h:Tr Γ b K τ t):TrX .normal (Jq Γ b K) τ t:=λr hr=>⟨_,.refl _,h r hr⟩
theorem Ps {E:List (Nat×D)} {O:List (Nat×Ac)} (hh:Has τ E O) (h:∀ n,Tr Γ b K ⟨E,O,n⟩ t):TrX .normal (Jq Γ b K) τ t :=
 λr hr=>hh.elim λn hh=>⟨_,hh,h n r hr⟩
theorem Gc {id:Nat} (h:TrX (.exit id) K τ t):TrX (.exit id) (Jq Γ b K) τ t:=h
theorem GI (h:TrX .ret K τ t):TrX .ret (Jq Γ b K) τ t:=h
theorem JG {id:Nat} (h:Tr Γ b (GU id K) σ t):Tr Γ (.block id b) K σ t:=h
theorem EL {id:Nat} (h:TrX .normal K τ t):TrX .normal (GU id K) τ t:=h
theorem GG {id:Nat} (h:TrX .ret K τ t):TrX .ret (GU id K) τ t:=h
theorem FZ {id:Nat} (h:TrX .normal K τ t):TrX (.exit id) (GU id K) τ t :=
 λr hr=>by
  show(if id=id then Wk (K r .normal) τ else K r (.exit id) τ)
  rw[if_pos rfl]
  exact⟨_,.refl _,h r hr⟩
theorem FY {id id':Nat} (hne:aAN id' id=false) (h:TrX (.exit id') K τ t):TrX (.exit id') (GU id K) τ t :=
 λr hr=>by
  show(if id'=id then Wk (K r .normal) τ else K r (.exit id') τ)
  rw[if_neg (λe=>by subst e;simp at hne)]
  exact h r hr
theorem KM (h:TrX .normal K σ t):Tr Γ .skip K σ t:=h
theorem Mv (h:TrX .ret K σ t):Tr Γ .ret K σ t:=h
theorem KL {id:Nat} (h:TrX (.exit id) K σ t):Tr Γ (.exit id) K σ t:=h
def BU {α:Type}:List (Nat×α)->Nat->Option α
 | [],_=>none
 | (k,x)::r,t=>bif aAN t k then some x else BU r t
theorem BO {α:Type}:∀ (l:List (Nat×α)) (t:Nat),BU l t=look l t
 | [],_=>rfl
 | (k,x)::r,t=>by
  simp only[BU,look,BO r t]
  by_cases h:t=k
  ·subst h;simp
  ·have:aAN t k=false:=by
    cases hb:aAN t k
    ·rfl
    ·exact absurd (aAS hb) h
   simp[h,this]
def Aa (e:List (Nat×D)):Arg->Option D
 | .t n=>BU e n
 | .c d=>some d
theorem XL {x:Arg} {c:Bool} (hx:Aa e x=some (.bool c)) (h1:Tr Γ a K ⟨e,o,n⟩ t1) (h2:Tr Γ b K ⟨e,o,n⟩ t2):Tr Γ (.cond x a b) K ⟨e,o,n⟩ (bif c then t1 else t2):=by
 intro r hr
 have hv:Dp ⟨e,o,n⟩ x= .bool c:=by cases x<;>simp_all[Aa,Dp,S.ge,BO]
 simp only[DWp,hv]
 cases c with
 | true=>exact⟨λ_=>h1 r hr,λh=>by cases h⟩
 | false=>exact⟨λh=>(by cases h),λ_=>h2 r hr⟩
theorem Gd {x:Arg} (hx:Aa e x=some (.bool true)) (h1:Tr Γ a K ⟨e,o,n⟩ t):Tr Γ (.cond x a b) K ⟨e,o,n⟩ t:=by
 intro r hr
 have hv:Dp ⟨e,o,n⟩ x= .bool true:=by cases x<;>simp_all[Aa,Dp,S.ge,BO]
 simp only[DWp,hv]
 exact⟨λ_=>h1 r hr,λh=>(by cases h)⟩
theorem Fu {x:Arg} (hx:Aa e x=some (.bool false)) (h1:Tr Γ b K ⟨e,o,n⟩ t):Tr Γ (.cond x a b) K ⟨e,o,n⟩ t:=by
 intro r hr
 have hv:Dp ⟨e,o,n⟩ x= .bool false:=by cases x<;>simp_all[Aa,Dp,S.ge,BO]
 simp only[DWp,hv]
 exact⟨λh=>(by cases h),λ_=>h1 r hr⟩
variable {E:ι->γ->List (Nat×D)} {O:ι->γ->List (Nat×Ac)} {j:ι->Option R}
theorem WH (h1:Tr Γ a (Jp E O j K) σ t) (h2:∀ s g n,Tr Γ b K ⟨E s g,O s g,n⟩ (j s)):Tr Γ (.seq a b) K σ t:=by
 intro r hr
 refine Bw a _ _ σ (λe τ hq=>?_) (h1 r hr)
 cases e with
 | normal =>
  obtain⟨s,g,hj,m,hw⟩:=hq
  exact⟨_,hw,h2 s g _ r hj⟩
 | exit id=>exact hq
 | ret=>exact hq
theorem AbP {s:ι} (g:γ) (h:Has τ (E s g) (O s g)):TrX .normal (Jp E O j K) τ (j s):=λ_ hr=>⟨s,g,hr,h⟩
theorem Ga {id:Nat} (h:TrX (.exit id) K τ t):TrX (.exit id) (Jp E O j K) τ t:=h
theorem GH (h:TrX .ret K τ t):TrX .ret (Jp E O j K) τ t:=h
theorem VY {id:Nat} {c:Ru} (h1:Tr Γ b (Du id E O j K) σ t) (h2:∀ s g n,Tr Γ c K ⟨E s g,O s g,n⟩ (j s)):Tr Γ (.seq (.block id b) c) K σ t:=by
 intro r hr
 refine Bw b _ _ σ (λe τ hq=>?_) (h1 r hr)
 cases e with
 | normal =>
  obtain⟨s,g,hj,m,hw⟩:=hq
  exact⟨_,hw,h2 s g _ r hj⟩
 | exit id' =>
  simp only[Du]at hq
  simp only[Ax.inBlock]
  split
  ·rename_i e
   rw[if_pos e]at hq
   obtain⟨s,g,hj,m,hw⟩:=hq
   exact⟨_,hw,_,.refl _,h2 s g _ r hj⟩
  ·rename_i e
   rw[if_neg e]at hq
   exact hq
 | ret=>exact hq
theorem HQ {id:Nat} {s:ι} (g:γ) (h:Has τ (E s g) (O s g)):TrX .normal (Du id E O j K) τ (j s):=λ_ hr=>⟨s,g,hr,h⟩
theorem IL {id:Nat} {s:ι} (g:γ) (h:Has τ (E s g) (O s g)):TrX (.exit id) (Du id E O j K) τ (j s):=λr hr=>by
 show(if id=id then _ else _)
 rw[if_pos rfl]
 exact⟨s,g,hr,h⟩
theorem Fs {id id':Nat} (hne:aAN id' id=false) (h:TrX (.exit id') K τ t):TrX (.exit id') (Du id E O j K) τ t:=λr hr=>by
 show(if id'=id then _ else _)
 rw[if_neg (λe=>by subst e;simp at hne)]
 exact h r hr
theorem FX {id:Nat} (h:TrX .ret K τ t):TrX .ret (Du id E O j K) τ t:=h
theorem Abq {s:ι} (g:γ) (h:Has τ (E s g) (O s g)):TrX .normal (Hx E O K) τ (cnt s):=λr hr=>by
 cases hr
 exact⟨g,h⟩
theorem Ft {id:Nat} (h:TrX (.exit id) K τ t):TrX (.exit id) (Hx E O K) τ (lft t):=λr hr=>by
 cases t with
 | none=>cases hr
 | some x=>cases hr;exact h x rfl
theorem Gb (h:TrX .ret K τ t):TrX .ret (Hx E O K) τ (lft t):=λr hr=>by
 cases t with
 | none=>cases hr
 | some x=>cases hr;exact h x rfl
theorem YT {body:ι->Option (ι⊕R)} {s:ι} (g:γ) (h0:Has ⟨e,o,n⟩ (E s g) (O s g)) (hb:∀ s g n,Tr Γ b (Hx E O K) ⟨E s g,O s g,n⟩ (body s)):Tr Γ (.loop b) K ⟨e,o,n⟩ (Qv body s):=by
 intro r hr
 obtain⟨k,hk⟩:=Yq.1 hr
 refine⟨{ x:(ι×γ×Nat)×Nat // Wa body x.2 x.1.1=some r },λx=>⟨E x.1.1.1 x.1.1.2.1,O x.1.1.1 x.1.1.2.1,x.1.1.2.2⟩,λx=>x.1.2,⟨((s,g,h0.choose),k),hk⟩,h0.choose_spec,?_⟩
 rintro⟨⟨⟨s,g,n⟩,k⟩,hk⟩
 simp only at hk
 cases k with
 | zero=>cases hk
 | succ k =>
  rw[Ue]at hk
  cases hx:body s with
  | none=>rw[hx]at hk;cases hk
  | some x =>
   rw[hx]at hk
   refine Bw b _ _ _ (λe τ hq=>?_) (hb s g n x hx)
   cases x with
   | inr r' =>
    cases hk
    cases e with
    | normal=>exact hq.elim
    | exit id=>exact hq
    | ret=>exact hq
   | inl s' =>
    cases e with
    | normal =>
     obtain⟨g',m,hw⟩:=hq
     exact⟨⟨((s',g',m),k),hk⟩,Nat.lt_succ_self _,hw⟩
    | exit id=>exact hq.elim
    | ret=>exact hq.elim
end
def rdK:Arg->List Key
 | .t n=>[.e n]
 | .c _=>[]
def lkO (o:List (Nat×Ac)) (g:Nat):Ac:=(BU o g).getD none
def gOn (e:List (Nat×D)):Option (Nat×Bool)->Bool
 | none=>true
 | some (t,want)=>match (BU e t).getD .top with
  | .bool b=>b==want
  | .when p (.bool b)=>p&&(b==want)
  | _=>false
def OE (e:List (Nat×D)):Option (Nat×Bool)->Bool
 | none=>false
 | some (t,want)=>match (BU e t).getD .top with
  | .bool b=>!(b==want)
  | .when p (.bool b)=>!(p&&(b==want))
  | _=>false
def gK:Option (Nat×Bool)->List Key
 | none=>[]
 | some (t,_)=>[.e t]
section
variable {Γ:Ar} {X:Type} {K:KR X} {t t1 t2:Option X} {e:List (Nat×D)} {o:List (Nat×Ac)} {n nv:Nat} {d:Bool} {acc:List Co}
 {r:List As} {dst:Nat} {g:Option (Nat×Bool)} {af:List Nat} {α:Type}
@[simp] theorem Bm (x:Arg):(raw x).run ⟨e,o,n⟩=(Aa e x).getD .top:=by cases x<;>simp[raw,Aa,BO,S.ge]
@[simp] theorem FI (x:Arg):(raw x).rd ⟨e,o,n⟩=rdK x:=by cases x<;>rfl
@[simp] theorem Ay (i:Nat):(S.mk e o n).go i=lkO o i:=by simp[S.go,lkO,BO]
@[simp] theorem Aj (x:Arg):(rdA x).run ⟨e,o,n⟩=strip ((Aa e x).getD .top):=by simp[rdA]
@[simp] theorem AU (x:Arg):(rdA x).rd ⟨e,o,n⟩=rdK x:=by simp[rdA]
theorem Rt {α:Type} {ops:List As} {σ:S} {m:Option α} {k:α->Option X} (h:∀ x,m=some x->TrO Γ ops nv σ d acc K (k x)):TrO Γ ops nv σ d acc K (m.bind k):=by
 intro r hr
 obtain⟨x,hx,hk⟩:=aA.1 hr
 exact h x hx r hk
theorem QD {ops:List As} {σ:S} {p:Prop} [Decidable p] (h:p->TrO Γ ops nv σ d acc K t):TrO Γ ops nv σ d acc K (chk p t):=by
 intro r hr
 obtain⟨hp,ht⟩:=MG hr
 exact h hp r ht
theorem Al {dst:Option Nat} {op:DOp} {c:Prop} {we:List (Nat×D)} {wo:List (Nat×Ac)} {rd:List Key} (hg:gOn e g=true)
  (hu:(evalOp Γ nv dst op).run ⟨e,o,n⟩=⟨c,we,wo⟩) (hrd:(evalOp Γ nv dst op).rd ⟨e,o,n⟩=rd) (hc:c)
  (h:TrO Γ r (nv+1) ⟨we++e,wo++o,n⟩ d (acc++[(gK g++rd,we.map (λx=>.e x.1)++wo.map (λx=>.o x.1),af)]) K t) :
  TrO Γ (⟨dst,op,g,af⟩::r) nv ⟨e,o,n⟩ d acc K t:=by
 intro x hx
 obtain⟨h1,h2⟩:=h x hx
 have key:((At Γ nv ⟨dst,op,g,af⟩).run ⟨e,o,n⟩).c/\((At Γ nv ⟨dst,op,g,af⟩).run ⟨e,o,n⟩).we=we/\((At Γ nv ⟨dst,op,g,af⟩).run ⟨e,o,n⟩).wo=wo /\
   (At Γ nv ⟨dst,op,g,af⟩).rd ⟨e,o,n⟩=gK g++rd:=by
  cases g with
  | none =>
   simp only[At,hu,hrd,gK]
   exact⟨hc,trivial,trivial,rfl⟩
  | some p =>
   obtain⟨tt,want⟩:=p
   have hg2:(guardOf ((S.mk e o n).ge tt) want).2=true/\(guardOf ((S.mk e o n).ge tt) want).1:=by
    simp only[gOn,BO]at hg
    simp only[S.ge]
    generalize(look e tt).getD .top=dd at *
    cases dd<;>simp_all[guardOf]
    rename_i p dd
    cases dd<;>simp_all
   simp only[At,R.JB,R.PE,hg2.1,if_true,R.run_bind,R.AF,R.run_pure,R.Bh,hu,hrd,gK]
   exact⟨⟨hg2.2,hc⟩,trivial,trivial,by simp⟩
 obtain⟨k1,k2,k3,k4⟩:=key
 have happ:(S.mk e o n).app ((At Γ nv ⟨dst,op,g,af⟩).run ⟨e,o,n⟩)=⟨we++e,wo++o,n⟩:=by simp[S.app,k2,k3]
 refine⟨λhd=>.inl ⟨k1,by rw[happ];exact h1 hd⟩,λhd=>⟨⟨k1,by rw[happ];exact(h2 hd).1⟩,?_⟩⟩
 have:=(h2 hd).2
 simp only[CZ,k2,k3,k4,happ]
 simpa using this
theorem KI {op:DOp} (hg:OE e g=true)
  (h:TrO Γ r (nv+1) ⟨(dst,.when false (.bool false))::e,o,n⟩ d (acc++[(gK g,[.e dst],af)]) K t):TrO Γ (⟨some dst,op,g,af⟩::r) nv ⟨e,o,n⟩ d acc K t:=by
 intro x hx
 obtain⟨h1,h2⟩:=h x hx
 cases g with
 | none=>cases hg
 | some p =>
  obtain⟨tt,want⟩:=p
  have hg2:(guardOf ((S.mk e o n).ge tt) want).2=false/\(guardOf ((S.mk e o n).ge tt) want).1:=by
   simp only[OE,BO]at hg
   simp only[S.ge]
   generalize(look e tt).getD .top=dd at *
   cases dd with
   | bool b=>simp_all[guardOf]
   | when p dd =>
    cases dd with
    | bool b=>cases p<;>simp_all[guardOf]
    | _=>simp at hg
   | _=>simp at hg
  have hu:(At Γ nv ⟨some dst,op,some (tt,want),af⟩).run ⟨e,o,n⟩=⟨(guardOf ((S.mk e o n).ge tt) want).1,[(dst,.when false (.bool false))],[]⟩:=by
   simp[At,hg2.1,Ad]
  have hr:(At Γ nv ⟨some dst,op,some (tt,want),af⟩).rd ⟨e,o,n⟩=[.e tt]:=by
   simp[At,hg2.1]
  refine⟨λhd=>.inl ⟨by rw[hu];exact hg2.2,by rw[hu];exact h1 hd⟩,λhd=>⟨⟨by rw[hu];exact hg2.2,by rw[hu];exact(h2 hd).1⟩,?_⟩⟩
  have:=(h2 hd).2
  simp only[CZ,hu,hr]
  simpa[gK,S.app]using this
def Ea:List (Nat×D)->Nat->D->List (Nat×D)
 | [],_,_=>[]
 | (k,y)::r,t,v=>bif aAN t k then(k,v)::r else(k,y)::Ea r t v
theorem Es:∀ {e:List (Nat×D)} {x:Nat} {v:D},BU e x=some v->Ea e x v=e
 | [],_,_,h=>by cases h
 | (k,y)::r,x,v,h=>by
  simp only[BU]at h
  simp only[Ea]
  cases hb:aAN x k with
  | true =>
   rw[hb]at h
   cases h
   rfl
  | false =>
   rw[hb]at h
   simp only[cond_false]at h ⊢
   rw[Es h]
theorem Mr {ops:List As} (x:Nat) {b:Bool} (hx:BU e x=some (.bool b)) (h1:TrO Γ ops nv ⟨Ea e x (.bool true),o,n⟩ d acc K t1) (h2:TrO Γ ops nv ⟨Ea e x (.bool false),o,n⟩ d acc K t2) :
  TrO Γ ops nv ⟨e,o,n⟩ d acc K (bif b then t1 else t2):=by
 cases b with
 | true=>rw[Es hx]at h1;exact h1
 | false=>rw[Es hx]at h2;exact h2
variable {x y:Arg} {v w:D} {k k':IntKind} {a b:Int} {s ty gi vi ii off m:Nat} {fz var:Bool} {es:List D} {z z':D} {l l':List α} {en:α->D}
attribute [local simp] evalOp Ad AH Bu strip QS
theorem CG (p q u w:Nat):strip (.optr p q u w)=(true,.optr p q u w):=rfl
theorem DP (p:Bool):strip (.bool p)=(true,.bool p):=rfl
theorem Mq (hg:gOn e g=true) (hx:Aa e x=some v) (h:TrO Γ r (nv+1) ⟨(dst,v)::e,o,n⟩ d (acc++[(gK g++rdK x,[.e dst],af)]) K t) :
  TrO Γ (⟨some dst,.mv x,g,af⟩::r) nv ⟨e,o,n⟩ d acc K t :=
 Al hg (c:=True) (we:=[(dst,v)]) (wo:=[]) (rd:=rdK x) (by simp[hx]) (by simp) trivial h
theorem Kw (hg:gOn e g=true) (hx:Aa e x=some v) (h:TrO Γ r (nv+1) ⟨(dst,v)::e,o,n⟩ d (acc++[(gK g++rdK x,[.e dst],af)]) K t) :
  TrO Γ (⟨some dst,.asg x none,g,af⟩::r) nv ⟨e,o,n⟩ d acc K t :=
 Al hg (c:=True) (we:=[(dst,v)]) (wo:=[]) (rd:=rdK x) (by cases v<;>simp[hx]) (by cases v<;>simp[hx]) trivial h
theorem JQ (hg:gOn e g=true) (en:α->D) (hx:Aa e x=some .nils) (h:TrO Γ r (nv+1) ⟨(dst,.osl dst nv 0 ([]:List α).length)::e,(dst,some (nv,⟨false,false,s,ty,([]:List α).map en⟩))::o,n⟩ d (acc++[(gK g++rdK x,[.e dst,.o dst],af)]) K t) :
  TrO Γ (⟨some dst,.asg x (some (s,ty)),g,af⟩::r) nv ⟨e,o,n⟩ d acc K t :=
 Al hg (c:=True) (we:=[(dst,.osl dst nv 0 0)]) (wo:=[(dst,some (nv,⟨false,false,s,ty,[]⟩))]) (rd:=rdK x) (by simp[hx]) (by simp[hx]) trivial h
theorem HI (hg:gOn e g=true) (hx:Aa e x=some (.sl es)) (h:TrO Γ r (nv+1) ⟨(dst,.sl es)::e,o,n⟩ d (acc++[(gK g++rdK x,[.e dst],af)]) K t) :
  TrO Γ (⟨some dst,.asg x (some (s,ty)),g,af⟩::r) nv ⟨e,o,n⟩ d acc K t :=
 Al hg (c:=True) (we:=[(dst,.sl es)]) (wo:=[]) (rd:=rdK x) (by simp[hx]) (by simp[hx]) trivial h
theorem GB {s' ty' q:Nat} (hq:q=l.length) (hg:gOn e g=true) (hx:Aa e x=some (.osl gi vi 0 q)) (ho:lkO o gi=some (vi,⟨false,false,s,ty,l.map en⟩))
  (h:TrO Γ r (nv+1) ⟨(dst,.osl dst nv 0 l.length)::e,(dst,some (nv,⟨false,false,s,ty,l.map en⟩))::(gi,none)::o,n⟩ d (acc++[(gK g++(rdK x++[.o gi]),[.e dst,.o dst,.o gi],af)]) K t) (hrg:Ab gi=false:=by rfl) :
  TrO Γ (⟨some dst,.asg x (some (s',ty')),g,af⟩::r) nv ⟨e,o,n⟩ d acc K t :=
 Al hg (c:=True) (we:=[(dst,.osl dst nv 0 l.length)]) (wo:=[(dst,some (nv,⟨false,false,s,ty,l.map en⟩)),(gi,none)]) (rd:=rdK x++[Key.o gi]) (by subst hq;simp[hx,ho,hrg,nmR,CH];exact aAJ (by simp)) (by simp[hx,ho,hrg]) trivial h
theorem GA {s' ty' q:Nat} (hg:gOn e g=true) (hx:Aa e x=some (.osl gi vi 0 q)) (ho:lkO o gi=some (vi,⟨false,false,s,ty,l.map en⟩)) (hq:q<=l.length)
  (h:TrO Γ r (nv+1) ⟨(dst,.osl dst nv 0 (l.take q).length)::e,(dst,some (nv,⟨false,false,s,ty,(l.take q).map en⟩))::(gi,none)::o,n⟩ d (acc++[(gK g++(rdK x++[.o gi]),[.e dst,.o dst,.o gi],af)]) K t) (hrg:Ab gi=false:=by rfl) :
  TrO Γ (⟨some dst,.asg x (some (s',ty')),g,af⟩::r) nv ⟨e,o,n⟩ d acc K t :=
 Al hg (c:=True) (we:=[(dst,.osl dst nv 0 (l.take q).length)]) (wo:=[(dst,some (nv,⟨false,false,s,ty,(l.take q).map en⟩)),(gi,none)]) (rd:=rdK x++[Key.o gi]) (by simp[hx,ho,Nat.min_eq_left hq,hq,hrg,nmR,CH]) (by simp[hx,ho,hrg]) trivial h
theorem HH {s' ty' q:Nat} (hq:q=l.length) (hg:gOn e g=true) (hx:Aa e x=some (.osl gi vi 0 q)) (ho:lkO o gi=some (vi,⟨true,false,s,ty,l.map en⟩))
  (h:TrO Γ r (nv+1) ⟨(dst,.sl (l.map en))::e,o,n⟩ d (acc++[(gK g++(rdK x++[.o gi]),[.e dst],af)]) K t) :
  TrO Γ (⟨some dst,.asg x (some (s',ty')),g,af⟩::r) nv ⟨e,o,n⟩ d acc K t :=
 Al hg (c:=True) (we:=[(dst,.sl (l.map en))]) (wo:=[]) (rd:=rdK x++[Key.o gi]) (by subst hq;simp[hx,ho];exact aAJ (by simp)) (by simp[hx,ho]) trivial h
def isB:Option D->Bool
 | some (.bool _)=>true
 | some (.when _ (.bool _))=>true
 | _=>false
theorem LV {x:Option D} (h:isB x=true):∃ (p q:Bool),strip (x.getD .top)=(p,.bool q):=by
 unfold isB at h
 split at h
 ·exact⟨_,_,rfl⟩
 ·exact⟨_,_,rfl⟩
 ·cases h
theorem Fo {c:Arg} {p:Bool} (hg:gOn e g=true) (hc:Aa e c=some (.bool true)) (hx:Aa e x=some (.bool p)) (hy:isB (Aa e y)=true)
  (h:TrO Γ r (nv+1) ⟨(dst,.bool p)::e,o,n⟩ d (acc++[(gK g++(rdK c++(rdK x++rdK y)),[.e dst],af)]) K t) :
  TrO Γ (⟨some dst,.pick c x y,g,af⟩::r) nv ⟨e,o,n⟩ d acc K t:=by
 obtain⟨b1,q,hq'⟩:=LV hy
 refine Al hg (c:=True) (we:=[(dst,.bool p)]) (wo:=[]) (rd:=rdK c++(rdK x++rdK y)) ?_ ?_ trivial h
 ·simp only[evalOp,R.run_bind,Aj,hc,hx,hq',aAB,DP,R.run_pure,Ad]
  simp
 ·simp only[evalOp,R.AF,Aj,AU,hc,hx,hq',aAB,DP,R.Bh,aAa]
theorem EJ {c:Arg} {p:Bool} (hg:gOn e g=true) (hc:Aa e c=some (.bool false)) (hx:isB (Aa e x)=true) (hy:Aa e y=some (.bool p))
  (h:TrO Γ r (nv+1) ⟨(dst,.bool p)::e,o,n⟩ d (acc++[(gK g++(rdK c++(rdK x++rdK y)),[.e dst],af)]) K t) :
  TrO Γ (⟨some dst,.pick c x y,g,af⟩::r) nv ⟨e,o,n⟩ d acc K t:=by
 obtain⟨b1,q,hq'⟩:=LV hx
 refine Al hg (c:=True) (we:=[(dst,.bool p)]) (wo:=[]) (rd:=rdK c++(rdK x++rdK y)) ?_ ?_ trivial h
 ·simp only[evalOp,R.run_bind,Aj,hc,hy,hq',aAB,DP,R.run_pure,Ad]
  simp
 ·simp only[evalOp,R.AF,Aj,AU,hc,hy,hq',aAB,DP,R.Bh,aAa]
theorem KG (hg:gOn e g=true) (h:TrO Γ r (nv+1) ⟨(dst,.optr dst nv 0 0)::e,(dst,some (nv,⟨false,true,s,ty,[z]⟩))::o,n⟩ d (acc++[(gK g++[],[.e dst,.o dst],af)]) K t) :
  TrO Γ (⟨some dst,.new z s ty,g,af⟩::r) nv ⟨e,o,n⟩ d acc K t :=
 Al hg (c:=True) (we:=[(dst,.optr dst nv 0 0)]) (wo:=[(dst,some (nv,⟨false,true,s,ty,[z]⟩))]) (rd:=[]) (by simp) (by simp) trivial h
theorem Kx (hg:gOn e g=true) (hx:Aa e x=some v) (hw:strip v=(true,v)) (hk:known v=true) (hl:(cells v).length=s)
  (h:TrO Γ r (nv+1) ⟨(dst,.optr dst nv 0 0)::e,(dst,some (nv,⟨false,true,s,ty,[v]⟩))::o,n⟩ d (acc++[(gK g++rdK x,[.e dst,.o dst],af)]) K t) :
  TrO Γ (⟨some dst,.box x s ty,g,af⟩::r) nv ⟨e,o,n⟩ d acc K t :=
 Al hg (c:=True) (we:=[(dst,.optr dst nv 0 0)]) (wo:=[(dst,some (nv,⟨false,true,s,ty,[v]⟩))]) (rd:=rdK x) (by simp only[evalOp,R.run_bind,Aj,aAB,hx,hw,R.run_pure,hk,hl,Ad,AH,aAB];simp) (by simp) trivial h
def Cx (e:List (Nat×D)):List (Nat×Nat×Arg)->List (Nat×Nat×D)
 | []=>[]
 | (a,b,x)::r=>(a,b,(Aa e x).getD .top)::Cx e r
def Dj:List (Nat×Nat×Arg)->List Key
 | []=>[]
 | (_,_,x)::r=>rdK x++Dj r
def ED:Nat->List (Nat×Nat×D)->Bool
 | _,[]=>true
 | n,(off,s,d)::r=>known d&&(aAN (cells d).length s&&(aAe (off+s) n&&ED n r))
theorem Hu:∀ {n:Nat} {l:List (Nat×Nat×D)},ED n l=true->DA n l
 | _,[],_=>trivial
 | n,(off,s,d)::r,h=>by
  simp only[ED,aAT]at h
  exact⟨h.1,aAS h.2.1,aAM h.2.2.1,Hu h.2.2.2⟩
theorem Gz:∀ parts:List (Nat×Nat×Arg),(BL parts).run ⟨e,o,n⟩=Cx e parts
 | []=>rfl
 | (a,b,x)::r=>by simp[BL,Cx,Gz r]
theorem HD:∀ parts:List (Nat×Nat×Arg),(BL parts).rd ⟨e,o,n⟩=Dj parts
 | []=>rfl
 | (a,b,x)::r=>by simp[BL,Dj,HD r]
theorem Ou {zs cs:List D} {parts:List (Nat×Nat×Arg)} {ps:List (Nat×Nat×D)} (hg:gOn e g=true) (hp:Cx e parts=ps) (hf:ED zs.length ps=true) (hz:Dq zs ps=cs)
  (h:TrO Γ r (nv+1) ⟨(dst,.agg cs)::e,o,n⟩ d (acc++[(gK g++Dj parts,[.e dst],af)]) K t) :
  TrO Γ (⟨some dst,.bld zs parts,g,af⟩::r) nv ⟨e,o,n⟩ d acc K t :=
 Al hg (c:=DA zs.length ps) (we:=[(dst,.agg cs)]) (wo:=[]) (rd:=Dj parts) (by simp[Gz,hp,hz]) (by simp[HD]) (Hu hf) h
def Jh (s len:Nat) (ps:List (Nat×D)):Bool:=ps.all λp=>known p.2&&(aAN (cells p.2).length s&&aAW p.1 len)
theorem Xg {c:Prop} {len:Nat} {parts:List (Nat×Arg)} {ps:List (Nat×D)} {wo:List (Nat×Ac)} {rk:List Key} (l:List α) (en:α->D) (hg:gOn e g=true) (hr:(AX parts).run ⟨e,o,n⟩=(c,ps,wo)) (hk:(AX parts).rd ⟨e,o,n⟩=rk) (hc:c)
  (hp:Jh s len ps=true) (hes:CC (aAX len z) ps=l.map en) (hlen:l.length=len)
  (h:TrO Γ r (nv+1) ⟨(dst,.osl dst nv 0 l.length)::e,(dst,some (nv,⟨false,false,s,ty,l.map en⟩))::(wo++o),n⟩ d (acc++[(gK g++rk,[.e dst,.o dst]++wo.map (λx=>.o x.1),af)]) K t) :
  TrO Γ (⟨some dst,.bldS s ty z len parts,g,af⟩::r) nv ⟨e,o,n⟩ d acc K t:=by
 have h1:∀ p∈ps,known p.2=true/\(cells p.2).length=s/\p.1<len:=by
  intro p hp'
  have:=aAR.1 hp p hp'
  simp only[aAT]at this
  exact⟨this.1,aAS this.2.1,by simpa using this.2.2⟩
 subst hlen
 exact Al hg (c:=c/\∀ p∈ps,known p.2=true/\(cells p.2).length=s/\p.1<l.length) (we:=[(dst,.osl dst nv 0 l.length)]) (wo:=(dst,some (nv,⟨false,false,s,ty,l.map en⟩))::wo) (rd:=rk) (by simp[hr,hes]) (by simp[hk]) ⟨hc,h1⟩ (by simpa using h)
theorem CT {i:Nat} {q:α} (h:l[i]? =some q):(l.map en)[i]? =some (en q):=by simp[h]
theorem Fa {agg:Bool} {i:Nat} (hg:gOn e g=true) (hx:Aa e x=some (.optr gi vi i off)) (ho:lkO o gi=some (vi,⟨fz,var,s,ty,es⟩)) (hz:es[i]? =some z) (hb:aAe (off+m) (cells z).length=true) (hv:QN (cells z) off m agg=v)
  (h:TrO Γ r (nv+1) ⟨(dst,v)::e,o,n⟩ d (acc++[(gK g++(rdK x++[.o gi]),[.e dst],af)]) K t) (hpl:(plain v|| !Ab gi)=true:=by rfl) :
  TrO Γ (⟨some dst,.ld m agg x,g,af⟩::r) nv ⟨e,o,n⟩ d acc K t:=by
 obtain⟨hi,rfl⟩:=aAA.1 hz
 have hb':=aAM hb
 have hgd:es.getD i .top=es[i]:=by simp[hi]
 refine Al hg (c:=True) (we:=[(dst,v)]) (wo:=[]) (rd:=rdK x++[Key.o gi]) ?_ ?_ trivial h
 ·simp only[evalOp,R.run_bind,Aj,aAB,hx,strip,R.AP,Ay,ho,Ad,hgd,hv]
  cases hrg:Ab gi with
  | false=>simp[hi,hb']
  | true=>cases v<;>first|(simp[hi,hb'];done)|(rw[hrg]at hpl;cases hpl)
 ·simp only[evalOp,R.AF,Aj,AU,aAB,hx,strip,R.Ca,Ay,ho,hgd,hv]
  cases hrg:Ab gi with
  | false=>simp
  | true=>cases v<;>first|(simp;done)|(rw[hrg]at hpl;cases hpl)
theorem Hg {agg:Bool} (hg:gOn e g=true) (hx:Aa e x=some (.fptr z off)) (hb:aAe (off+m) (cells z).length=true) (hv:QN (cells z) off m agg=v)
  (h:TrO Γ r (nv+1) ⟨(dst,v)::e,o,n⟩ d (acc++[(gK g++rdK x,[.e dst],af)]) K t) :
  TrO Γ (⟨some dst,.ld m agg x,g,af⟩::r) nv ⟨e,o,n⟩ d acc K t:=by
 have hb':=aAM hb
 refine Al hg (c:=True) (we:=[(dst,v)]) (wo:=[]) (rd:=rdK x) ?_ ?_ trivial h
 ·simp only[evalOp,R.run_bind,Aj,aAB,hx,strip,QS,R.AB,R.run_pure,Ad]
  simp[hb',hv]
 ·simp only[evalOp,R.AF,Aj,AU,aAB,hx,strip,QS,R.Cy,R.Bh]
  simp
theorem HP (hg:gOn e g=true) (hx:Aa e x=some (.optr gi vi 0 off)) (hy:Aa e y=some v) (hw:strip v=(true,v)) (ho:lkO o gi=some (vi,⟨false,true,s,ty,[z]⟩)) (hk:known v=true) (hl:(cells v).length=m)
  (hb:aAe (off+m) (cells z).length=true) (hz:QG z off (cells v)=z')
  (h:TrO Γ r (nv+1) ⟨e,(gi,some (vi,⟨false,true,s,ty,[z']⟩))::o,n⟩ d (acc++[(gK g++(rdK x++(rdK y++[.o gi])),[.o gi],af)]) K t) (hrg:Ab gi=false:=by rfl) :
  TrO Γ (⟨none,.st m x y,g,af⟩::r) nv ⟨e,o,n⟩ d acc K t:=by
 have hb':=aAM hb
 refine Al hg (c:=True) (we:=[]) (wo:=[(gi,some (vi,⟨false,true,s,ty,[z']⟩))]) (rd:=rdK x++(rdK y++[Key.o gi])) ?_ ?_ trivial h
 ·simp only[evalOp,R.run_bind,Aj,aAB,hx,hy,hw,CG,R.AP,Ay,ho,R.AB,hrg,aAV,if_false,if_true,hk,hl]
  simp[hb',hz]
 ·simp only[evalOp,R.AF,Aj,AU,aAB,hx,hy,hw,CG,R.Ca,Ay,ho,R.Cy,hrg,aAV,if_false,if_true]
theorem Ut {i:Nat} {q q':α} {c:Prop} {v':D} {wo:List (Nat×Ac)} {rk:List Key} (hg:gOn e g=true) (hx:Aa e x=some (.optr gi vi i off)) (hy:Aa e y=some v) (hw:strip v=(true,v)) (ho:lkO o gi=some (vi,⟨false,false,s,ty,l.map en⟩))
  (hr:(res v).run ⟨e,o,n⟩=(c,v',wo)) (hrd:(res v).rd ⟨e,o,n⟩=rk) (hc:c) (hi:l[i]? =some q) (hk:known v'=true) (hl:(cells v').length=m) (hb:aAe (off+m) (cells (en q)).length=true)
  (hz:QG (en q) off (cells v')=en q') (hwo:wo.all (λx=>x.1 != gi)=true)
  (h:TrO Γ r (nv+1) ⟨e,(gi,some (vi,⟨false,false,s,ty,(l.set i q').map en⟩))::(wo++o),n⟩ d (acc++[(gK g++(rdK x++(rdK y++(.o gi::rk))),.o gi::wo.map (λx=>.o x.1),af)]) K t) (hrg:Ab gi=false:=by rfl) :
  TrO Γ (⟨none,.st m x y,g,af⟩::r) nv ⟨e,o,n⟩ d acc K t:=by
 have hb':=aAM hb
 obtain⟨hi',rfl⟩:=aAA.1 hi
 refine Al hg (c:=True) (we:=[]) (wo:=(gi,some (vi,⟨false,false,s,ty,(l.set i q').map en⟩))::wo) (rd:=rdK x++(rdK y++(Key.o gi::rk))) ?_ ?_ trivial (by simpa using h)
 ·simp only[evalOp,R.run_bind,Aj,aAB,hx,hy,hw,CG,R.AP,Ay,ho,hrg,aAV,if_false,hr,R.run_pure]
  have hq:(l.map en).getD i .top=en l[i]:=by simp[hi']
  rw[hq,hz]
  simp[hc,hi',hb',hk,hl,hwo,<- aBA]
 ·simp only[evalOp,R.AF,Aj,AU,aAB,hx,hy,hw,CG,R.Ca,Ay,ho,hrg,aAV,if_false,hrd,hr,R.Bh]
  simp
theorem IF (hg:gOn e g=true) (hx:Aa e x=some v) (hv:(match v with| .optr .. | .fptr ..=>true|_=>false)=true) (h:TrO Γ r (nv+1) ⟨(dst,v)::e,o,n⟩ d (acc++[(gK g++rdK x,[.e dst],af)]) K t) :
  TrO Γ (⟨some dst,.nilck x,g,af⟩::r) nv ⟨e,o,n⟩ d acc K t :=
 Al hg (c:=True) (we:=[(dst,v)]) (wo:=[]) (rd:=rdK x) (by cases v<;>simp[hx]at hv ⊢) (by cases v<;>simp[hx]at hv ⊢) trivial h
theorem Gi {op:BinOp} {c:Prop} (hg:gOn e g=true) (hx:Aa e x=some (.int k a)) (hy:Aa e y=some (.int k' b)) (hb:HV op (.int k a) (.int k' b)=(c,v)) (hc:c)
  (h:TrO Γ r (nv+1) ⟨(dst,v)::e,o,n⟩ d (acc++[(gK g++(rdK x++rdK y),[.e dst],af)]) K t) :
  TrO Γ (⟨some dst,.bin op x y,g,af⟩::r) nv ⟨e,o,n⟩ d acc K t :=
 Al hg (c:=c) (we:=[(dst,v)]) (wo:=[]) (rd:=rdK x++rdK y) (by simp[hx,hy,hb]) (by simp) hc h
theorem Dy {op:BinOp} {c:Prop} {p q:List UInt8} (hg:gOn e g=true) (hx:Aa e x=some (.str p)) (hy:Aa e y=some (.str q)) (hb:HV op (.str p) (.str q)=(c,v)) (hc:c)
  (h:TrO Γ r (nv+1) ⟨(dst,v)::e,o,n⟩ d (acc++[(gK g++(rdK x++rdK y),[.e dst],af)]) K t) :
  TrO Γ (⟨some dst,.bin op x y,g,af⟩::r) nv ⟨e,o,n⟩ d acc K t :=
 Al hg (c:=c) (we:=[(dst,v)]) (wo:=[]) (rd:=rdK x++rdK y) (by simp[hx,hy,hb]) (by simp) hc h
theorem KA {neg p q:Bool} (hg:gOn e g=true) (hx:Aa e x=some (.bool p)) (hy:Aa e y=some (.bool q))
  (h:TrO Γ r (nv+1) ⟨(dst,.bool (if neg then !(p==q)else(p==q)))::e,o,n⟩ d (acc++[(gK g++(rdK x++rdK y),[.e dst],af)]) K t) :
  TrO Γ (⟨some dst,.eqB neg x y,g,af⟩::r) nv ⟨e,o,n⟩ d acc K t :=
 Al hg (c:=True) (we:=[(dst,.bool (if neg then !(p==q)else(p==q)))]) (wo:=[]) (rd:=rdK x++rdK y) (by simp[hx,hy]) (by simp[hx,hy]) trivial h
theorem Kz {neg p:Bool} {c:Prop} {cs cs':List D} (hg:gOn e g=true) (hx:Aa e x=some (.agg cs)) (hy:Aa e y=some (.agg cs')) (hq:eqL cs cs'=(c,p)) (hc:c) (hn:aAN cs.length m=true)
  (h:TrO Γ r (nv+1) ⟨(dst,.bool (if neg then !p else p))::e,o,n⟩ d (acc++[(gK g++(rdK x++rdK y),[.e dst],af)]) K t) :
  TrO Γ (⟨some dst,.eqA m neg x y,g,af⟩::r) nv ⟨e,o,n⟩ d acc K t:=by
 have hn':=aAS hn
 exact Al hg (c:=True) (we:=[(dst,.bool (if neg then !p else p))]) (wo:=[]) (rd:=rdK x++rdK y) (by simp[hx,hy,hq,hc,hn']) (by simp[hx,hy]) trivial h
theorem Mt {op:UnOp} {c:Prop} (hg:gOn e g=true) (hx:Aa e x=some v) (hw:strip v=(true,v)) (hb:unD op v=(c,w)) (hc:c)
  (h:TrO Γ r (nv+1) ⟨(dst,w)::e,o,n⟩ d (acc++[(gK g++rdK x,[.e dst],af)]) K t) :
  TrO Γ (⟨some dst,.un op x,g,af⟩::r) nv ⟨e,o,n⟩ d acc K t :=
 Al hg (c:=c) (we:=[(dst,w)]) (wo:=[]) (rd:=rdK x) (by simp only[evalOp,R.run_bind,Aj,aAB,hx,hw,hb,R.run_pure,Bu,Ad];simp) (by simp) hc h
theorem Ky (hg:gOn e g=true) (hx:Aa e x=some (.int k' a)) (h:TrO Γ r (nv+1) ⟨(dst,.int k (k.wrap a))::e,o,n⟩ d (acc++[(gK g++rdK x,[.e dst],af)]) K t) :
  TrO Γ (⟨some dst,.cvt k x,g,af⟩::r) nv ⟨e,o,n⟩ d acc K t :=
 Al hg (c:=True) (we:=[(dst,.int k (k.wrap a))]) (wo:=[]) (rd:=rdK x) (by simp[hx]) (by simp[hx]) trivial h
theorem Ov {bytes:Nat} {q:α} (en:α->D) (hg:gOn e g=true) (hx:Aa e x=some (.int k a)) (hy:Aa e y=some (.int k' a)) (hz:z=en q) (hl:0<=a/\a<=16777216) (hby:aAe bytes 65536=true)
  (h:TrO Γ r (nv+1) ⟨(dst,.osl dst nv 0 (aAX a.toNat q).length)::e,(dst,some (nv,⟨false,false,s,ty,(aAX a.toNat q).map en⟩))::o,n⟩ d (acc++[(gK g++(rdK x++rdK y),[.e dst,.o dst],af)]) K t) :
  TrO Γ (⟨some dst,.mkS s ty bytes z x y,g,af⟩::r) nv ⟨e,o,n⟩ d acc K t:=by
 have:=aAM hby
 subst hz
 exact Al hg (c:=True) (we:=[(dst,.osl dst nv 0 (aAX a.toNat q).length)]) (wo:=[(dst,some (nv,⟨false,false,s,ty,(aAX a.toNat q).map en⟩))]) (rd:=rdK x++rdK y) (by simp[hx,hy,hl,this]) (by simp[hx,hy]) trivial h
theorem JE (hg:gOn e g=true) {i:Nat} (hx:Aa e x=some (.optr gi vi i off)) (h:TrO Γ r (nv+1) ⟨(dst,.optr gi vi i (off+m))::e,o,n⟩ d (acc++[(gK g++rdK x,[.e dst],af)]) K t) :
  TrO Γ (⟨some dst,.fldA m x,g,af⟩::r) nv ⟨e,o,n⟩ d acc K t :=
 Al hg (c:=True) (we:=[(dst,.optr gi vi i (off+m))]) (wo:=[]) (rd:=rdK x) (by simp[hx]) (by simp[hx]) trivial h
theorem HJ (hg:gOn e g=true) (hx:Aa e x=some (.fptr z off)) (h:TrO Γ r (nv+1) ⟨(dst,.fptr z (off+m))::e,o,n⟩ d (acc++[(gK g++rdK x,[.e dst],af)]) K t) :
  TrO Γ (⟨some dst,.fldA m x,g,af⟩::r) nv ⟨e,o,n⟩ d acc K t :=
 Al hg (c:=True) (we:=[(dst,.fptr z (off+m))]) (wo:=[]) (rd:=rdK x) (by simp[hx]) (by simp[hx]) trivial h
theorem KC {cs:List D} {agg:Bool} (hg:gOn e g=true) (hx:Aa e x=some (.agg cs)) (hb:aAe (off+m) cs.length=true) (hv:QN cs off m agg=v)
  (h:TrO Γ r (nv+1) ⟨(dst,v)::e,o,n⟩ d (acc++[(gK g++rdK x,[.e dst],af)]) K t) :
  TrO Γ (⟨some dst,.fld off m agg x,g,af⟩::r) nv ⟨e,o,n⟩ d acc K t:=by
 have hb':=aAM hb
 exact Al hg (c:=True) (we:=[(dst,v)]) (wo:=[]) (rd:=rdK x) (by simp[hx,hb',hv]) (by simp[hx]) trivial h
theorem DR {q:α} (hg:gOn e g=true) (hx:Aa e x=some (.sl (l.map en))) (hy:Aa e y=some (.int k a)) (hi:ixO l a=some q) (hs:(cells (en q)).length=s)
  (h:TrO Γ r (nv+1) ⟨(dst,.fptr (en q) 0)::e,o,n⟩ d (acc++[(gK g++(rdK x++rdK y),[.e dst],af)]) K t) :
  TrO Γ (⟨some dst,.ixA s x y,g,af⟩::r) nv ⟨e,o,n⟩ d acc K t:=by
 obtain⟨h0,h1,h2⟩:=AcW hi
 refine Al hg (c:=True) (we:=[(dst,.fptr (en q) 0)]) (wo:=[]) (rd:=rdK x++rdK y) ?_ (by simp[hx,hy]) trivial h
 have hq:(l.map en).getD a.toNat .top=en q:=by simp[h2]
 simp only[evalOp,R.run_bind,Aj,aAB,hx,hy,strip,R.run_pure,Ad,hq,hs]
 simp[h0,h1]
theorem Xt {q:Nat} (hq:q=l.length) (hg:gOn e g=true) (hx:Aa e x=some (.osl gi vi 0 q)) (hy:Aa e y=some (.int k a)) (ho:lkO o gi=some (vi,⟨fz,false,s,ty,l.map en⟩)) (hi:0<=a/\a<l.length)
  (h:TrO Γ r (nv+1) ⟨(dst,.optr gi vi a.toNat 0)::e,o,n⟩ d (acc++[(gK g++(rdK x++(rdK y++[.o gi])),[.e dst],af)]) K t) :
  TrO Γ (⟨some dst,.ixA s x y,g,af⟩::r) nv ⟨e,o,n⟩ d acc K t:=by
 subst hq
 refine Al hg (c:=True) (we:=[(dst,.optr gi vi a.toNat 0)]) (wo:=[]) (rd:=rdK x++(rdK y++[Key.o gi])) ?_ (by simp[hx,hy,ho]) trivial h
 simp only[evalOp,R.run_bind,Aj,aAB,hx,hy,strip,R.AP,Ay,ho,R.AB,Ad]
 simp[hi.1,hi.2]
theorem KB {ds:List D} {i:Nat} (hg:gOn e g=true) (hx:Aa e x=some (.tup ds)) (hi:ds[i]? =some v) (h:TrO Γ r (nv+1) ⟨(dst,v)::e,o,n⟩ d (acc++[(gK g++rdK x,[.e dst],af)]) K t) :
  TrO Γ (⟨some dst,.ext x i,g,af⟩::r) nv ⟨e,o,n⟩ d acc K t:=by
 have hl:=(aAA.1 hi).1
 exact Al hg (c:=True) (we:=[(dst,v)]) (wo:=[]) (rd:=rdK x) (by have:=(aAA.1 hi).2;simp[hx,hl,this]) (by simp[hx]) trivial h
theorem HN (hg:gOn e g=true) (hx:Aa e x=some (.sl (l.map en))) (h:TrO Γ r (nv+1) ⟨(dst,.int .i64 l.length)::e,o,n⟩ d (acc++[(gK g++rdK x,[.e dst],af)]) K t) :
  TrO Γ (⟨some dst,.len false x,g,af⟩::r) nv ⟨e,o,n⟩ d acc K t :=
 Al hg (c:=True) (we:=[(dst,.int .i64 l.length)]) (wo:=[]) (rd:=rdK x) (by simp[hx]) (by simp[hx]) trivial h
theorem GD {i q:Nat} (hg:gOn e g=true) (hx:Aa e x=some (.osl gi vi i q)) (h:TrO Γ r (nv+1) ⟨(dst,.int .i64 q)::e,o,n⟩ d (acc++[(gK g++rdK x,[.e dst],af)]) K t) :
  TrO Γ (⟨some dst,.len false x,g,af⟩::r) nv ⟨e,o,n⟩ d acc K t :=
 Al hg (c:=True) (we:=[(dst,.int .i64 q)]) (wo:=[]) (rd:=rdK x) (by simp[hx]) (by simp[hx]) trivial h
theorem GC (hg:gOn e g=true) (hx:Aa e x=some .nils) (h:TrO Γ r (nv+1) ⟨(dst,.int .i64 0)::e,o,n⟩ d (acc++[(gK g++rdK x,[.e dst],af)]) K t) :
  TrO Γ (⟨some dst,.len false x,g,af⟩::r) nv ⟨e,o,n⟩ d acc K t :=
 Al hg (c:=True) (we:=[(dst,.int .i64 0)]) (wo:=[]) (rd:=rdK x) (by simp[hx]) (by simp[hx]) trivial h
theorem GF {p:List UInt8} (hg:gOn e g=true) (hx:Aa e x=some (.str p)) (h:TrO Γ r (nv+1) ⟨(dst,.int .i64 p.length)::e,o,n⟩ d (acc++[(gK g++rdK x,[.e dst],af)]) K t) :
  TrO Γ (⟨some dst,.len true x,g,af⟩::r) nv ⟨e,o,n⟩ d acc K t :=
 Al hg (c:=True) (we:=[(dst,.int .i64 p.length)]) (wo:=[]) (rd:=rdK x) (by simp[hx]) (by simp[hx]) trivial h
theorem YS {bytes:Nat} {c c':Prop} {new old:List D} {wo:List (Nat×Ac)} {rk rk':List Key} (l l':List α) (en:α->D) (hg:gOn e g=true) (hx:Aa e x=some v) (hy:Aa e y=some w) (hvw:strip v=(true,v)) (hww:strip w=(true,w))
  (hv:(view w).run ⟨e,o,n⟩=(c,new)) (hvr:(view w).rd ⟨e,o,n⟩=rk) (hc:c) (hn:new=l'.map en)
  (ht:(target s ty v).run ⟨e,o,n⟩=(c',old,wo,false)) (htr:(target s ty v).rd ⟨e,o,n⟩=rk') (hc':c') (ho:old=l.map en)
  (hs:∀ q,(cells (en q)).length=s) (hby:aAe bytes 65536=true) (hl:l.length+l'.length<=16777216)
  (h:TrO Γ r (nv+1) ⟨(dst,.osl dst nv 0 (l++l').length)::e,(dst,some (nv,⟨false,false,s,ty,(l++l').map en⟩))::(wo++o),n⟩ d (acc++[(gK g++(rdK x++(rdK y++(rk++rk'))),[.e dst,.o dst]++wo.map (λx=>.o x.1),af)]) K t) :
  TrO Γ (⟨some dst,.app s ty bytes x y,g,af⟩::r) nv ⟨e,o,n⟩ d acc K t:=by
 have hb':=aAM hby
 subst hn;subst ho
 refine Al hg (c:=True) (we:=[(dst,.osl dst nv 0 (l++l').length)]) (wo:=(dst,some (nv,⟨false,false,s,ty,(l++l').map en⟩))::wo) (rd:=rdK x++(rdK y++(rk++rk'))) ?_ ?_ trivial (by simpa using h)
 ·simp only[evalOp,R.run_bind,Aj,aAB,hx,hy,hvw,hww,source,hv,ht,R.run_pure,Ad,CH,nmR,cond_false]
  simp[hc,hc',hl,hb',hs]
 ·simp only[evalOp,R.AF,Aj,AU,aAB,hx,hy,hvw,hww,source,hv,hvr,htr,R.Bh]
  simp
theorem KE (hg:gOn e g=true) (hx:Aa e x=some (.int k a)) (hy:Aa e y=some (.int k b)) (h:TrO Γ r (nv+1) ⟨(dst,.int k (TR a b))::e,o,n⟩ d (acc++[(gK g++(rdK x++rdK y),[.e dst],af)]) K t) :
  TrO Γ (⟨some dst,.max [x,y],g,af⟩::r) nv ⟨e,o,n⟩ d acc K t :=
 Al hg (c:=True) (we:=[(dst,.int k (TR a b))]) (wo:=[]) (rd:=rdK x++rdK y) (by simp[AL,hx,hy,HZ]) (by simp[AL,hx,hy]) trivial h
theorem KF (hg:gOn e g=true) (hx:Aa e x=some (.int k a)) (hy:Aa e y=some (.int k b)) (h:TrO Γ r (nv+1) ⟨(dst,.int k (WW a b))::e,o,n⟩ d (acc++[(gK g++(rdK x++rdK y),[.e dst],af)]) K t) :
  TrO Γ (⟨some dst,.min [x,y],g,af⟩::r) nv ⟨e,o,n⟩ d acc K t :=
 Al hg (c:=True) (we:=[(dst,.int k (WW a b))]) (wo:=[]) (rd:=rdK x++rdK y) (by simp[AL,hx,hy,HZ]) (by simp[AL,hx,hy]) trivial h
theorem Fp {hi:Arg} (hg:gOn e g=true) (hx:Aa e x=some (.sl (l.map en))) (hy:Aa e hi=some (.int k a)) (hs:∀ q,(cells (en q)).length=s) (hp:aAW 0 s=true) (hl:0<=a/\a<=l.length)
  (h:TrO Γ r (nv+1) ⟨(dst,.sl ((l.take a.toNat).map en))::e,o,n⟩ d (acc++[(gK g++(rdK x++rdK hi),[.e dst],af)]) K t) :
  TrO Γ (⟨some dst,.slc s x none (some hi),g,af⟩::r) nv ⟨e,o,n⟩ d acc K t:=by
 have hp':0<s:=by simpa using hp
 refine Al hg (c:=True) (we:=[(dst,.sl ((l.take a.toNat).map en))]) (wo:=[]) (rd:=rdK x++rdK hi) ?_ ?_ trivial h
 ·simp only[evalOp,R.run_bind,Aj,aAB,hx,hy,strip,Bi,R.AB,R.run_pure,Bm,fits,BF,bound,Bu,Ad]
  simp[hl,hs,hp',List.map_take]
 ·simp[Bi,hx,hy,fits]
theorem Fq {lo:Arg} (hg:gOn e g=true) (hx:Aa e x=some (.sl (l.map en))) (hy:Aa e lo=some (.int k a)) (hs:∀ q,(cells (en q)).length=s) (hp:aAW 0 s=true) (hl:0<=a/\a<=l.length)
  (h:TrO Γ r (nv+1) ⟨(dst,.sl ((l.drop a.toNat).map en))::e,o,n⟩ d (acc++[(gK g++(rdK x++rdK lo),[.e dst],af)]) K t) :
  TrO Γ (⟨some dst,.slc s x (some lo) none,g,af⟩::r) nv ⟨e,o,n⟩ d acc K t:=by
 have hp':0<s:=by simpa using hp
 refine Al hg (c:=True) (we:=[(dst,.sl ((l.drop a.toNat).map en))]) (wo:=[]) (rd:=rdK x++rdK lo) ?_ ?_ trivial h
 ·have ht:aAf (l.length-a.toNat) (aAk a.toNat (l.map en))=(l.drop a.toNat).map en:=by
   rw[<- aBK];exact aAJ (by simp)
  simp only[evalOp,R.run_bind,Aj,aAB,hx,hy,strip,Bi,R.AB,R.run_pure,Bm,fits,BF,bound,Bu,Ad,aAc,Int.toNat_natCast]
  rw[ht]
  simp[hl,hs,hp']
 ·simp[Bi,hx,hy,fits]
theorem VW {hi:Arg} {q:Nat} (hq:q=l.length) (hg:gOn e g=true) (hx:Aa e x=some (.osl gi vi 0 q)) (hy:Aa e hi=some (.int k a)) (ho:lkO o gi=some (vi,⟨fz,var,s,ty,es⟩)) (hp:aAW 0 s=true) (hl:0<=a/\a<=l.length)
  (h:TrO Γ r (nv+1) ⟨(dst,.osl gi vi 0 a.toNat)::e,o,n⟩ d (acc++[(gK g++(rdK x++(rdK hi++[.o gi])),[.e dst],af)]) K t) :
  TrO Γ (⟨some dst,.slc s x none (some hi),g,af⟩::r) nv ⟨e,o,n⟩ d acc K t:=by
 subst hq
 have hp':0<s:=by simpa using hp
 refine Al hg (c:=True) (we:=[(dst,.osl gi vi 0 a.toNat)]) (wo:=[]) (rd:=rdK x++(rdK hi++[Key.o gi])) ?_ ?_ trivial h
 ·simp only[evalOp,R.run_bind,Aj,aAB,hx,hy,strip,Bi,R.AB,R.run_pure,Bm,fits,R.AP,Ay,ho,BF,bound,Bu,Ad]
  simp[hl,hp']
 ·simp[Bi,hx,hy,fits,ho]
theorem EK {lo:Arg} {q:Nat} (hq:q=l.length) (hg:gOn e g=true) (hx:Aa e x=some (.osl gi vi 0 q)) (hy:Aa e lo=some (.int k a)) (ho:lkO o gi=some (vi,⟨fz,var,s,ty,es⟩)) (hp:aAW 0 s=true) (hl:0<=a/\a<=l.length)
  (h:TrO Γ r (nv+1) ⟨(dst,.osl gi vi a.toNat (l.length-a.toNat))::e,o,n⟩ d (acc++[(gK g++(rdK x++(rdK lo++[.o gi])),[.e dst],af)]) K t) :
  TrO Γ (⟨some dst,.slc s x (some lo) none,g,af⟩::r) nv ⟨e,o,n⟩ d acc K t:=by
 subst hq
 have hp':0<s:=by simpa using hp
 refine Al hg (c:=True) (we:=[(dst,.osl gi vi a.toNat (l.length-a.toNat))]) (wo:=[]) (rd:=rdK x++(rdK lo++[Key.o gi])) ?_ ?_ trivial h
 ·simp only[evalOp,R.run_bind,Aj,aAB,hx,hy,strip,Bi,R.AB,R.run_pure,Bm,fits,R.AP,Ay,ho,BF,bound,Bu,Ad]
  simp[hl,hp']
 ·simp[Bi,hx,hy,fits,ho]
theorem HO {lo hi:Arg} {k2:IntKind} (hg:gOn e g=true) (hx:Aa e x=some (.sl (l.map en))) (hy:Aa e lo=some (.int k a)) (hz:Aa e hi=some (.int k2 b)) (hs:∀ q,(cells (en q)).length=s) (hp:aAW 0 s=true) (hl:0<=a/\a<=b/\b<=l.length)
  (h:TrO Γ r (nv+1) ⟨(dst,.sl (((l.drop a.toNat).take (b.toNat-a.toNat)).map en))::e,o,n⟩ d (acc++[(gK g++(rdK x++(rdK lo++rdK hi)),[.e dst],af)]) K t) :
  TrO Γ (⟨some dst,.slc s x (some lo) (some hi),g,af⟩::r) nv ⟨e,o,n⟩ d acc K t:=by
 have hp':0<s:=by simpa using hp
 refine Al hg (c:=True) (we:=[(dst,.sl (((l.drop a.toNat).take (b.toNat-a.toNat)).map en))]) (wo:=[]) (rd:=rdK x++(rdK lo++rdK hi)) ?_ ?_ trivial h
 ·simp only[evalOp,R.run_bind,Aj,aAB,hx,hy,hz,strip,Bi,R.AB,R.run_pure,Bm,fits,BF,bound,Bu,Ad]
  simp[hl,hs,hp',List.map_take,aBK]
 ·simp[Bi,hx,hy,hz,fits]
end
section
variable {A B:Type}
def Ql (ptr:List (Nat×(Nat×Nat))) (kind:Kind) (enc:A->List D) (dec:List D->A) (f:A->Option B) (encR:B->D) (encE:B->List D):Spec where
 ptr:=ptr
 kind:=kind
 pre:=λds=>∃ a b,ds=enc a/\f a=some b
 res:=λds=>match f (dec ds)with|some b=>encR b|none=>.top
 eff:=λds=>match f (dec ds)with|some b=>encE b|none=>[]
variable {ptr:List (Nat×(Nat×Nat))} {kind:Kind} {enc:A->List D} {dec:List D->A} {f:A->Option B} {encR:B->D} {encE:B->List D} {a:A} {b:B}
theorem BG (hde:∀ a,dec (enc a)=a) (hf:f a=some b):(Ql ptr kind enc dec f encR encE).res (enc a)=encR b:=by simp[Ql,hde,hf]
theorem CR (hde:∀ a,dec (enc a)=a) (hf:f a=some b):(Ql ptr kind enc dec f encR encE).eff (enc a)=encE b:=by simp[Ql,hde,hf]
def BA (ptr:List (Nat×(Nat×Nat))) (kind:Kind) (rs:List Be) (encR:B->D) (encE:B->List D):B->Ax->S->Prop:=λb e τ =>
 match e with
 | .exit _=>False
 | _=>Wk (Cl ⟨ptr,kind,λ_=>True,λ_=>encR b,λ_=>encE b⟩ rs []) τ
theorem Pv {P:Program} {Γ:Ar} (hΓ:∀ k sp,Γ k=some sp->Qi P (k % 4096) sp) {k:Nat} {fn:Func} {dc:Ru} {rs:List Be} (hf:P.funcs[k]? =some fn) (hname:(fn.name == "runtime.NumGoroutine")=false)
  (hc:(fn.body.bind (SE P fn.ntmps))=some dc) (hr:fn.results.toList.mapM (Wp P)=some rs) {np:Nat} (hnp:np<=fn.ntmps) (hde:∀ a,dec (enc a)=a) (hlen:∀ a,(enc a).length=np) (hkeys:∀ a,BJ ptr 0 (enc a)=ptr.map Prod.fst) (hptr:EW ptr=true)
  (hT:∀ a,TrE Γ dc (BA ptr kind rs encR encE) ⟨Ds ptr 0 (enc a),CE ptr 0 (enc a),262144⟩ (f a)) (hni:Cc kind=none:=by rfl) (hno:Ej kind=none:=by rfl):Qi P k (Ql ptr kind enc dec f encR encE):=by
 refine NX hΓ hf hname hc hr hnp (by rintro ds ⟨a,b,rfl,_⟩;exact⟨hlen a,hkeys a⟩) hptr ?_ hni hno
 rintro ds ⟨a,b,rfl,hb⟩ _
 have h:=hT a b hb
 refine h.mono λτ0 h=>Bw _ _ _ _ (λe τ hq=>?_) h
 have key:∀ τ,Cl ⟨ptr,kind,λ_=>True,λ_=>encR b,λ_=>encE b⟩ rs [] τ->Cl (Ql ptr kind enc dec f encR encE) rs (enc a) τ:=by
  simp only[Cl,BG hde hb,CR hde hb]
  exact λ_ h=>h
 cases e with
 | exit id=>exact hq.elim
 | normal=>exact hq.mono key
 | ret=>exact hq.mono key
end
def Am (e:List (Nat×D)):List Arg->List D
 | []=>[]
 | x::r=>(Aa e x).getD .top::Am e r
def Bn:List Arg->List Key
 | []=>[]
 | x::r=>rdK x++Bn r
section
variable {Γ:Ar} {X A B:Type} {K:KR X} {t:Option X} {e:List (Nat×D)} {o:List (Nat×Ac)} {n nv:Nat} {d:Bool} {acc:List Co}
 {r:List As} {dst:Nat} {g:Option (Nat×Bool)} {af:List Nat} {α:Type}
 {ptr:List (Nat×(Nat×Nat))} {kind:Kind} {enc:A->List D} {dec:List D->A} {f:A->Option B} {encR:B->D} {encE:B->List D} {b:B}
 {fa:Arg} {args:List Arg} {caps:List D} {k:Nat} {c:Prop} {ds:List D} {w:List (Nat×Ac)} {ps:List (Nat×Nat×Own)} {rk:List Key} {s ty:Nat}
theorem Bo:∀ args:List Arg,(AL args).run ⟨e,o,n⟩=Am e args
 | []=>rfl
 | x::r=>by simp[AL,Am,Bo r]
theorem Di:∀ args:List Arg,(AL args).rd ⟨e,o,n⟩=Bn args
 | []=>rfl
 | x::r=>by simp[AL,Bn,Di r]
theorem Dk {sp:Spec} {dst:Option Nat} {c2:Prop} {we:List (Nat×D)} {wo:List (Nat×Ac)} (hg:gOn e g=true) (hf:Aa e fa=some (.clo k caps)) (hΓ:Γ (k+4096*AN (Am e args))=some sp) (hr:(Ae sp.ptr 0 (Am e args++caps)).run ⟨e,o,n⟩=(c,ds,w,ps))
  (hk:(Ae sp.ptr 0 (Am e args++caps)).rd ⟨e,o,n⟩=rk) (hco:Bg dst nv sp c ds w ps=⟨c2,we,wo⟩) (hc:c2)
  (h:TrO Γ r (nv+1) ⟨we++e,wo++o,n⟩ d (acc++[(gK g++(rdK fa++(Bn args++rk)),we.map (λx=>.e x.1)++wo.map (λx=>.o x.1),af)]) K t) (hin:Cc sp.kind=none:=by rfl) (hkb:aAW k 4096=true:=by rfl) :
  TrO Γ (⟨dst,.call fa args,g,af⟩::r) nv ⟨e,o,n⟩ d acc K t:=by
 refine Al hg (c:=c2) (we:=we) (wo:=wo) (rd:=rdK fa++(Bn args++rk)) ?_ ?_ hc h
 ·simp only[evalOp,R.run_bind,Bm,aAB,hf,Dc hkb,hkb,Bo,hΓ,hin,hr,R.run_pure,hco]
 ·simp only[evalOp,R.AF,Bm,FI,aAB,hf,Dc hkb,hkb,Bo,hΓ,hin,Di,hr,hk,R.Bh,aAa]
theorem JF {sp:Spec} {vi gi ty' m:Nat} {l l':List Int} {fl:List Int->List Int} {fk:List Int->Nat} (hg:gOn e g=true) (hf:Aa e fa=some (.clo k caps)) (hΓ:Γ (k+4096*AN (Am e args))=some sp) (hin:Cc sp.kind=some (false,fl,fk))
  (hr:Am e args++caps=[.osl gi vi 0 m]) (hm:m=l.length) (ho:lkO o gi=some (vi,⟨false,false,1,ty',l.map (.int .i64)⟩)) (hl:l.length<4611686018427387904) (hfl:fl l=l')
  (h:TrO Γ r (nv+1) ⟨e,(gi,some (vi,⟨false,false,1,ty',l'.map (.int .i64)⟩))::o,n⟩ d (acc++[(gK g++(rdK fa++(Bn args++[.o gi])),[.o gi],af)]) K t) (hkb:aAW k 4096=true:=by rfl) :
  TrO Γ (⟨none,.call fa args,g,af⟩::r) nv ⟨e,o,n⟩ d acc K t:=by
 subst hm hfl
 have hd:(l.map (D.int .i64)).map DD=l:=by simp[aAy,DD]
 refine Al hg (c:=True) (we:=[]) (wo:=[(gi,some (vi,⟨false,false,1,ty',(fl l).map (.int .i64)⟩))]) (rd:=rdK fa++(Bn args++[Key.o gi])) ?_ ?_ trivial ?_
 ·simp only[evalOp,R.run_bind,Bm,aAB,hf,Dc hkb,hkb,Bo,hΓ,hin,hr,CF,R.AP,Ay,ho,R.AB]
  simp[Ad,hd,hl,aAJ,AD,cells,plain]
 ·simp only[evalOp,R.AF,Bm,FI,aAB,hf,Dc hkb,hkb,Bo,hΓ,hin,Di,hr,CF,R.Ca,Ay,ho,R.Cy]
 ·exact h
theorem HM {sp:Spec} {vi gi ty' m:Nat} {l l':List Int} {fl:List Int->List Int} {fk:List Int->Nat} (hg:gOn e g=true) (hf:Aa e fa=some (.clo k caps)) (hΓ:Γ (k+4096*AN (Am e args))=some sp) (hin:Cc sp.kind=some (false,fl,fk))
  (hr:Am e args++caps=[.osl gi vi 0 m]) (hm:m=l.length) (ho:lkO o gi=some (vi,⟨false,false,1,ty',l.map (.int .i64)⟩)) (hl:l.length<4611686018427387904) (hfl:fl l=l')
  (h:TrO Γ r (nv+1) ⟨(dst,.top)::e,(gi,some (vi,⟨false,false,1,ty',l'.map (.int .i64)⟩))::o,n⟩ d (acc++[(gK g++(rdK fa++(Bn args++[.o gi])),[.e dst,.o gi],af)]) K t) (hkb:aAW k 4096=true:=by rfl) :
  TrO Γ (⟨some dst,.call fa args,g,af⟩::r) nv ⟨e,o,n⟩ d acc K t:=by
 subst hm hfl
 have hd:(l.map (D.int .i64)).map DD=l:=by simp[aAy,DD]
 refine Al hg (c:=True) (we:=[(dst,.top)]) (wo:=[(gi,some (vi,⟨false,false,1,ty',(fl l).map (.int .i64)⟩))]) (rd:=rdK fa++(Bn args++[Key.o gi])) ?_ ?_ trivial ?_
 ·simp only[evalOp,R.run_bind,Bm,aAB,hf,Dc hkb,hkb,Bo,hΓ,hin,hr,CF,R.AP,Ay,ho,R.AB]
  simp[Ad,hd,hl,aAJ,AD,cells,plain]
 ·simp only[evalOp,R.AF,Bm,FI,aAB,hf,Dc hkb,hkb,Bo,hΓ,hin,Di,hr,CF,R.Ca,Ay,ho,R.Cy]
 ·exact h
theorem FV {sp:Spec} {vi gi ty' m:Nat} {l l':List Int} {fl:List Int->List Int} {fk:List Int->Nat} (hg:gOn e g=true) (hf:Aa e fa=some (.clo k caps)) (hΓ:Γ (k+4096*AN (Am e args))=some sp) (hin:Cc sp.kind=some (true,fl,fk))
  (hr:Am e args++caps=[.osl gi vi 0 m]) (hm:m=l.length) (ho:lkO o gi=some (vi,⟨false,false,1,ty',l.map (.int .i64)⟩)) (hl:l.length<4611686018427387904) (hfl:(fl l).take (fk l)=l') (hfk:fk l=l'.length)
  (h:TrO Γ r (nv+1) ⟨(dst,.osl gi vi 0 l'.length)::e,(gi,some (vi,⟨false,false,1,ty',l'.map (.int .i64)⟩))::o,n⟩ d (acc++[(gK g++(rdK fa++(Bn args++[.o gi])),[.e dst,.o gi],af)]) K t) (hkb:aAW k 4096=true:=by rfl) :
  TrO Γ (⟨some dst,.call fa args,g,af⟩::r) nv ⟨e,o,n⟩ d acc K t:=by
 subst hm hfl
 have hd:(l.map (D.int .i64)).map DD=l:=by simp[aAy,DD]
 refine Al hg (c:=True) (we:=[(dst,.osl gi vi 0 ((fl l).take (fk l)).length)]) (wo:=[(gi,some (vi,⟨false,false,1,ty',((fl l).take (fk l)).map (.int .i64)⟩))]) (rd:=rdK fa++(Bn args++[Key.o gi])) ?_ ?_ trivial ?_
 ·simp only[evalOp,R.run_bind,Bm,aAB,hf,Dc hkb,hkb,Bo,hΓ,hin,hr,CF,R.AP,Ay,ho,R.AB]
  simp[Ad,hd,hl,aAJ,AD,cells,plain]
  rw[List.length_take]at hfk
  exact⟨hfk,by rw[List.drop_of_length_le (by simp),aAa]⟩
 ·simp only[evalOp,R.AF,Bm,FI,aAB,hf,Dc hkb,hkb,Bo,hΓ,hin,Di,hr,CF,R.Ca,Ay,ho,R.Cy]
 ·exact h
theorem FU (a:A) (hg:gOn e g=true) (hf:Aa e fa=some (.clo k caps)) (hΓ:Γ (k+4096*AN (Am e args))=some (Ql ptr .val enc dec f encR encE)) (hde:∀ a,dec (enc a)=a) (hr:(Ae ptr 0 (Am e args++caps)).run ⟨e,o,n⟩=(c,ds,w,ps))
  (hk:(Ae ptr 0 (Am e args++caps)).rd ⟨e,o,n⟩=rk) (hc:c) (hds:ds=enc a) (hb:f a=some b)
  (h:TrO Γ r (nv+1) ⟨(dst,encR b)::e,(Ai ps (encE b)++w)++o,n⟩ d (acc++[(gK g++(rdK fa++(Bn args++rk)),.e dst::(Ai ps (encE b)++w).map (λx=>.o x.1),af)]) K t) (hkb:aAW k 4096=true:=by rfl) :
  TrO Γ (⟨some dst,.call fa args,g,af⟩::r) nv ⟨e,o,n⟩ d acc K t:=by
 subst hds
 refine Dk (hkb:=hkb) hg hf hΓ (sp:=Ql ptr .val enc dec f encR encE) hr hk (c2:=c/\∃ a' b',enc a=enc a'/\f a'=some b') (we:=[(dst,encR b)]) (wo:=Ai ps (encE b)++w) ?_ ⟨hc,a,b,rfl,hb⟩ h
 simp only[Bg,BG hde hb,CR hde hb,Ad]
 rfl
theorem Fm (a:A) (hg:gOn e g=true) (hf:Aa e fa=some (.clo k caps)) (hΓ:Γ (k+4096*AN (Am e args))=some (Ql ptr .val enc dec f encR encE)) (hde:∀ a,dec (enc a)=a) (hr:(Ae ptr 0 (Am e args++caps)).run ⟨e,o,n⟩=(c,ds,w,ps))
  (hk:(Ae ptr 0 (Am e args++caps)).rd ⟨e,o,n⟩=rk) (hc:c) (hds:ds=enc a) (hb:f a=some b)
  (h:TrO Γ r (nv+1) ⟨e,(Ai ps (encE b)++w)++o,n⟩ d (acc++[(gK g++(rdK fa++(Bn args++rk)),(Ai ps (encE b)++w).map (λx=>.o x.1),af)]) K t) (hkb:aAW k 4096=true:=by rfl) :
  TrO Γ (⟨none,.call fa args,g,af⟩::r) nv ⟨e,o,n⟩ d acc K t:=by
 subst hds
 refine Dk (hkb:=hkb) hg hf hΓ (sp:=Ql ptr .val enc dec f encR encE) hr hk (c2:=c/\∃ a' b',enc a=enc a'/\f a'=some b') (we:=[]) (wo:=Ai ps (encE b)++w) ?_ ⟨hc,a,b,rfl,hb⟩ h
 simp only[Bg,BG hde hb,CR hde hb,Ad]
 rfl
theorem El (a:A) (hg:gOn e g=true) (hf:Aa e fa=some (.clo k caps)) (hΓ:Γ (k+4096*AN (Am e args))=some (Ql [] .ground enc dec f encR encE)) (hde:∀ a,dec (enc a)=a) (hr:(Ae [] 0 (Am e args++caps)).run ⟨e,o,n⟩=(c,ds,w,ps))
  (hk:(Ae [] 0 (Am e args++caps)).rd ⟨e,o,n⟩=rk) (hc:c) (hds:ds=enc a) (hb:f a=some b) (hgr:isGround (encR b)=true)
  (h:TrO Γ r (nv+1) ⟨(dst,encR b)::e,o,n⟩ d (acc++[(gK g++(rdK fa++(Bn args++rk)),[.e dst],af)]) K t) (hkb:aAW k 4096=true:=by rfl) :
  TrO Γ (⟨some dst,.call fa args,g,af⟩::r) nv ⟨e,o,n⟩ d acc K t:=by
 subst hds
 refine Dk (hkb:=hkb) hg hf hΓ (sp:=Ql [] .ground enc dec f encR encE) hr hk (c2:=c/\(∃ a' b',enc a=enc a'/\f a'=some b')/\isGround (encR b)=true/\([]:List (Nat×(Nat×Nat)))=[]) (we:=[(dst,encR b)]) (wo:=[]) ?_ ⟨hc,⟨a,b,rfl,hb⟩,hgr,rfl⟩ h
 simp only[Bg,BG hde hb,Ad]
 simp[Ql]
theorem FT (a:A) {l:List α} {en:α->D} (hg:gOn e g=true) (hf:Aa e fa=some (.clo k caps)) (hΓ:Γ (k+4096*AN (Am e args))=some (Ql ptr (.row s ty) enc dec f encR encE)) (hde:∀ a,dec (enc a)=a) (hr:(Ae ptr 0 (Am e args++caps)).run ⟨e,o,n⟩=(c,ds,w,ps))
  (hk:(Ae ptr 0 (Am e args++caps)).rd ⟨e,o,n⟩=rk) (hc:c) (hds:ds=enc a) (hb:f a=some b) (hl:encR b= .sl (l.map en))
  (h:TrO Γ r (nv+1) ⟨(dst,.osl dst nv 0 l.length)::e,((dst,some (nv,⟨false,false,s,ty,l.map en⟩))::(Ai ps (encE b)++w))++o,n⟩ d (acc++[(gK g++(rdK fa++(Bn args++rk)),.e dst:: .o dst::(Ai ps (encE b)++w).map (λx=>.o x.1),af)]) K t) (hkb:aAW k 4096=true:=by rfl) :
  TrO Γ (⟨some dst,.call fa args,g,af⟩::r) nv ⟨e,o,n⟩ d acc K t:=by
 subst hds
 refine Dk (hkb:=hkb) hg hf hΓ (sp:=Ql ptr (.row s ty) enc dec f encR encE) hr hk (c2:=c/\(∃ a' b',enc a=enc a'/\f a'=some b')/\(some dst).isSome=true) (we:=[(dst,.osl dst nv 0 l.length)]) (wo:=(dst,some (nv,⟨false,false,s,ty,l.map en⟩))::(Ai ps (encE b)++w)) ?_ ⟨hc,⟨a,b,rfl,hb⟩,rfl⟩ h
 simp only[Bg,BG hde hb,CR hde hb,hl,Ad,AH]
 simp[Ql]
theorem FR (a:A) (hg:gOn e g=true) (hf:Aa e fa=some (.clo k caps)) (hΓ:Γ (k+4096*AN (Am e args))=some (Ql ptr (.ptr s ty) enc dec f encR encE)) (hde:∀ a,dec (enc a)=a) (hr:(Ae ptr 0 (Am e args++caps)).run ⟨e,o,n⟩=(c,ds,w,ps))
  (hk:(Ae ptr 0 (Am e args++caps)).rd ⟨e,o,n⟩=rk) (hc:c) (hds:ds=enc a) (hb:f a=some b)
  (h:TrO Γ r (nv+1) ⟨(dst,.optr dst nv 0 0)::e,((dst,some (nv,⟨false,true,s,ty,[encR b]⟩))::(Ai ps (encE b)++w))++o,n⟩ d (acc++[(gK g++(rdK fa++(Bn args++rk)),.e dst:: .o dst::(Ai ps (encE b)++w).map (λx=>.o x.1),af)]) K t) (hkb:aAW k 4096=true:=by rfl) :
  TrO Γ (⟨some dst,.call fa args,g,af⟩::r) nv ⟨e,o,n⟩ d acc K t:=by
 subst hds
 refine Dk (hkb:=hkb) hg hf hΓ (sp:=Ql ptr (.ptr s ty) enc dec f encR encE) hr hk (c2:=c/\(∃ a' b',enc a=enc a'/\f a'=some b')/\(some dst).isSome=true) (we:=[(dst,.optr dst nv 0 0)]) (wo:=(dst,some (nv,⟨false,true,s,ty,[encR b]⟩))::(Ai ps (encE b)++w)) ?_ ⟨hc,⟨a,b,rfl,hb⟩,rfl⟩ h
 simp only[Bg,BG hde hb,CR hde hb,Ad,AH]
 simp[Ql]
theorem NJ (a:A) {q:Nat} {rs:List D} {z:D} (hg:gOn e g=true) (hf:Aa e fa=some (.clo k caps)) (hΓ:Γ (k+4096*AN (Am e args))=some (Ql ptr (.tupPtr q s ty) enc dec f encR encE)) (hde:∀ a,dec (enc a)=a) (hr:(Ae ptr 0 (Am e args++caps)).run ⟨e,o,n⟩=(c,ds,w,ps))
  (hk:(Ae ptr 0 (Am e args++caps)).rd ⟨e,o,n⟩=rk) (hc:c) (hds:ds=enc a) (hb:f a=some b) (hl:encR b= .tup rs) (hz:rs.getD q .top=z)
  (h:TrO Γ r (nv+1) ⟨(dst,.tup (rs.set q (.optr dst nv 0 0)))::e,((dst,some (nv,⟨false,true,s,ty,[z]⟩))::(Ai ps (encE b)++w))++o,n⟩ d (acc++[(gK g++(rdK fa++(Bn args++rk)),.e dst:: .o dst::(Ai ps (encE b)++w).map (λx=>.o x.1),af)]) K t) (hkb:aAW k 4096=true:=by rfl) :
  TrO Γ (⟨some dst,.call fa args,g,af⟩::r) nv ⟨e,o,n⟩ d acc K t:=by
 subst hds
 subst hz
 refine Dk (hkb:=hkb) hg hf hΓ (sp:=Ql ptr (.tupPtr q s ty) enc dec f encR encE) hr hk (c2:=c/\(∃ a' b',enc a=enc a'/\f a'=some b')/\(some dst).isSome=true) (we:=[(dst,.tup (rs.set q (.optr dst nv 0 0)))]) (wo:=(dst,some (nv,⟨false,true,s,ty,[rs.getD q .top]⟩))::(Ai ps (encE b)++w)) ?_ ⟨hc,⟨a,b,rfl,hb⟩,rfl⟩ h
 simp only[Bg,BG hde hb,CR hde hb,hl,Ad,AH]
 simp[Ql]
theorem Qa {q:Nat} (hg:gOn e g=true) (hx:Am e args=caps) (hc:∀ d∈caps,Ig d=true)
  (h:TrO Γ r (nv+1) ⟨(dst,.clo q caps)::e,o,n⟩ d (acc++[(gK g++Bn args,[.e dst],af)]) K t):TrO Γ (⟨some dst,.mkf q args,g,af⟩::r) nv ⟨e,o,n⟩ d acc K t :=
 Al hg (c:=∀ d∈caps,Ig d=true) (we:=[(dst,.clo q caps)]) (wo:=[]) (rd:=Bn args) (by simp[evalOp,Bo,hx,Ad]) (by simp[evalOp,Di]) hc h
end
@[simp] theorem Lp (g:Nat):(Ab g=false)↔g<4096:=by
 simp only[Ab]
 cases hb:aAe 4096 g
 ·simp only[true_iff];by_cases h:g<4096
  ·exact h
  ·rw[Nat.ble_eq_true_of_le (by omega)]at hb;cases hb
 ·have:=aAM hb;simp;omega
@[simp] theorem PN (g:Nat):(Ab g=true)↔4096<=g:=by
 have:=Lp g
 cases hb:Ab g<;>simp_all<;>omega
section
variable {B α:Type} {e:List (Nat×D)} {o:List (Nat×Ac)} {n np:Nat} {ptr:List (Nat×(Nat×Nat))} {encR:B->D} {encE:B->List D} {b:B} {r0:Be} {rs:List Be}
 {ce c c1:Prop} {effs ds:List D} {we w:List (Nat×Ac)} {d0 d1:D} {s ty g:Nat}
theorem WM (he:(BN ptr).run ⟨e,o,n⟩=(ce,effs,we)) (hce:ce) (heff:effs=encE b) (hr:(Er r0).run ⟨e,o,n⟩=(c,d0,w)) (hc:c) (hd:d0=encR b):TrX .ret (BA ptr .val [r0] encR encE) ⟨e,o,n⟩ (some b):=by
 rintro _ ⟨⟩
 refine⟨_,.refl _,?_⟩
 simp only[Cl,he,hr]
 exact⟨hce,heff,hc,hd⟩
theorem Lm (he:(BN ptr).run ⟨e,o,n⟩=(ce,effs,we)) (hce:ce) (heff:effs=encE b) (hr:(Er r0).run ⟨e,o,n⟩=(c,d0,w)) (hc:c) (hd:d0=encR b):TrX .ret (BA ptr .ground [r0] encR encE) ⟨e,o,n⟩ (some b):=by
 rintro _ ⟨⟩
 refine⟨_,.refl _,?_⟩
 simp only[Cl,he,hr]
 exact⟨hce,heff,hc,hd⟩
theorem Fl {_q:D->Prop} (h:rs.length≠1) (hk:ce/\effs=encE b/\c/\ .tup ds=encR b/\rs.length≠1) (he:(BN ptr).run ⟨e,o,n⟩=(ce,effs,we)) (hr:(AG rs).run ⟨e,o,n⟩=(c,ds,w)) (kind:Kind) (hkind:kind= .val\/kind= .ground) :
  Cl ⟨ptr,kind,λ_=>True,λ_=>encR b,λ_=>encE b⟩ rs [] ⟨e,o,n⟩:=by
 rcases hkind with rfl|rfl<;>(
  simp only[Cl,he]
  refine⟨hk.1,hk.2.1,?_⟩
  match rs,h,hr with
  | [],h,hr=>simp only[hr];exact hk.2.2
  | [_],h,_=>exact(h rfl).elim
  | _::_::_,h,hr=>simp only[hr];exact hk.2.2)
theorem SI (he:(BN ptr).run ⟨e,o,n⟩=(ce,effs,we)) (hce:ce) (heff:effs=encE b) (hr:(AG rs).run ⟨e,o,n⟩=(c,ds,w)) (hc:c) (hd: .tup ds=encR b) (hl:rs.length≠1):TrX .ret (BA ptr .val rs encR encE) ⟨e,o,n⟩ (some b):=by
 rintro _ ⟨⟩
 refine⟨_,.refl _,?_⟩
 exact Fl (_q:=λ_=>True) hl ⟨hce,heff,hc,hd,hl⟩ he hr _ (.inl rfl)
theorem Ij (he:(BN ptr).run ⟨e,o,n⟩=(ce,effs,we)) (hce:ce) (heff:effs=encE b) (hr:(AG rs).run ⟨e,o,n⟩=(c,ds,w)) (hc:c) (hd: .tup ds=encR b) (hl:rs.length≠1):TrX .ret (BA ptr .ground rs encR encE) ⟨e,o,n⟩ (some b):=by
 rintro _ ⟨⟩
 refine⟨_,.refl _,?_⟩
 exact Fl (_q:=λ_=>True) hl ⟨hce,heff,hc,hd,hl⟩ he hr _ (.inr rfl)
theorem Oi (he:(BN ptr).run ⟨e,o,n⟩=(ce,effs,we)) (hce:ce) (heff:effs=encE b) (hr:(QB r0).run ⟨e,o,n⟩=(c,d0)) (hc:c) (hs:(Ep false s ty d0).run ⟨e,o,n⟩=(c1,d1,g)) (hc1:c1) (hd:d1=encR b) (hw:we.all (λx=>x.1 != g)=true) :
  TrX .ret (BA ptr (.row s ty) [r0] encR encE) ⟨e,o,n⟩ (some b):=by
 rintro _ ⟨⟩
 refine⟨_,.refl _,?_⟩
 simp only[Cl,he,hr,hs]
 exact⟨hce,heff,hc,hc1,hd,hw⟩
theorem Oh (hr:(QB r0).run ⟨e,o,n⟩=(c,d0)) (hc:c) (hs:(Cg s ty d0).run ⟨e,o,n⟩=(c1,d1,w,g)) (hc1:c1) (hd:d1=encR b) (he:(BN ptr).run ⟨e,o,n⟩=(ce,effs,we)) (hce:ce) (heff:effs=encE b) (hrg:Ab g=false:=by rfl) :
  TrX .ret (BA ptr (.ptr s ty) [r0] encR encE) ⟨e,o,n⟩ (some b):=by
 rintro _ ⟨⟩
 refine⟨_,.refl _,?_⟩
 simp only[Cl,he,hr,hs]
 exact⟨hce,heff,hc,hc1,hd,hrg⟩
theorem Ln {q:Nat} {cA cB cP:Prop} {dA dB:List D} {dP dq:D} {wA wB wP:List (Nat×Ac)} (hq:q<rs.length) (hl:rs.length≠1) (hA:(AG (rs.take q)).run ⟨e,o,n⟩=(cA,dA,wA)) (hcA:cA) (hB:(AG (rs.drop (q+1))).run ⟨e,o,n⟩=(cB,dB,wB)) (hcB:cB)
  (hr:(QB (rs.getD q (.t 0))).run ⟨e,o,n⟩=(c,dq)) (hc:c) (hP:(Cg s ty dq).run ⟨e,o,n⟩=(cP,dP,wP,g)) (hcP:cP) (hd: .tup (dA++dP::dB)=encR b) (he:(BN []).run ⟨e,o,n⟩=(ce,effs,we)) (hce:ce) (heff:effs=encE b) :
  TrX .ret (BA [] (.tupPtr q s ty) rs encR encE) ⟨e,o,n⟩ (some b):=by
 rintro _ ⟨⟩
 refine⟨_,.refl _,?_⟩
 have key:q<rs.length/\rs.length≠1/\True/\((AG (rs.take q)).run ⟨e,o,n⟩).1/\((AG (rs.drop (q+1))).run ⟨e,o,n⟩).1/\((QB (rs.getD q (.t 0))).run ⟨e,o,n⟩).1/\((Cg s ty ((QB (rs.getD q (.t 0))).run ⟨e,o,n⟩).2).run ⟨e,o,n⟩).1 /\
   .tup (((AG (rs.take q)).run ⟨e,o,n⟩).2.1++((Cg s ty ((QB (rs.getD q (.t 0))).run ⟨e,o,n⟩).2).run ⟨e,o,n⟩).2.1::((AG (rs.drop (q+1))).run ⟨e,o,n⟩).2.1)=encR b:=by
  rw[hA,hB,hr,hP]
  exact⟨hq,hl,trivial,hcA,hcB,hc,hcP,hd⟩
 clear hA hB hr hP
 simp only[Cl,he]
 refine⟨hce,heff,?_⟩
 cases rs with
 | nil=>exact key
 | cons r0 rs=>cases rs<;>exact key
end
@[simp] theorem PI (cs:List D):cells (.agg cs)=cs:=rfl
def IZ (e:List (Nat×D)):List (Nat×D)->Prop
 | []=>True
 | (t,d)::r=>(BU e t).getD .top=d/\IZ e r
def Ja (o:List (Nat×Ac)):List (Nat×Ac)->Prop
 | []=>True
 | (g,x)::r=>lkO o g=x/\Ja o r
theorem IZ.get {e:List (Nat×D)}:∀ {E:List (Nat×D)},IZ e E->∀ p∈E,(BU e p.1).getD .top=p.2
 | [],_,p,hp=>by cases hp
 | q::r,h,p,hp=>by
  cases hp with
  | head=>exact h.1
  | tail _ hp=>exact IZ.get h.2 p hp
theorem Ja.get {o:List (Nat×Ac)}:∀ {O:List (Nat×Ac)},Ja o O->∀ p∈O,lkO o p.1=p.2
 | [],_,p,hp=>by cases hp
 | q::r,h,p,hp=>by
  cases hp with
  | head=>exact h.1
  | tail _ hp=>exact Ja.get h.2 p hp
theorem Pq {B:Type} {ptr:List (Nat×(Nat×Nat))} {kind:Kind} {rs:List Be} {encR:B->D} {encE:B->List D} {τ:S} {t:Option B} {x:Ax} {E:List (Nat×D)} {O:List (Nat×Ac)} (hh:Has τ E O) (hx:∀ id,x≠ .exit id) (h:∀ n,TrX .ret (BA ptr kind rs encR encE) ⟨E,O,n⟩ t):TrX x (BA ptr kind rs encR encE) τ t:=λr hr=>by
 obtain⟨n,hh⟩:=hh
 obtain⟨τ',h1,h2⟩:=h n r hr
 cases x with
 | exit id=>exact(hx id rfl).elim
 | normal=>exact⟨τ',hh.trans h1,h2⟩
 | ret=>exact⟨τ',hh.trans h1,h2⟩
theorem Wh {e E:List (Nat×D)} {o O:List (Nat×Ac)} {n:Nat} (hE:IZ e E) (hO:Ja o O):Has ⟨e,o,n⟩ E O:=by
 refine⟨n,?_⟩
 refine Chg.DF (τ:=⟨E,O,n⟩) [] ⟨?_,?_,?_,aAL _⟩ (.refl _)
 ·intro p hp;cases hp
 ·intro p hp
  refine .inl (.inl ?_)
  have:=hE.get p hp
  rw[BO]at this
  exact this
 ·intro p hp
  refine .inl ?_
  have:=hO.get p hp
  simp only[S.gof,List.nil_append,Ay]
  exact this
theorem Oe {x:D} {g v q q':Nat} (h1:x= .osl g v 0 q) (h2:q=q'):x= .osl g v 0 q':=h2▸h1
section
variable {e E:List (Nat×D)} {o O:List (Nat×Ac)} {n:Nat} {ws:List (Nat×Ac)} {α:Type}
def IP (e:List (Nat×D)) (o:List (Nat×Ac)) (n:Nat) (ws:List (Nat×Ac)):List (Nat×D)->Prop
 | []=>True
 | (t,d)::r=>Conv ⟨e,o,n⟩ ws ((BU e t).getD .top) d/\IP e o n ws r
def IQ (e:List (Nat×D)) (o:List (Nat×Ac)) (n:Nat) (ws:List (Nat×Ac)):List (Nat×Ac)->Prop
 | []=>True
 | (g,x)::r=>(lkO (ws++o) g=x\/∃ v p z z',lkO (ws++o) g=some (v,p)/\p.var=true/\p.es=[z]/\x=some (v,{ p with es:=[z'] })/\Conv ⟨e,o,n⟩ ws z z')/\IQ e o n ws r
def FzB (o:List (Nat×Ac)):List (Nat×Ac)->Prop
 | []=>True
 | (g,x)::r=>(∃ v p,lkO o g=some (v,p)/\p.var=false/\x=some (v,{ p with fz:=true }))/\FzB o r
theorem Zr (ws:List (Nat×Ac)) (hw:FzB o ws) (hE:IP e o n ws E) (hO:IQ e o n ws O):Has ⟨e,o,n⟩ E O:=by
 refine⟨n,?_⟩
 refine Chg.DF (τ:=⟨E,O,n⟩) ws ⟨?_,?_,?_,aAL _⟩ (.refl _)
 ·clear hE hO
  induction ws with
  | nil=>intro p hp;cases hp
  | cons q r ih =>
   intro p hp
   cases hp with
   | head =>
    obtain⟨v,p,h1,h2,h3⟩:=hw.1
    exact⟨v,p,by rw[Ay];exact h1,h2,h3⟩
   | tail _ hp=>exact ih hw.2 p hp
 ·clear hw hO
  induction E with
  | nil=>intro p hp;cases hp
  | cons q r ih =>
   intro p hp
   cases hp with
   | head =>
    have:=hE.1
    rw[BO]at this
    exact this
   | tail _ hp=>exact ih hE.2 p hp
 ·clear hw hE
  induction O with
  | nil=>intro p hp;cases hp
  | cons q r ih =>
   intro p hp
   cases hp with
   | head =>
    simp only[S.gof,Ay]
    exact hO.1
   | tail _ hp=>exact ih hO.2 p hp
theorem RW {x d:D} (h:x=d):Conv ⟨e,o,n⟩ ws x d:=.inl (.inl h)
theorem WG {x d:D} (h:x=d):Dm ⟨e,o,n⟩ ws x d:=.inl h
theorem Wf {x:D} (en:α->D) (h:x= .nils):Dm ⟨e,o,n⟩ ws x (.sl (([]:List α).map en)):=by
 subst h
 exact .inr ⟨trivial,rfl,λp hp=>by cases hp⟩
theorem Vp {x:D} {g v q s ty:Nat} {fz:Bool} {l:List α} {en:α->D} (h:x= .osl g v 0 q) (hq:q=l.length) (ho:lkO o g=some (v,⟨fz,false,s,ty,l.map en⟩)) (hw:(g,some (v,(⟨true,false,s,ty,l.map en⟩:Own)))∈ws):Dm ⟨e,o,n⟩ ws x (.sl (l.map en)):=by
 subst h;subst hq
 refine .inr ⟨?_,?_,?_⟩
 ·simp[AJ,ho]
 ·simp[AJ,ho];exact aAJ (by simp)
 ·intro p hp
  simp[AJ,ho]at hp
  subst hp
  exact hw
theorem FA {x:D} {g v i s ty:Nat} {fz:Bool} {l:List α} {en:α->D} (h:x= .osl g v i (l.length-i)) (hi:i<=l.length) (ho:lkO o g=some (v,⟨fz,false,s,ty,l.map en⟩)) (hw:(g,some (v,(⟨true,false,s,ty,l.map en⟩:Own)))∈ws):Dm ⟨e,o,n⟩ ws x (.sl ((l.drop i).map en)):=by
 subst h
 refine .inr ⟨?_,?_,?_⟩
 ·simp[AJ,ho];omega
 ·simp[AJ,ho];exact aAJ (by simp)
 ·intro p hp
  simp[AJ,ho]at hp
  subst hp
  exact hw
theorem Vq {x d:D} (h:Dm ⟨e,o,n⟩ ws x d):Conv ⟨e,o,n⟩ ws x d:=.inl h
theorem XQ {x:D} {cs cs':List D} (h:x= .agg cs) (hc:Et ⟨e,o,n⟩ ws cs cs'):Conv ⟨e,o,n⟩ ws x (.agg cs'):=.inr ⟨cs,cs',h,rfl,hc⟩
end
@[simp] theorem Db {α:Type} (en:α->D) (l:List α):aAf l.length (l.map en)=l.map en:=aAJ (by simp)
@[simp] theorem Le {α:Type} (en:α->D) (l:List α) (i:Nat):aAf (l.length-i) (aAk i (l.map en))=(l.drop i).map en:=by
 rw[<- aBK];exact aAJ (by simp)
@[simp] theorem Pg {α:Type} (en:α->D) (l:List α) (i:Nat) (y:D):aAf l.length ((l.map en).set i y)=(l.map en).set i y:=aAJ (by simp)
theorem Av {α:Type} (en:α->D) (l:List α):aAf l.length (aAk 0 (l.map en))=l.map en:=Db en l
theorem Ty {α:Type} (en:α->D) (l:List α) {q:Nat} (h:q=l.length):aAf q (aAk 0 (l.map en))=l.map en:=h▸Db en l
theorem Tj {α:Type} (en:α->D) (l:List α) {q:Nat} (h:q=l.length):aAf q (l.map en)=l.map en:=h▸Db en l
@[simp] theorem Pf {α:Type} (en:α->D) (l l':List α):aAf (l.length+l'.length) (l.map en++l'.map en)=l.map en++l'.map en:=aAJ (by simp)
def cel (d:D) (i:Nat):D:=match d with| .agg cs=>cs.getD i .top| .tup cs=>cs.getD i .top|_=>.top
def uI:D->Int| .int _ n=>n|_=>0
def uBo:D->Bool| .bool b=>b|_=>false
def uS:D->List UInt8| .str s=>s|_=>[]
def uL {α:Type} (u:D->α):D->List α| .sl es=>es.map u|_=>[]
abbrev eI (k:IntKind) (n:Int):D:=.int k n
abbrev eBo (b:Bool):D:=.bool b
abbrev eS (s:List UInt8):D:=.str s
abbrev eL {α:Type} (en:α->D) (l:List α):D:=.sl (l.map en)
@[simp] theorem VJ {α:Type} {u:D->α} {en:α->D} (h:∀ a,u (en a)=a) (l:List α):uL u (.sl (l.map en))=l:=by
 simp only[uL,aBL]
 conv=>rhs;rw[<- List.map_id l]
 exact aAp λa _=>h a
open Go.ChangeShapes Go.WideShapes Go.ChangeAt Go.RowKit Go.Deep
def TB (W:World):Fz:=λb i=>W.cell? ⟨b,i,none⟩
def Rep (W:World) (ds:List D) (cs:List Value):Prop:=ds.length=cs.length/\(∀ v∈cs,v.oneCell'=true)/\∀ (j:Nat) c v,ds[j]? =some c->cs[j]? =some v->Fro (TB W) c v
def Wt {H:Type} (P:Program) (t:TypeId) (d:DataW H):Prop:=∀ w∈d.weights P t,w<=reachBytes
theorem Wt.all {H:Type} {P:Program} {e:TypeId}:∀ {l:List (DataW H)} {i:Nat} {d:DataW H},l[i]? =some d->∀ w∈d.weights P e,w∈aBB P e l
 | x::l,0,d,h,w,hw=>by
  simp only[aAD,Option.some.injEq]at h
  subst h
  simp only[aBB,aAZ];exact .inl hw
 | x::l,i+1,d,h,w,hw=>by
  simp only[aAK]at h
  simp only[aBB,aAZ];exact .inr (Wt.all h w hw)
theorem Wt.part {H:Type} {P:Program} {t:TypeId} {fs:Array Field} {parts:List (DataW H)} (ht:P.underlying t=some (.struct fs)) (h:Wt P t (.agg parts)) {j:Nat} {f:Field} {d:DataW H} (hf:fs[j]? =some f) (hd:parts[j]? =some d):Wt P f.type d:=by
 intro w hw
 refine h w ?_
 simp only[aAv,ht]
 exact aBF (j:=j) (by simp[hf]) hd w hw
theorem Wt.arg {H:Type} {P:Program} {ts us:List TypeId} {ds gs:List (DataW H)} (h:(DataW.weightsEach P (ts++us) (ds++gs)).all (· <=reachBytes)=true) {j:Nat} {t:TypeId} {d:DataW H} (ht:ts[j]? =some t) (hd:ds[j]? =some d):Wt P t d:=by
 intro w hw
 have h1:=(aAA.1 ht).1
 have h2:=(aAA.1 hd).1
 have:=aAR.1 h w (aBF (j:=j) (by rw[aAH h1];exact ht) (by rw[aAH h2];exact hd) w hw)
 simpa using this
structure Rd (P:Program) (W:World) {T:Type} (t:TypeId) (en:T->D) (Q:T->Prop):Prop where
 rd:∀ {H:Type} {enc:TypeId×Value->H} (n:Nat) (cs:List Value) (x:DataW H×List MemPlace),aAl enc P W 0 (λ_=>true) true n t cs=some x->Wt P t x.1->∃ a,Q a/\Rep W (cells (en a)) cs
def Sh (k:IntKind) (n:Int):Prop:=k.min<=n/\n<=k.max
def Qe {T:Type} (_:T):Prop:=True
def Qf (s:List UInt8):Prop:=s.length<=140737488355328
def qL {T:Type} (q:T->Prop) (l:List T):Prop:=l.length<=140737488355328/\∀ x∈l,q x
section
variable {P:Program} {W:World} {t e:TypeId}
theorem Rep.one {d:D} {v:Value} (h1:v.oneCell'=true) (h:Fro (TB W) d v):Rep W [d] [v]:=by
 refine⟨rfl,λx hx=>?_,λj c x hc hx=>?_⟩
 ·simp only[aAQ]at hx;subst hx;exact h1
 ·rcases j with _|j
  ·simp only[aAD,Option.some.injEq]at hc hx
   subst hc;subst hx;exact h
  ·simp at hc
theorem Rd.int {k:IntKind} (ht:P.underlying t=some (.int k)):Rd P W t (D.int k) (λn=>k.min<=n/\n<=k.max):=by
 refine⟨λn cs x h hw=>?_⟩
 cases n with
 | zero=>simp[aAl]at h
 | succ n =>
  simp only[aAl,ht]at h
  split at h<;>rename_i h1<;>try (cases h1;done)
  all_goals try (cases h;done)
  cases h1
  split at h
  ·rename_i hc
   obtain⟨rfl,hw⟩:=hc
   exact⟨_,by simpa[Lit.wf]using hw,Rep.one rfl (.int _ _)⟩
  ·cases h
theorem Rd.bool (ht:P.underlying t=some .bool):Rd P W t D.bool (λ_=>True):=by
 refine⟨λn cs x h hw=>?_⟩
 cases n with
 | zero=>simp[aAl]at h
 | succ n =>
  simp only[aAl,ht]at h
  split at h<;>rename_i h1<;>try (cases h1;done)
  all_goals try (cases h;done)
  exact⟨_,trivial,Rep.one rfl (.bool _)⟩
theorem Rd.str (ht:P.underlying t=some .string):Rd P W t D.str (λs=>s.length<=140737488355328):=by
 refine⟨λn cs x h hw=>?_⟩
 cases n with
 | zero=>simp[aAl]at h
 | succ n =>
  simp only[aAl,ht]at h
  split at h<;>rename_i h1<;>try (cases h1;done)
  all_goals try (cases h;done)
  rename_i s
  split at h
  ·cases h
   have:=hw s.data.toList.length (by simp[aAv])
   simp only[reachBytes]at this
   exact⟨s.data.toList,aAn this (by decide),Rep.one rfl (by have:=Fro.str (F:=TB W) s.data.toList;simpa using this)⟩
  ·cases h
theorem Hp {a:Addr} {n:Nat} {cs:List Value} (h:W.cells? 0 a n=some cs):cs.length=n/\∀ i,i<n->W.cell? (a.add i)=cs[i]?:=by
 unfold World.cells? at h
 rw[if_pos (aAm _)]at h
 have hl:=mapM_some_length h
 simp only[List.length_range]at hl
 exact⟨hl,λi hi=>mapM_some_get h i i (by simp[hi])⟩
theorem Mn {a:Addr} {v:Value} (h:W.cell? a=some v):a=⟨a.block,a.off,none⟩:=by
 unfold aAq at h
 split at h
 ·split at h
  ·cases h
  ·rename_i hs
   obtain⟨b,o,s⟩:=a
   cases s with
   | none=>rfl
   | some s=>simp at hs
 ·cases h
theorem Rd.slice {T:Type} [Inhabited T] {en:T->D} {Q:T->Prop} (ht:P.underlying t=some (.slice e)) (hs:0<P.cellsOf e) (hb:aAW 0 (P.bytesOf e)=true) (hc:∀ a,(cells (en a)).length=P.cellsOf e) (he:Rd P W e en Q) :
  Rd P W t (eL en) (λl=>l.length<=140737488355328/\∀ x∈l,Q x):=by
 refine⟨λn cs x h hw=>?_⟩
 rcases DataW.trod_slice ht h with⟨rfl,_⟩|⟨a,len,cap,elems,rest,m,_,rfl,rfl,_,hl,hm,hlen,hel,_,_⟩
 ·exact⟨[],⟨aAm _,λx hx=>by cases hx⟩,Rep.one rfl (.sl0 none 0)⟩
 ·have each:∀ i,∃ p:T×List Value,i<len->W.cells? 0 (a.add (i*P.cellsOf e)) (P.cellsOf e)=some p.2/\Q p.1/\Rep W (cells (en p.1)) p.2:=by
   intro i
   by_cases hi:i<len
   ·have h1:=hel i hi
    have h2:i<elems.length:=by omega
    rw[aAC h2,aA]at h1
    obtain⟨cs,h3,h4⟩:=h1
    obtain⟨q,hq,hr⟩:=he.rd m cs _ h4 λw hw'=>hw w (by
     simp only[aAv,ht,aAu,aAZ]
     exact .inr (.inl (Wt.all (i:=i) (by rw[aAO,aAC h2];rfl) w hw')))
    exact⟨(q,cs),λ_=>⟨h3,hq,hr⟩⟩
   ·exact⟨(default,[]),λh=>absurd h hi⟩
  obtain⟨f,hf⟩:=Classical.axiomOfChoice each
  have hes:((aAo len).map λi=>(f i).1).length=len:=by simp
  have hreach:len<=140737488355328:=by
   have h1:=hw ((elems.length+rest.length)*P.bytesOf e) (by simp[aAv,ht])
   have h2:0<P.bytesOf e:=by simpa using hb
   have h3:elems.length+rest.length<=(elems.length+rest.length)*P.bytesOf e:=Nat.le_mul_of_pos_right _ h2
   simp only[reachBytes]at h1
   omega
  refine⟨(aAo len).map λi=>(f i).1,⟨by rw[hes];exact hreach,λx hx=>?_⟩,Rep.one rfl ?_⟩
  ·simp only[aAU,aBH]at hx
   obtain⟨i,hi,rfl⟩:=hx
   exact(hf i hi).2.1
  ·by_cases h0:len=0
   ·subst h0
    exact .sl0 _ _
   ·have hget:∀ (i j:Nat),i<len->j<P.cellsOf e->W.cell? ((a.add (i*P.cellsOf e)).add j)=(f i).2[j]?:=λi j hi hj=>(Hp (hf i hi).1).2 j hj
    have hlenc:∀ i,i<len->(f i).2.length=P.cellsOf e:=λi hi=>(Hp (hf i hi).1).1
    have ha:a=⟨a.block,a.off,none⟩:=by
     have h1:=hget 0 0 (by omega) hs
     have h2:0<(f 0).2.length:=by rw[hlenc 0 (by omega)];exact hs
     rw[aAC h2]at h1
     simp only[Nat.zero_mul,Addr.add,if_true]at h1
     exact Mn h1
    generalize a.block=b at ha
    generalize a.off=o at ha
    subst ha
    have hidx:∀ (i:Nat) x,(((aAo len).map λi=>(f i).1).map en)[i]? =some x->i<len/\x=en (f i).1:=by
     intro i x hx
     simp only[aAO,aAE]at hx
     obtain⟨q,⟨r,hr,rfl⟩,rfl⟩:=hx
     obtain⟨h1,h2⟩:=aAA.1 hr
     simp only[List.getElem_range]at h2
     subst h2
     exact⟨by simpa using h1,rfl⟩
    have key:∀ (i j:Nat) x c,(((aAo len).map λi=>(f i).1).map en)[i]? =some x->(cells x)[j]? =some c->i<len/\∃ v,(f i).2[j]? =some v/\TB W b (o+i*P.cellsOf e+j)=some v/\v.oneCell'=true/\Fro (TB W) c v:=by
     intro i j x c hx hj
     obtain⟨hi,rfl⟩:=hidx i x hx
     obtain⟨_,_,r1,r2,r3⟩:=hf i hi
     have hjl:j<(cells (en (f i).1)).length:=(aAA.1 hj).1
     have hjl':j<(f i).2.length:=by rw[<- r1];exact hjl
     have hv:=aAC hjl'
     refine⟨hi,_,hv,?_,r2 _ (List.getElem_mem hjl'),r3 j c _ hj hv⟩
     have:=hget i j hi (by rw[<- hc (f i).1];exact hjl)
     rw[Bx,Bx,hv]at this
     exact this
    have:=Fro.sl (F:=TB W) (((aAo len).map λi=>(f i).1).map en) b o cap (P.cellsOf e) (λi j=>(f i).2.getD j undef) (by simpa using hl)
     (λx hx=>by
      simp only[aAU]at hx
      obtain⟨q,_,rfl⟩:=hx
      exact hc q)
     (λi j x c hx hj=>by
      obtain⟨_,v,h1,h2,_⟩:=key i j x c hx hj
      rw[h2,aAd,h1];rfl)
     (λi j x c hx hj=>by
      obtain⟨_,v,h1,_,h3,_⟩:=key i j x c hx hj
      rw[aAd,h1];exact h3)
     (λi j x c hx hj=>by
      obtain⟨_,v,h1,_,_,h4⟩:=key i j x c hx hj
      rw[aAd,h1];exact h4)
    rw[aAc,hes]at this
    exact this
theorem Rep.append {ds ds':List D} {cs cs':List Value} (h:Rep W ds cs) (h':Rep W ds' cs'):Rep W (ds++ds') (cs++cs'):=by
 obtain⟨h1,h2,h3⟩:=h
 obtain⟨k1,k2,k3⟩:=h'
 refine⟨by simp[h1,k1],λv hv=>(aAZ.1 hv).elim (h2 v) (k2 v),λj c v hc hv=>?_⟩
 by_cases hj:j<ds.length
 ·rw[aAH hj]at hc
  rw[aAH (by omega)]at hv
  exact h3 j c v hc hv
 ·rw[aAI (by omega)]at hc
  rw[aAI (by omega),<- h1]at hv
  exact k3 _ c v hc hv
theorem EZ {α:Type} (l:List α) (a b:Nat):(l.drop a).take b++l.drop (a+b)=l.drop a:=by
 rw[<- List.drop_drop,aAg]
theorem Rd.PZ {T T0:Type} {f0:Field} {en:T->D} {e0:T0->D} {Q:T->Prop} {Q0:T0->Prop} (mk:T0->T) (ht:P.underlying t=some (.struct #[f0])) (o0:f0.offset=0) (hsz:P.cellsOf t=P.cellsOf f0.type)
  (h0:Rd P W f0.type e0 Q0) (hmk:∀ a,cells (en (mk a))=cells (e0 a)) (hQ:∀ a,Q0 a->Q (mk a)):Rd P W t en Q:=by
 refine⟨λn cs x h hw=>?_⟩
 obtain⟨y0,m,rfl,hl,k0⟩:=trod_struct1 ht h
 obtain⟨a,q0,r0⟩:=h0.rd m _ _ k0 (Wt.part ht hw (j:=0) rfl rfl)
 refine⟨mk a,hQ a q0,?_⟩
 rw[hmk]
 rw[o0,aBI,<- hsz,<- hl,List.take_length]at r0
 exact r0
theorem Rd.AdF {T T0 T1:Type} {f0 f1:Field} {en:T->D} {e0:T0->D} {e1:T1->D} {Q:T->Prop} {Q0:T0->Prop} {Q1:T1->Prop} (mk:T0->T1->T) (ht:P.underlying t=some (.struct #[f0,f1])) (o0:f0.offset=0) (o1:f1.offset=P.cellsOf f0.type)
  (hsz:P.cellsOf t=P.cellsOf f0.type+P.cellsOf f1.type) (h0:Rd P W f0.type e0 Q0) (h1:Rd P W f1.type e1 Q1) (hmk:∀ a b,cells (en (mk a b))=cells (e0 a)++cells (e1 b)) (hQ:∀ a b,Q0 a->Q1 b->Q (mk a b)):Rd P W t en Q:=by
 refine⟨λn cs x h hw=>?_⟩
 obtain⟨y0,y1,m,rfl,hl,k0,k1⟩:=trod_struct2 ht h
 obtain⟨a,q0,r0⟩:=h0.rd m _ _ k0 (Wt.part ht hw (j:=0) rfl rfl)
 obtain⟨b,q1,r1⟩:=h1.rd m _ _ k1 (Wt.part ht hw (j:=1) rfl rfl)
 refine⟨mk a b,hQ a b q0 q1,?_⟩
 rw[hmk]
 have:=r0.append r1
 have e1:aAf (P.cellsOf f1.type) (aAk (P.cellsOf f0.type) cs)=aAk (P.cellsOf f0.type) cs:=aAJ (by simp;omega)
 rw[o0,o1,e1,aBI,aAg]at this
 exact this
theorem Rd.AdG {T T0 T1 T2:Type} {f0 f1 f2:Field} {en:T->D} {e0:T0->D} {e1:T1->D} {e2:T2->D} {Q:T->Prop} {Q0:T0->Prop} {Q1:T1->Prop} {Q2:T2->Prop} (mk:T0->T1->T2->T) (ht:P.underlying t=some (.struct #[f0,f1,f2]))
  (o0:f0.offset=0) (o1:f1.offset=P.cellsOf f0.type) (o2:f2.offset=P.cellsOf f0.type+P.cellsOf f1.type)
  (hsz:P.cellsOf t=P.cellsOf f0.type+P.cellsOf f1.type+P.cellsOf f2.type) (h0:Rd P W f0.type e0 Q0) (h1:Rd P W f1.type e1 Q1) (h2:Rd P W f2.type e2 Q2)
  (hmk:∀ a b c,cells (en (mk a b c))=cells (e0 a)++(cells (e1 b)++cells (e2 c))) (hQ:∀ a b c,Q0 a->Q1 b->Q2 c->Q (mk a b c)):Rd P W t en Q:=by
 refine⟨λn cs x h hw=>?_⟩
 obtain⟨y0,y1,y2,m,rfl,hl,k0,k1,k2⟩:=trod_struct3 ht h
 obtain⟨a,q0,r0⟩:=h0.rd m _ _ k0 (Wt.part ht hw (j:=0) rfl rfl)
 obtain⟨b,q1,r1⟩:=h1.rd m _ _ k1 (Wt.part ht hw (j:=1) rfl rfl)
 obtain⟨c,q2,r2⟩:=h2.rd m _ _ k2 (Wt.part ht hw (j:=2) rfl rfl)
 refine⟨mk a b c,hQ a b c q0 q1 q2,?_⟩
 rw[hmk]
 have:=r0.append (r1.append r2)
 have e2:aAf (P.cellsOf f2.type) (aAk (P.cellsOf f0.type+P.cellsOf f1.type) cs)=aAk (P.cellsOf f0.type+P.cellsOf f1.type) cs:=aAJ (by simp;omega)
 rw[o0,o1,o2,e2,EZ,aBI,aAg]at this
 exact this
theorem Rd.arg {T:Type} {en:T->D} {Q:T->Prop} (h:Rd P W t en Q) (hagg:∀ a,(match P.underlying t with|some (.struct _)|some (.array _ _)=>True|_=>False)->∃ cs,en a= .agg cs)
  (hone:∀ a,¬ (match P.underlying t with|some (.struct _)|some (.array _ _)=>True|_=>False)->cells (en a)=[en a])
  {H:Type} {enc:TypeId×Value->H} {b0:Nat} {v:Value} {d:DataW H} {p:List MemPlace} (hv:aBC P W .any b0 t v) (hr:DataW.Trod enc P W 0 (λ_=>true) true t v d p) (hw:Wt P t d):∃ a,Q a/\Fro (TB W) (en a) v:=by
 obtain⟨n,hn⟩:=hr
 obtain⟨a,hq,r1,r2,r3⟩:=h.rd n _ _ hn hw
 refine⟨a,hq,?_⟩
 by_cases hs:(match P.underlying t with|some (.struct _)|some (.array _ _)=>True|_=>False)
 ·obtain⟨cs,hcs⟩:=hagg a hs
  have hva:∃ C,v= .agg C:=by
   unfold aBC at hv
   split at hv
   ·obtain⟨C,rfl,_⟩:=hv;exact⟨C,rfl⟩
   ·obtain⟨C,rfl,_⟩:=hv;exact⟨C,rfl⟩
   ·rename_i h1 h2
    split at hs
    ·rename_i fs hu;exact absurd hu (h1 fs)
    ·rename_i m e hu;exact absurd hu (h2 m e)
    ·exact hs.elim
  obtain⟨C,rfl⟩:=hva
  rw[hcs]at r1 r3 ⊢
  simp only[Value.cells]at r1 r2 r3
  have:=Fro.agg (F:=TB W) cs C.toList r1 r2 r3
  simpa using this
 ·have h1:=hone a hs
  have hva:∃ x,v.cells.toList=[x]/\v=x:=by
   have hl:v.cells.toList.length=1:=by rw[<- r1,h1];rfl
   cases v with
   | agg C =>
    exfalso
    unfold aBC at hv
    split at hv
    ·rename_i fs hu;exact hs (by rw[hu];trivial)
    ·rename_i m e hu;exact hs (by rw[hu];trivial)
    ·unfold Cell.okWide at hv
     split at hv<;>first|(rename_i h1 h2;cases h2)|skip
     unfold Cell.ok at hv
     split at hv<;>first|(rename_i h1 h2;cases h2)|exact hv
   | _=>exact⟨_,rfl,rfl⟩
  obtain⟨x,hx,rfl⟩:=hva
  rw[h1]at r3
  exact r3 0 _ _ rfl (by rw[hx];rfl)
end
open Go.ChangeShapes Go.WideShapes Go.ChangeAt Go.RowKit
section
variable {H:Type} {enc:TypeId×Value->H} {P:Program} {W W':World}
theorem MF (hb:∀ b,b<W.heap.size->W'.heap[b]? =W.heap[b]?) {a:Addr} (h:a.block<W.heap.size):W'.cell? a=W.cell? a:=by
 unfold aAq
 rw[hb _ h]
theorem KZ (hb:∀ b,b<W.heap.size->W'.heap[b]? =W.heap[b]?) {a:Addr} (h:a.block<W.heap.size):W'.frozen? a=W.frozen? a:=by
 unfold World.frozen?
 rw[hb _ h]
theorem MS (hb:∀ b,b<W.heap.size->W'.heap[b]? =W.heap[b]?) {p:MemPlace} (h:p.block<W.heap.size):W.sameAt W' p:=by
 cases p with
 | cell b off=>exact MF hb h
 | map b=>exact hb b h
theorem Fv {sp:Nat->Bool} (K:Kids P (· <P.types.size)) (hz:∀ t e,t<P.types.size->P.underlying t=some (.slice e)->0<P.cellsOf e):∀ {ts:List TypeId} {vs:List Value} {ds:List (DataW H)} {ps:List MemPlace},(∀ t∈ts,t<P.types.size) ->
  aAw enc P W 0 (λ_=>true) true ts vs ds ps->(∀ p∈ps,W.sameAt W' p)->(∀ p∈ps,sp p.block=true)->aAw enc P W' 0 sp true ts vs ds ps
 | [],[],[],_,_,h,_,_=>h
 | _::_,_::_,_::_,_,hT,⟨p,q,⟨n,h1⟩,h2,e⟩,hs,hsp=>by
  subst e
  exact⟨p,q,⟨n,DataW.trod_respare K hz n _ _ _ (hT _ (aAu.2 (Or.inl rfl))) (DataW.trod_carry n _ _ _ h1 (λx hx=>hs x (List.mem_append_left _ hx))) (λx hx=>hsp x (List.mem_append_left _ hx))⟩,
   Fv K hz (λt ht=>hT t (aAu.2 (Or.inr ht))) h2 (λx hx=>hs x (aBJ _ hx)) (λx hx=>hsp x (aBJ _ hx)),rfl⟩
 | [],[],_::_,_,_,h,_,_=>h.elim
 | [],_::_,_,_,_,h,_,_=>h.elim
 | _::_,[],_,_,_,h,_,_=>h.elim
 | _::_,_::_,[],_,_,h,_,_=>h.elim
theorem IK {f:Func} {s:ChangeSpec} {apart fresh handsOn again:Bool} {args:Array Value} {v:Value} {ds gs:List (DataW H)} {before:List MemPlace}
  (hW:DataW.Whole enc P f.params.toList s.vars apart W args.toList ds gs before) (hvs:s.vars=[]) (K:Kids P (· <P.types.size)) (hz:∀ t e,t<P.types.size->P.underlying t=some (.slice e)->0<P.cellsOf e) (hts:∀ t∈f.params.toList,t<P.types.size)
  (hres:∀ (b:Nat) (sp:Nat->Bool) (hd:Bool),aAw enc P W' b sp hd f.resultTypes.toList (v.resultList f.resultTypes.size) (s.fn H (ds++gs)).results [])
  (hargs:(s.fn H (ds++gs)).args=ds) (hvars:(s.fn H (ds++gs)).vars=[]) (hos:W'.os=W.os) (hout:W'.output=W.output) (hb:∀ b,b<W.heap.size->W'.heap[b]? =W.heap[b]?)
  (hok:∀ (j:Nat) (t:TypeId) (r:Value),f.resultTypes[j]? =some t->(v.resultList f.resultTypes.size)[j]? =some r->aBC P W' .any 0 t r) :
  s.post enc P f apart fresh handsOn again W args v W':=by
 have hW':=hW
 obtain⟨p,q,hA,hV,e,hzz,hn⟩:=hW
 rw[hvs]at hV
 obtain⟨rfl,rfl⟩:=trodVars_none hV
 subst e
 simp only[aAa]at hW' hn hzz
 have hlt:∀ x∈p,x.block<W.heap.size:=hW'.lt
 have hargs':∀ sp:Nat->Bool,(∀ x∈p,sp x.block=true)->aAw enc P W' 0 sp true f.params.toList args.toList (s.fn H (ds++[])).args p:=by
  intro sp hsp
  rw[hargs]
  exact Fv K hz hts hA (λx hx=>MS hb (hlt x hx)) hsp
 have hvars':∀ sp:Nat->Bool,DataW.TrodVars enc P W' sp s.vars (s.fn H (ds++[])).vars []:=by
  intro sp
  rw[hvs,hvars]
  exact(rfl:([]:List MemPlace)=[])
 have hold:∀ x∈p,(λb=>decide (b<W.heap.size)) x.block=true:=λx hx=>by simpa using hlt x hx
 refine⟨ds,[],p,[],p,[],hW',hres _ _ _,hargs' _ hold,hvars' _,⟨hos,hout,λi hi=>?_⟩,λ_=>?_⟩
 ·rw[hb i hi]
  cases W.heap[i]? with
  | none=>rfl
  | some o=>cases o<;>first|exact⟨rfl,rfl,rfl,λ_ _=>rfl⟩|exact .inr ⟨rfl,rfl⟩|rfl
 ·refine⟨hok,_,_,([]++p)++[],⟨[]++p,[],trodAll_append (hargs' _ (λ_ _=>rfl)) (hres _ _ _),hvars' _,rfl,?_,?_⟩,?_⟩
  ·intro b off hp
   have hp':MemPlace.cell b off∈p:=by simpa using hp
   rw[KZ hb (hlt _ hp')]
   exact hzz b off hp'
  ·intro ha
   have:=hn ha
   simpa using this
  ·intro x hp _
   simpa using hp
theorem Abd {k:Nat} {fn:Func} {A:Type} {enc0:A->List D} {dec0:List D->A} {f:A->Option Bool} {encR:Bool->D} {encE:Bool->List D} (hspec:Qi P k (Ql [] .ground enc0 dec0 f encR encE)) (hde:∀ a,dec0 (enc0 a)=a) (hR:encR true= .bool true)
  {s:ChangeSpec} {apart fresh handsOn again:Bool} {args:Array Value} {ds gs:List (DataW H)} {before:List MemPlace} (hW:DataW.Whole enc P fn.params.toList s.vars apart W args.toList ds gs before) (hvs:s.vars=[])
  (hl:laidOutB P=true) (hm:mapsRowed P=true) (hz:((aAo P.types.size).all λt=>match P.underlying t with|some (.slice e)=>decide (0<P.cellsOf e)|_=>true)=true) (hts:fn.params.toList.all (λt=>decide (t<P.types.size))=true)
  {tb:TypeId} (hrt:fn.resultTypes= #[tb]) (htb:P.underlying tb=some .bool) (hfn:∀ ds:List (DataW H),ds.length=fn.params.size->s.fn H ds={ results:=[.lit (.bool true)],args:=ds,vars:=[] }) (hlen:ds.length=fn.params.size)
  (hglob:UG P (TB W)) (hread:∃ a,BM (TB W) W [] 0 (enc0 a) args.toList []/\f a=some true) :
  Calls P k args W λe W'=>∃ v,e= .returned v/\s.post enc P fn apart fresh handsOn again W args v W':=by
 obtain⟨a,hA,hfa⟩:=hread
 have hgs:gs=[]:=by
  obtain⟨p,q,_,hV,_⟩:=hW
  rw[hvs]at hV
  exact(trodVars_none hV).1
 subst hgs
 have hF:Fok (TB W) W:=λb i x h=>h
 have hfin:∀ b i x,TB W b i=some x->b<W.heap.size:=by
  intro b i x h
  simp only[TB,aAq]at h
  split at h
  ·rename_i hb
   exact(aAi.1 hb).1
  ·cases h
 have h:=(hspec (TB W) hglob).2.2.1 rfl rfl W (TB W) (enc0 a) args.toList [] (Ag.refl _) hF hfin hA ⟨a,true,rfl,hfa⟩
 have e0:args.toList.toArray=args:=by simp
 rw[e0]at h
 refine h.mono λe W' hq=>?_
 obtain⟨v,F',_,_,rfl,_,_,hst,hres,_⟩:=hq
 have hv:v= .bool true:=by
  have h1:Fro F' ((Ql [] .ground enc0 dec0 f encR encE).res (enc0 a)) v:=hres
  rw[BG hde hfa,hR]at h1
  cases h1
  rfl
 subst hv
 refine⟨_,rfl,IK hW hvs (kids_rows hl hm) (slices_full_of P hz) (λt ht=>by simpa using aAR.1 hts t ht) ?_ ?_ ?_ hst.os hst.output (λb hb=>hst.block b hb (λ⟨_,hm,_⟩=>by cases hm)) ?_⟩
 ·intro b sp hd
  rw[aAa,hfn ds hlen,hrt]
  exact trodAll_cons_mk (p:=[]) (p':=[]) (shut_bool htb true) trodAll_mk0
 ·rw[aAa,hfn ds hlen]
 ·rw[aAa,hfn ds hlen]
 ·exact ok_one hrt rfl (okWide_bool_mk htb true)
end
abbrev eR {α:Type} (s ty:Nat) (en:α->D) (l:List α):D:=.row s ty (l.map en)
def uR {α:Type} (u:D->α):D->List α| .row _ _ es=>es.map u|_=>[]
@[simp] theorem Qh {α:Type} {u:D->α} {en:α->D} (h:∀ a,u (en a)=a) (s ty:Nat) (l:List α):uR u (.row s ty (l.map en))=l:=by
 simp only[uR,aBL]
 conv=>rhs;rw[<- List.map_id l]
 exact aAp λa _=>h a
theorem PM {α:Type} {l:List α} {en:α->D} (h:∀ q,AD (en q)=true):∀ e∈l.map en,AD e=true:=λe he=>by
 obtain⟨q,_,rfl⟩:=aAU.1 he
 exact h q
section
variable {Γ:Ar} {X:Type} {K:KR X} {t:Option X} {e:List (Nat×D)} {o:List (Nat×Ac)} {n nv:Nat} {d:Bool} {acc:List Co}
 {r:List As} {dst:Nat} {g:Option (Nat×Bool)} {af:List Nat} {α:Type}
variable {x y:Arg} {v w:D} {k k':IntKind} {a b:Int} {s ty gi vi ii off m:Nat} {fz var:Bool} {es es':List D} {z z':D} {l l':List α} {en:α->D}
theorem Zo {i:Nat} {c:Prop} {cs':List D} {wo:List (Nat×Ac)} {rk:List Key} (hg:gOn e g=true) (hx:Aa e x=some (.optr gi vi i off)) (hy:Aa e y=some v) (hw:strip v=(true,v)) (ho:lkO o gi=some (vi,⟨false,var,s,ty,es⟩))
  (hr:(AY var (cells v)).run ⟨e,o,n⟩=(c,cs',wo)) (hrd:(AY var (cells v)).rd ⟨e,o,n⟩=rk) (hc:c) (hz:es[i]? =some z) (hk:known v=true) (hl:(cells v).length=m) (hb:aAe (off+m) (cells z).length=true)
  (hes:es.set i (QG z off cs')=es') (hwo:wo.all (λx=>x.1 != gi)=true)
  (h:TrO Γ r (nv+1) ⟨e,(gi,some (vi,⟨false,var,s,ty,es'⟩))::(wo++o),n⟩ d (acc++[(gK g++(rdK x++(rdK y++(.o gi::rk))),.o gi::wo.map (λx=>.o x.1),af)]) K t) (hrg:Ab gi=true:=by rfl) :
  TrO Γ (⟨none,.st m x y,g,af⟩::r) nv ⟨e,o,n⟩ d acc K t:=by
 have hb':=aAM hb
 obtain⟨hi',rfl⟩:=aAA.1 hz
 have hgd:es.getD i .top=es[i]:=by simp[hi']
 refine Al hg (c:=True) (we:=[]) (wo:=(gi,some (vi,⟨false,var,s,ty,es'⟩))::wo) (rd:=rdK x++(rdK y++(Key.o gi::rk))) ?_ ?_ trivial (by simpa using h)
 ·simp only[evalOp,R.run_bind,Aj,aAB,hx,hy,hw,CG,R.AP,Ay,ho,hrg,if_true,R.AB,hr,hgd,hes]
  simp[hc,hi',hb',hk,hl,hwo]
 ·simp only[evalOp,R.AF,Aj,AU,aAB,hx,hy,hw,CG,R.Ca,Ay,ho,hrg,if_true,R.Cy,hrd,hr]
  simp
theorem MZ {i s0 ty0:Nat} {es0 es0':List D} (l:List α) (en:α->D) (hg:gOn e g=true) (hx:Aa e x=some (.optr gi vi i off)) (ho:lkO o gi=some (vi,⟨false,var,s0,ty0,es0⟩)) (hz:es0[i]? =some z) (hb:aAe (off+1) (cells z).length=true)
  (hv:QN (cells z) off 1 false= .row s ty (l.map en)) (hes:es0.set i (QG z off [.hole (4096+dst) nv l.length])=es0')
  (h:TrO Γ r (nv+1) ⟨(dst,.osl (4096+dst) nv 0 l.length)::e,(4096+dst,some (nv,⟨false,false,s,ty,l.map en⟩))::(gi,some (vi,⟨false,var,s0,ty0,es0'⟩))::o,n⟩ d (acc++[(gK g++(rdK x++[.o gi]),[.e dst,.o (4096+dst),.o gi],af)]) K t)
  (hrg:Ab gi=true:=by rfl) (hne:aAN gi (4096+dst)=false:=by rfl) :
  TrO Γ (⟨some dst,.ld 1 false x,g,af⟩::r) nv ⟨e,o,n⟩ d acc K t:=by
 obtain⟨hi,rfl⟩:=aAA.1 hz
 have hb':=aAM hb
 have hgd:es0.getD i .top=es0[i]:=by simp[hi]
 have hne':gi≠4096+dst:=λe=>by subst e;simp at hne
 refine Al hg (c:=True) (we:=[(dst,.osl (4096+dst) nv 0 l.length)]) (wo:=[(4096+dst,some (nv,⟨false,false,s,ty,l.map en⟩)),(gi,some (vi,⟨false,var,s0,ty0,es0'⟩))]) (rd:=rdK x++[Key.o gi]) ?_ ?_ trivial h
 ·simp only[evalOp,R.run_bind,Aj,aAB,hx,strip,R.AP,Ay,ho,Ad,hgd,hv,hrg]
  simp[hi,hb',hne',hes]
 ·simp only[evalOp,R.AF,Aj,AU,aAB,hx,strip,R.Ca,Ay,ho,hgd,hv,hrg]
  simp
theorem Pn {i nm u q s0 ty0:Nat} {es0:List D} (hg:gOn e g=true) (hx:Aa e x=some (.optr gi vi i 0)) (ho:lkO o gi=some (vi,⟨false,var,s0,ty0,es0⟩)) (hz:es0[i]? =some (.hole nm u q))
  (h:TrO Γ r (nv+1) ⟨(dst,.osl nm u 0 q)::e,o,n⟩ d (acc++[(gK g++(rdK x++[.o gi]),[.e dst],af)]) K t) (hrg:Ab gi=true:=by rfl) :
  TrO Γ (⟨some dst,.ld 1 false x,g,af⟩::r) nv ⟨e,o,n⟩ d acc K t:=by
 obtain⟨hi,he⟩:=aAA.1 hz
 have hgd:es0.getD i .top= .hole nm u q:=by simp[hi,he]
 refine Al hg (c:=True) (we:=[(dst,.osl nm u 0 q)]) (wo:=[]) (rd:=rdK x++[Key.o gi]) ?_ ?_ trivial h
 ·simp only[evalOp,R.run_bind,Aj,aAB,hx,strip,R.AP,Ay,ho,Ad,hgd,hrg]
  simp[hi,cells,QN]
 ·simp only[evalOp,R.AF,Aj,AU,aAB,hx,strip,R.Ca,Ay,ho,hgd,hrg]
  simp[cells,QN]
theorem PQ {i s0 ty0:Nat} {l:List (List α)} {q:List α} (en:α->D) (hg:gOn e g=true) (hx:Aa e x=some (.optr gi vi i 0)) (ho:lkO o gi=some (vi,⟨false,false,s0,ty0,l.map (eR s ty en)⟩)) (hi:l[i]? =some q)
  (h:TrO Γ r (nv+1) ⟨(dst,.osl (4096+dst) nv 0 q.length)::e,(4096+dst,some (nv,⟨false,false,s,ty,q.map en⟩))::(gi,some (vi,⟨false,false,s0,ty0,(l.map (eR s ty en)).set i (.hole (4096+dst) nv q.length)⟩))::o,n⟩ d (acc++[(gK g++(rdK x++[.o gi]),[.e dst,.o (4096+dst),.o gi],af)]) K t)
  (hrg:Ab gi=true:=by rfl) (hne:aAN gi (4096+dst)=false:=by rfl) :
  TrO Γ (⟨some dst,.ld 1 false x,g,af⟩::r) nv ⟨e,o,n⟩ d acc K t :=
 MZ (i:=i) (z:=eR s ty en q) q en hg hx ho (by simp[hi]) rfl rfl rfl h hrg hne
theorem Pm {q:Nat} {es:List D} (hq:es.length=q) (hg:gOn e g=true) (hx:Aa e x=some (.osl gi vi 0 q)) (hy:Aa e y=some (.int k a)) (ho:lkO o gi=some (vi,⟨fz,false,s,ty,es⟩)) (hi:0<=a/\a<q)
  (h:TrO Γ r (nv+1) ⟨(dst,.optr gi vi a.toNat 0)::e,o,n⟩ d (acc++[(gK g++(rdK x++(rdK y++[.o gi])),[.e dst],af)]) K t) :
  TrO Γ (⟨some dst,.ixA s x y,g,af⟩::r) nv ⟨e,o,n⟩ d acc K t:=by
 subst hq
 refine Al hg (c:=True) (we:=[(dst,.optr gi vi a.toNat 0)]) (wo:=[]) (rd:=rdK x++(rdK y++[Key.o gi])) ?_ (by simp[evalOp,strip,R.Ca,Ay,hx,hy,ho]) trivial h
 simp only[evalOp,R.run_bind,Aj,aAB,hx,hy,strip,R.AP,Ay,ho,R.AB,Ad]
 simp[hi.1,hi.2]
theorem Pp {i g' v' m s0 ty0:Nat} {l:List (List α)} {q q':List α} {es:List D} {c:Prop} {cs':List D} {wo:List (Nat×Ac)} {rk:List Key} (en:α->D) (hg:gOn e g=true) (hx:Aa e x=some (.optr gi vi i 0)) (hy:Aa e y=some (.osl g' v' 0 m)) (ho:lkO o gi=some (vi,⟨false,false,s0,ty0,es⟩)) (hes:es=l.map (eR s ty en)\/∃ p u w,es=(l.map (eR s ty en)).set i (.hole p u w)) (hi:l[i]? =some q)
  (hr:(AY false [.osl g' v' 0 m]).run ⟨e,o,n⟩=(c,cs',wo)) (hrd:(AY false [.osl g' v' 0 m]).rd ⟨e,o,n⟩=rk) (hc:c) (hcs:cs'=[eR s ty en q']) (hwo:wo.all (λx=>x.1 != gi)=true)
  (h:TrO Γ r (nv+1) ⟨e,(gi,some (vi,⟨false,false,s0,ty0,(l.set i q').map (eR s ty en)⟩))::(wo++o),n⟩ d (acc++[(gK g++(rdK x++(rdK y++(.o gi::rk))),.o gi::wo.map (λx=>.o x.1),af)]) K t) (hrg:Ab gi=true:=by rfl) :
  TrO Γ (⟨none,.st 1 x y,g,af⟩::r) nv ⟨e,o,n⟩ d acc K t:=by
 subst hcs
 obtain⟨hl,_⟩:=aAA.1 hi
 have hlen:i<es.length:=by rcases hes with rfl|⟨p,u,w,rfl⟩<;>simpa using hl
 have hset:es.set i (eR s ty en q')=(l.set i q').map (eR s ty en):=by
  rcases hes with rfl|⟨p,u,w,rfl⟩<;>simp[aBA]
 have hz:es[i]? =some es[i]:=by simp[hlen]
 have hc1:(cells es[i]).length=1/\QG es[i] 0 [eR s ty en q']=eR s ty en q':=by
  rcases hes with rfl|⟨p,u,w,rfl⟩
  ·simp[cells,QG]
  ·simp[cells,QG]
 exact Zo (i:=i) (off:=0) (m:=1) (z:=es[i]) hg hx hy rfl ho hr hrd hc hz rfl rfl (by rw[hc1.1];rfl) (by rw[hc1.2];exact hset) hwo h hrg
theorem PO {bytes:Nat} {c c':Prop} {new old:List D} {wo:List (Nat×Ac)} {rk rk':List Key} (l l':List α) (en:α->D) (hg:gOn e g=true) (hx:Aa e x=some v) (hy:Aa e y=some w) (hvw:strip v=(true,v)) (hww:strip w=(true,w))
  (hv:(view w).run ⟨e,o,n⟩=(c,new)) (hvr:(view w).rd ⟨e,o,n⟩=rk) (hc:c) (hn:new=l'.map en)
  (ht:(target s ty v).run ⟨e,o,n⟩=(c',old,wo,true)) (htr:(target s ty v).rd ⟨e,o,n⟩=rk') (hc':c') (ho:old=l.map en)
  (hs:∀ q,(cells (en q)).length=s) (hby:aAe bytes 65536=true) (hl:l.length+l'.length<=16777216) (hpl:∀ q,AD (en q)=true)
  (h:TrO Γ r (nv+1) ⟨(dst,.osl (4096+dst) nv 0 (l++l').length)::e,(4096+dst,some (nv,⟨false,false,s,ty,(l++l').map en⟩))::(wo++o),n⟩ d (acc++[(gK g++(rdK x++(rdK y++(rk++rk'))),[.e dst,.o (4096+dst)]++wo.map (λx=>.o x.1),af)]) K t) :
  TrO Γ (⟨some dst,.app s ty bytes x y,g,af⟩::r) nv ⟨e,o,n⟩ d acc K t:=by
 have hb':=aAM hby
 subst hn;subst ho
 refine Al hg (c:=True) (we:=[(dst,.osl (4096+dst) nv 0 (l++l').length)]) (wo:=(4096+dst,some (nv,⟨false,false,s,ty,(l++l').map en⟩))::wo) (rd:=rdK x++(rdK y++(rk++rk'))) ?_ ?_ trivial (by simpa using h)
 ·simp only[evalOp,R.run_bind,Aj,aAB,hx,hy,hvw,hww,source,hv,ht,R.run_pure,Ad,CH,nmR,cond_true]
  have hall:∀ q∈l.map en++l'.map en,AD q=true:=by
   intro q hq
   rcases aAZ.1 hq with hq|hq<;>(obtain⟨p,_,rfl⟩:=aAU.1 hq;exact hpl p)
  simp[hc,hc',hl,hb',hs]
  intro q hq
  rcases hq with⟨p,_,rfl⟩|⟨p,_,rfl⟩<;>exact hpl p
 ·simp only[evalOp,R.AF,Aj,AU,aAB,hx,hy,hvw,hww,source,hv,hvr,htr,R.Bh]
  simp
theorem FQ {s' ty' q:Nat} (hg:gOn e g=true) (hx:Aa e x=some (.osl gi vi 0 q)) (ho:lkO o gi=some (ii,⟨false,var,s,ty,es⟩))
  (h:TrO Γ r (nv+1) ⟨(dst,.osl gi vi 0 q)::e,o,n⟩ d (acc++[(gK g++(rdK x++[.o gi]),[.e dst],af)]) K t) (hrg:Ab gi=true:=by rfl) :
  TrO Γ (⟨some dst,.asg x (some (s',ty')),g,af⟩::r) nv ⟨e,o,n⟩ d acc K t:=by
 refine Al hg (c:=True) (we:=[(dst,.osl gi vi 0 q)]) (wo:=[]) (rd:=rdK x++[Key.o gi]) ?_ ?_ trivial h
 ·simp only[evalOp,R.run_bind,Bm,aAB,hx,R.AP,Ay,ho,aAV,if_false,R.AB,hrg,if_true,Ad]
 ·simp only[evalOp,R.AF,Bm,FI,aAB,hx,R.Ca,Ay,ho,aAV,if_false,hrg,if_true,R.Cy]
theorem Po {bytes:Nat} (hg:gOn e g=true) (hx:Aa e x=some (.int k a)) (hy:Aa e y=some (.int k' a)) (hl:0<=a/\a<=16777216) (hby:aAe bytes 65536=true)
  (h:TrO Γ r (nv+1) ⟨(dst,.osl dst nv 0 (aAX a.toNat ([]:List α)).length)::e,(dst,some (nv,⟨false,false,s,ty,(aAX a.toNat ([]:List α)).map (λ_=>.nils)⟩))::o,n⟩ d (acc++[(gK g++(rdK x++rdK y),[.e dst,.o dst],af)]) K t) :
  TrO Γ (⟨some dst,.mkS s ty bytes .nils x y,g,af⟩::r) nv ⟨e,o,n⟩ d acc K t:=by
 have:=aAM hby
 exact Al hg (c:=True) (we:=[(dst,.osl dst nv 0 (aAX a.toNat ([]:List α)).length)]) (wo:=[(dst,some (nv,⟨false,false,s,ty,(aAX a.toNat ([]:List α)).map (λ_=>.nils)⟩))]) (rd:=rdK x++rdK y) (by simp[evalOp,Ad,AH,strip,hx,hy,hl,this]) (by simp[evalOp,strip,hx,hy]) trivial h
end
section
variable {e E:List (Nat×D)} {o O:List (Nat×Ac)} {n:Nat} {α:Type} {g v s ty:Nat} {var:Bool} {es es':List D} {z:D}
theorem Cv {τ:S} (hw:Rw ⟨e,o,n⟩ τ) (h:Has τ E O):Has ⟨e,o,n⟩ E O:=h.imp λ_ h=>.rw hw h
theorem FE {i off g' v' m s' ty':Nat} {l:List α} {en:α->D} {c:D} (ho:lkO o g=some (v,⟨false,var,s,ty,es⟩)) (hz:es[i]? =some z) (hc:(cells z)[off]? =some c) (hh:c= .hole g' v' m\/(c= .osl g' v' 0 m/\var=true)) (ho':lkO o g'=some (v',⟨false,false,s',ty',l.map en⟩))
  (hm:m=l.length) (hp:∀ q,AD (en q)=true) (hes:es.set i (QG z off [.row s' ty' (l.map en)])=es')
  (h:Has ⟨e,(g,some (v,⟨false,var,s,ty,es'⟩))::(g',none)::o,n⟩ E O) (hrg:Ab g=true:=by rfl) (hne:aAN g g'=false:=by rfl):Has ⟨e,o,n⟩ E O:=by
 obtain⟨hi,rfl⟩:=aAA.1 hz
 have hgd:es.getD i .top=es[i]:=by simp[hi]
 have hne':g≠g':=λe=>by subst e;simp at hne
 subst hm
 have:=Rw.close (σ:=⟨e,o,n⟩) g v i off g' v' l.length ⟨false,var,s,ty,es⟩ ⟨false,false,s',ty',l.map en⟩ c (by rw[Ay];exact ho) hrg rfl hi (by rw[hgd];exact hc) hh (by rw[Ay];exact ho') rfl rfl (by simp) (.inr λe he=>by
  obtain⟨q,_,rfl⟩:=aAU.1 he
  exact hp q) hne'
 refine Cv this ?_
 simp only[hgd,Db,hes]
 exact h
theorem Lb {i g' v' m s' ty':Nat} {l:List (List α)} {q q':List α} {en:α->D} (hi:l[i]? =some q) (ho:lkO o g=some (v,⟨false,false,s,ty,(l.map (eR s' ty' en)).set i (.hole g' v' m)⟩)) (ho':lkO o g'=some (v',⟨false,false,s',ty',q'.map en⟩))
  (hm:m=q'.length) (hp:∀ q,AD (en q)=true)
  (h:Has ⟨e,(g,some (v,⟨false,false,s,ty,(l.set i q').map (eR s' ty' en)⟩))::(g',none)::o,n⟩ E O) (hrg:Ab g=true:=by rfl) (hne:aAN g g'=false:=by rfl):Has ⟨e,o,n⟩ E O:=by
 obtain⟨hl,_⟩:=aAA.1 hi
 refine FE (i:=i) (off:=0) (z:=.hole g' v' m) (c:=.hole g' v' m) ho (by simp[hl]) rfl (.inl rfl) ho' hm hp ?_ h hrg hne
 simp[QG,aBA]
theorem NG {i g' v' m s' ty':Nat} {l:List (List α)} {q:List α} {en:α->D} (hi:l[i]? =some q) (ho:lkO o g=some (v,⟨false,false,s,ty,(l.map (eR s' ty' en)).set i (.hole g' v' m)⟩)) (ho':lkO o g'=some (v',⟨false,false,s',ty',q.map en⟩))
  (hm:m=q.length) (hp:∀ q,AD (en q)=true)
  (h:Has ⟨e,(g,some (v,⟨false,false,s,ty,l.map (eR s' ty' en)⟩))::(g',none)::o,n⟩ E O) (hrg:Ab g=true:=by rfl) (hne:aAN g g'=false:=by rfl):Has ⟨e,o,n⟩ E O:=by
 refine Lb hi ho ho' hm hp ?_ hrg hne
 obtain⟨hl,he⟩:=aAA.1 hi
 have:l.set i q=l:=by rw[<- he];exact List.set_getElem_self hl
 rw[this]
 exact h
theorem PX {off s' ty':Nat} {z':D} (t:Nat) (l:List α) (en:α->D) (ho:lkO o g=some (v,⟨false,true,s,ty,[z]⟩)) (hc:(cells z)[off]? =some (.row s' ty' (l.map en))) (hz:QG z off [.osl (4096+t) n 0 l.length]=z')
  (h:Has ⟨e,(4096+t,some (n,⟨false,false,s',ty',l.map en⟩))::(g,some (v,⟨false,true,s,ty,[z']⟩))::o,n+1⟩ E O) (hrg:Ab g=true:=by rfl) (hne:aAN g (4096+t)=false:=by rfl):Has ⟨e,o,n⟩ E O:=by
 have hne':g≠4096+t:=λe=>by subst e;simp at hne
 have:=Rw.opn (σ:=⟨e,o,n⟩) g v 0 off t s' ty' (l.map en) ⟨false,true,s,ty,[z]⟩ (by rw[Ay];exact ho) hrg rfl rfl (by simp) hc hne'
 refine Cv this ?_
 simp only[aAc,List.getD_cons_zero,List.set_cons_zero,hz]
 exact h
theorem Jl {s' ty' i:Nat} {q:List α} (t:Nat) (en:α->D) (ho:lkO o g=some (v,⟨false,false,s,ty,es⟩)) (hz:es[i]? =some (eR s' ty' en q))
  (h:Has ⟨e,(4096+t,some (n,⟨false,false,s',ty',q.map en⟩))::(g,some (v,⟨false,false,s,ty,es.set i (.hole (4096+t) n q.length)⟩))::o,n+1⟩ E O) (hrg:Ab g=true:=by rfl) (hne:aAN g (4096+t)=false:=by rfl):Has ⟨e,o,n⟩ E O:=by
 have hne':g≠4096+t:=λe=>by subst e;simp at hne
 obtain⟨hi,he⟩:=aAA.1 hz
 have hgd:es.getD i .top=eR s' ty' en q:=by simp[hi,he]
 have:=Rw.opnr (σ:=⟨e,o,n⟩) g v i 0 t s' ty' (q.map en) ⟨false,false,s,ty,es⟩ (by rw[Ay];exact ho) hrg rfl rfl hi (by simp only[hgd];rfl) hne'
 refine Cv this ?_
 simp only[aAc,hgd]
 exact h
theorem PL {s' ty' i j t1 t2:Nat} {l:List (List α)} {q1 q2:List α} (en:α->D) (ho:lkO o g=some (v,⟨false,false,s,ty,l.map (eR s' ty' en)⟩)) (h1:l[i]? =some q1) (h2:l[j]? =some q2) (hij:i≠j)
  (h:Has ⟨e,(4096+t2,some (n+1,⟨false,false,s',ty',q2.map en⟩))::(g,some (v,⟨false,false,s,ty,((l.map (eR s' ty' en)).set i (.hole (4096+t1) n q1.length)).set j (.hole (4096+t2) (n+1) q2.length)⟩))::(4096+t1,some (n,⟨false,false,s',ty',q1.map en⟩))::(g,some (v,⟨false,false,s,ty,(l.map (eR s' ty' en)).set i (.hole (4096+t1) n q1.length)⟩))::o,n+1+1⟩ E O)
  (hrg:Ab g=true:=by rfl) (hne1:aAN g (4096+t1)=false:=by rfl) (hne2:aAN g (4096+t2)=false:=by rfl):Has ⟨e,o,n⟩ E O:=by
 refine Jl (s':=s') (ty':=ty') (i:=i) (q:=q1) t1 en ho (by simp[h1]) ?_ hrg hne1
 have hg1:g≠4096+t1:=λe=>by subst e;simp at hne1
 refine Jl (s':=s') (ty':=ty') (i:=j) (q:=q2) t2 en (v:=v) (s:=s) (ty:=ty) (es:=(l.map (eR s' ty' en)).set i (.hole (4096+t1) n q1.length)) ?_ ?_ h hrg hne2
 ·have hb:aAN g (4096+t1)=false:=hne1
  simp[lkO,BU,hb]
 ·rw[aAh hij];simp[h2]
theorem Pz {i j g1 g2 u1 u2 m1 m2 s' ty':Nat} {l:List (List α)} {q1 q2 q1' q2':List α} {en:α->D} (h1:l[i]? =some q1) (h2:l[j]? =some q2) (hij:i≠j)
  (ho:lkO o g=some (v,⟨false,false,s,ty,((l.map (eR s' ty' en)).set i (.hole g1 u1 m1)).set j (.hole g2 u2 m2)⟩)) (ho1:lkO o g1=some (u1,⟨false,false,s',ty',q1'.map en⟩)) (ho2:lkO o g2=some (u2,⟨false,false,s',ty',q2'.map en⟩))
  (hm1:m1=q1'.length) (hm2:m2=q2'.length) (hp:∀ q,AD (en q)=true)
  (h:Has ⟨e,(g,some (v,⟨false,false,s,ty,((l.set i q1').set j q2').map (eR s' ty' en)⟩))::(g1,none)::(g,some (v,⟨false,false,s,ty,((l.map (eR s' ty' en)).set i (.hole g1 u1 m1)).set j (eR s' ty' en q2')⟩))::(g2,none)::o,n⟩ E O) (hrg:Ab g=true:=by rfl) (hne1:aAN g g1=false:=by rfl) (hne2:aAN g g2=false:=by rfl) (hne:aAN g1 g2=false:=by rfl):Has ⟨e,o,n⟩ E O:=by
 obtain⟨hi,_⟩:=aAA.1 h1
 obtain⟨hj,_⟩:=aAA.1 h2
 have hb1:aAN g1 g=false:=by
  cases hb:aAN g1 g
  ·rfl
  ·rw[aAS hb]at hne1;simp at hne1
 refine FE (s':=s') (ty':=ty') (i:=j) (off:=0) (z:=.hole g2 u2 m2) (c:=.hole g2 u2 m2) (es':=((l.map (eR s' ty' en)).set i (.hole g1 u1 m1)).set j (eR s' ty' en q2')) ho (by simp[hj]) rfl (.inl rfl) ho2 hm2 hp (by simp[QG]) ?_ hrg hne2
 refine FE (s':=s') (ty':=ty') (i:=i) (off:=0) (z:=.hole g1 u1 m1) (c:=.hole g1 u1 m1) (v:=v) (s:=s) (ty:=ty) (es:=((l.map (eR s' ty' en)).set i (.hole g1 u1 m1)).set j (eR s' ty' en q2')) (l:=q1') (en:=en) ?_ ?_ rfl (.inl rfl) ?_ hm1 hp ?_ h hrg hne1
 ·simp[lkO,BU]
 ·rw[aAh (λe=>hij e.symm)];simp[hi]
 ·simp only[lkO,BU,hb1,cond_false,hne]
  exact ho1
 ·rw[List.set_comm _ _ hij,List.set_set]
  simp only[QG]
  rw[List.set_comm _ _ (λe=>hij e.symm)]
  simp[aBA]
theorem PA {g2:Nat} (ho:lkO o g=some (v,⟨false,var,s,ty,es⟩)) (hrg:Ab g=false) (hg2:g2=4096+g) (he:Each (Enr false) es es')
  (h:Has ⟨e.map (λp=>(p.1,ren g g2 p.2)),(g2,some (v,⟨false,var,s,ty,es'⟩))::(g,none)::o,n⟩ E O):Has ⟨e,o,n⟩ E O:=by
 have:=Rw.enrich (σ:=⟨e,o,n⟩) g g2 v ⟨false,var,s,ty,es⟩ es' (by rw[Ay];exact ho) rfl (.inr ⟨hrg,hg2⟩) (by rw[hrg];exact he)
 refine Cv this ?_
 have hb:aAN g g2=false:=by
  cases hb:aAN g g2
  ·rfl
  ·have:=aAS hb;omega
 rw[hb]
 exact h
theorem OQ (ho:lkO o g=some (v,⟨false,var,s,ty,es⟩)) (hrg:Ab g=true) (he:Each (Enr true) es es')
  (h:Has ⟨e.map (λp=>(p.1,ren g g p.2)),(g,some (v,⟨false,var,s,ty,es'⟩))::(g,some (v,⟨false,var,s,ty,es'⟩))::o,n⟩ E O):Has ⟨e,o,n⟩ E O:=by
 have:=Rw.enrich (σ:=⟨e,o,n⟩) g g v ⟨false,var,s,ty,es⟩ es' (by rw[Ay];exact ho) rfl (.inl ⟨rfl,hrg⟩) (by rw[hrg];exact he)
 refine Cv this ?_
 simpa using h
theorem PR {s' ty':Nat} {l:List (List α)} (en:α->D) (hs:0<s') (hl:∀ q∈l,q=[]):Each (Enr false) (l.map λ_=>.nils) (l.map (eR s' ty' en)):=by
 refine⟨by simp,λi e e' h1 h2=>?_⟩
 rw[aAO,aAE]at h1 h2
 obtain⟨q,hq,rfl⟩:=h1
 obtain⟨q',hq',rfl⟩:=h2
 rw[hq]at hq';cases hq'
 have:=hl q (aAF hq)
 subst this
 refine⟨rfl,λj c c' h1 h2=>?_⟩
 rcases j with _|j
 ·simp only[cells,aAD,Option.some.injEq]at h1 h2
  subst h1;subst h2
  exact .inr ⟨rfl,s',ty',hs,rfl⟩
 ·simp[cells]at h1
theorem PJ (ho:lkO o g=some (v,⟨false,var,s,ty,es⟩)) (he:Each Frr es es') (h:Has ⟨e,(g,some (v,⟨false,var,s,ty,es'⟩))::o,n⟩ E O) (hrg:Ab g=true:=by rfl):Has ⟨e,o,n⟩ E O:=by
 have:=Rw.frows (σ:=⟨e,o,n⟩) g v ⟨false,var,s,ty,es⟩ es' (by rw[Ay];exact ho) hrg rfl he
 exact Cv this h
theorem PT {s' ty':Nat} {l:List (List α)} (en:α->D) (hp:∀ q,AD (en q)=true):Each Frr (l.map (eR s' ty' en)) (l.map (eL en)):=by
 refine⟨by simp,λi e e' h1 h2=>?_⟩
 rw[aAO,aAE]at h1 h2
 obtain⟨q,hq,rfl⟩:=h1
 obtain⟨q',hq',rfl⟩:=h2
 rw[hq]at hq';cases hq'
 refine⟨rfl,λj c c' h1 h2=>?_⟩
 rcases j with _|j
 ·simp only[cells,aAD,Option.some.injEq]at h1 h2
  subst h1;subst h2
  exact .inr ⟨s',ty',_,rfl,λe he=>by
   obtain⟨p,_,rfl⟩:=aAU.1 he
   exact hp p,rfl⟩
 ·simp[cells]at h1
theorem PK (ho:lkO o g=some (v,⟨false,false,s,ty,es⟩)) (he:es.map nrm=es') (h:Has ⟨e,(g,some (v,⟨false,false,s,ty,es'⟩))::o,n⟩ E O) (hrg:Ab g=false:=by rfl):Has ⟨e,o,n⟩ E O:=by
 subst he
 have:=Rw.nilsl (σ:=⟨e,o,n⟩) g v ⟨false,false,s,ty,es⟩ (by rw[Ay];exact ho) hrg rfl rfl
 exact Cv this h
theorem PW {l:List (List α)} (en:α->D) (hl:∀ q∈l,q=[]):(l.map λ_=>D.nils).map nrm=l.map (eL en):=by
 rw[aBL]
 refine aAp λq hq=>?_
 rw[hl q hq]
 rfl
theorem PU (ho:lkO o g=some (v,⟨false,true,s,ty,[z]⟩)) (hc:(cells z).all QT=true) (h:Has ⟨e.map (λp=>(p.1,frp g v z p.2)),(g,none)::o.map (λp=>(p.1,frO g v z p.2)),n⟩ E O):Has ⟨e,o,n⟩ E O:=by
 have:=Rw.fvar (σ:=⟨e,o,n⟩) g v ⟨false,true,s,ty,[z]⟩ z (by rw[Ay];exact ho) rfl rfl rfl hc
 exact Cv this h
end
end Go.Dw
