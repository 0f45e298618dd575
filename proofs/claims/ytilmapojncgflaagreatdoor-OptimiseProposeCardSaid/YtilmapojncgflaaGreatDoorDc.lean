/-
  THE LAYER: symbolic semantics of compiled code, and programs on typed data.
-/
import Derived.Test.YtilmapojncgflaaGreatDoorDb
import Derived.Scope
import Derived.KernelRfl
import Derived.ProofKit
import Derived.OpenShut
import Derived.Deep.Strs
import Derived.SizedLaws
open Array renaming replicate->aAG,getD_eq_getD_getElem?->aAT,getElem?_eq_some_iff->aAk,getElem?_append_left->aAl
open Bool renaming and_eq_true->aAS,false_eq_true->aAj
open Go.DataW renaming trod->aAd,weights->aAn,TrodAll->aAo,weightsAll->aAu,weights_mem_each->aAz
open Function renaming comp_def->aAe
open List renaming getElem?_eq_some_iff->aAA,getElem?_eq_getElem->aAC,take_of_length_le->aAE,getElem?_append_left->aAI,mem_of_getElem?->aAJ,getElem?_append_right->aAK,replicate->aAL,getElem?_cons_zero->aAQ,getElem?_cons_succ->aAR,all_eq_true->aAU,mem_append->aAV,take->aAY,getElem?_of_mem->aAZ,getD_eq_getElem?_getD->aAa,map_congr_left->aAb,length_map->aAc,map_set->aAg,range->aAh,getElem?_drop->aAi,mem_cons->aAm,getElem?_inj->aAp,getElem?_zip_eq_some->aAq,length_cons->aAs,map_map->aAt,drop->aAw,append_nil->aAx,length_eq_one_iff->aAy,countP_eq_length->aB,mem_append_right->aBA,map_cons->aBB
open Nat renaming le_of_ble_eq_true->aAF,blt->aAH,beq->aAM,ble_eq_true_of_le->aAN,ble->aAO,le_refl->aAP,eq_of_beq_eq_true->aAX,zero_le->aAf,le_trans->aAr
open Option renaming bind_eq_some_iff->aA,getD_some->aAB,bind_eq_bind->aAD,map_eq_some_iff->aAW
open Go.Value renaming okWide->aAv
namespace Go.Dw
section
variable {N:Nat} {w0:World} {F0:Fz} {M:Nat->Prop} {B0:Bt} {P:Program}
theorem KH {σ:S} {d:D} (hd:((AK d).run σ).1):cells d=[d]/\cells ((AK d).run σ).2.1=[((AK d).run σ).2.1]:=by
 cases d<;>first|exact hd.elim|exact⟨rfl,rfl⟩|skip
 refine⟨rfl,?_⟩;simp only[AK,R.run]at hd ⊢;split<;>simp_all<;>rfl
theorem Eg.get {σ:S} {ws:List (Nat×Ab)}:∀ {cs cs':List D},Eg σ ws cs cs'->cs'.length=cs.length/\∀ (j:Nat) c',cs'[j]? =some c'->∃ c,cs[j]? =some c/\Dk σ ws c c'
 | [],[],_=>⟨rfl,λj c' h=>by simp at h⟩
 | c::r,c'::r',h=>by
  obtain⟨h1,h2⟩:=h;obtain⟨l,g⟩:=Eg.get h2;refine⟨by simp[l],λj x hx=>?_⟩
  cases j with
  | zero=>simp at hx;subst hx;exact⟨c,by simp,h1⟩
  | succ j=>simp at hx;simpa using g j x hx
 | [],_::_,h=>h.elim
 | _::_,[],h=>h.elim
theorem Conv.cells {σ:S} {ws:List (Nat×Ab)} {z z':D} (h:Conv σ ws z z'):(Dw.cells z').length=(Dw.cells z).length/\∀ (j:Nat) c',(Dw.cells z')[j]? =some c'->∃ c,(Dw.cells z)[j]? =some c/\Dk σ ws c c':=by
 rcases h with(rfl|⟨h1,rfl,h3⟩)|⟨cs,cs',rfl,rfl,h⟩
 ·exact⟨rfl,λj c' hc=>⟨c',hc,.inl rfl⟩⟩
 ·obtain⟨e1,e2⟩:=KH h1;rw[e1,e2];refine⟨rfl,λj c' hc=>?_⟩
  rcases j with _|j
  ·simp at hc;subst hc;exact⟨z,by simp,.inr ⟨h1,rfl,h3⟩⟩
  simp_all
 ·exact h.get
theorem Sim.DB {σ τ:S} {ws:List (Nat×Ab)} {F:Fz} {β:Bt} {a:Act} {w:World} (h:Sim N w0 F0 M B0 σ F β a w) (hw:LW ws σ τ):∃ F',Sim N w0 F0 M B0 τ F' β a w:=by
 obtain⟨F',hsub,hS,_⟩:=h.freeze hw.fz;refine⟨F',?_⟩;have hcel:∀ c c' v,Dk σ ws c c'->Cel F β c v->Cel F' β c' v:=by
  rintro c c' v (rfl|⟨h1,rfl,h3⟩) hv
  ·exact hv.mono hsub (Aw.refl _)
  ·exact Cel.Ae ((Ex h c hv h1).2 ws F' hw.fz h3 hsub hS)
 have hval:∀ d d' x,Conv σ ws d d'->Env F β d x->Env F' β d' x:=by
  rintro d d' x ((rfl|⟨h1,rfl,h3⟩)|⟨cs,cs',rfl,rfl,hc⟩) hv
  ·exact hv.mono hsub (Aw.refl _)
  ·have hc:Cel F β d x:=by cases d<;>first|exact h1.elim|exact hv
   exact Env.Ae ((Ex h d hc h1).2 ws F' hw.fz h3 hsub hS)
  ·obtain⟨vs,rfl,hl,h1,hc1⟩:=hv;obtain⟨l,g⟩:=hc.get;refine⟨vs,rfl,by rw[l,hl],h1,λj c' v hc' hv'=>?_⟩
   grind
 have hgo:∀ g v o,τ.go g=some (v,o)->(S.mk σ.e (ws++σ.o) σ.n).go g=some (v,o)\/∃ o' z z',(S.mk σ.e (ws++σ.o) σ.n).go g=some (v,o')/\o'.var=true/\o'.es=[z]/\o={ o' with es:=[z'] }/\Conv σ ws z z':=by
  intro g v o hg;simp only[S.go]at hg;cases hl:look τ.o g with
  | none=>simp_all
  | some y =>
   rw[hl]at hg;simp only[aAB]at hg;subst hg;rcases hw.o _ (Bi hl)with h1|⟨v',o',z,z',h1,h2,h3,h4,h5⟩
   ·exact .inl h1
   ·simp only[Option.some.injEq,Prod.mk.injEq]at h4;obtain⟨rfl,rfl⟩:=h4;exact .inr ⟨o',z,z',h1,h2,h3,rfl,h5⟩
 have hgo':∀ g v o,τ.go g=some (v,o)->∃ o',(S.mk σ.e (ws++σ.o) σ.n).go g=some (v,o')/\o'.fz=o.fz/\o'.var=o.var:=by
  grind
 refine{ nam:=hS.nam,size:=hS.size,defers:=hS.defers,env:=λt=>?_,own:=λg v o hg=>?_,dist:=λg g' v v' o o' L L' b hg hg' hf hf'=>?_,sep:=λg v o L b hg hf=>?_,Ac:=?_,frz:=hS.frz,fin:=hS.fin,step:=hS.step }
 ·simp only[S.ge];cases hl:look τ.e t with
  | none=>exact Env.top _
  | some d =>
   simp only[aAB];exact hval _ _ _ (hw.e _ (Bi hl)) (h.env t)
 ·rcases hgo g v o hg with h1|⟨o',z,z',h1,h2,h3,rfl,h5⟩
  ·exact hS.own g v o h1
  ·rcases hw.fz.go g with⟨v2,o2,k1,k2,_,k4⟩|⟨_,k2⟩
   ·grind
   ·rw[k2]at h1;obtain⟨L,hL,hz,hk⟩:=h.own g v o' h1;refine⟨L,hL,λhfz=>?_,λhfz=>?_⟩
    ·have:=(hz hfz).var;simp_all
    ·obtain⟨e1,e2,e3,e4,e5,e6⟩:=hk hfz;obtain⟨l,gg⟩:=h5.cells;refine⟨e1,e2,by simp_all,e4,λe he=>?_,?_⟩
     ·simp_all
     ·cases hb:L.b with
      | none=>simp_all
      | some b =>
       rw[hb]at e6;obtain⟨C,hC,hs,hx⟩:=e6;refine⟨C,hC,hs,λi j e d he hd=>?_⟩
       rcases i with _|i
       ·simp only[aAQ,Option.some.injEq]at he;subst he;obtain⟨c,q1,q2⟩:=gg j d hd;obtain⟨x,x1,x2,x3⟩:=hx 0 j z c (by rw[h3];rfl) q1
        grind
       simp_all
 ·obtain⟨o1,q1,q2,q3⟩:=hgo' g v o hg;obtain⟨o2,r1,r2,r3⟩:=hgo' g' v' o' hg';exact hS.dist g g' v v' o1 o2 L L' b q1 r1 (q2.trans hf) (r2.trans hf')
 ·obtain⟨o1,q1,q2,q3⟩:=hgo' g v o hg;have:=hS.sep g v o1 L b q1 (q2.trans hf);exact this
 ·obtain⟨φ,hφ⟩:=hS.Ac;refine⟨φ,hφ.keep (Ag.refl _) (Aw.refl _) (aAP _) (λ_ _ _ _ _ _=>rfl) (λ_ _ _ _ _=>rfl) (λg v o hg=>?_) (λg v o hr hg hf=>.inl ?_) (λg i j b g' v' o' L' hb hg hf hL=>?_)⟩
  ·obtain⟨L,hL,_⟩:=hS.own g v o hg;simp_all
  ·rcases hgo g v o hg with h1|⟨o',z,z',h1,h2,h3,rfl,h5⟩
   ·simp_all
   ·refine⟨o',h1,hf,rfl,rfl,λi j e c he hj hp=>⟨⟨z,?_⟩,λL b C x _ _ hC hx=>⟨C,hC,hx⟩⟩⟩
    rcases i with _|i
    ·simp only[aAQ,Option.some.injEq]at he;subst he;obtain⟨_,gg⟩:=h5.cells;obtain⟨c0,q1,q2⟩:=gg j c hj;refine⟨by rw[h3];rfl,?_⟩
     rcases q2 with rfl|⟨k1,k2,_⟩
     ·exact q1
     ·have hrr:=GL (σ:=σ) k1;cases c<;>first|(cases hp;done)|skip
      ·have:=hrr.1 _ _ _ k2;subst this;exact q1
      ·have:=hrr.2 _ _ _ k2;subst this;exact q1
    simp_all
  ·obtain⟨o1,q1,q2,_⟩:=hgo' g' v' o' hg;exact hφ.sep g i j b g' v' o1 L' hb q1 (q2.trans hf) hL
theorem Sim.chg {σ τ:S} {F:Fz} {β:Bt} {a:Act} {w:World} (h:Sim N w0 F0 M B0 σ F β a w) (hf:∀ v,σ.n<=v->β v=none) (hw:Chg σ τ):∃ F' β',Sim N w0 F0 M B0 τ F' β' a w/\∀ v,τ.n<=v->β' v=none:=by
 induction hw generalizing F β with
 | refl=>grind
 | DB ws hw _ ih =>
  obtain⟨F',h'⟩:=h.DB hw;exact ih h' λv hv=>hf v (aAr hw.n hv)
 | rw hw _ ih =>
  obtain⟨F',β',h',hf'⟩:=h.rw hf hw
  grind
theorem Cp.Da {w1:World} {F1:Fz} {M1:Nat->Prop} {B1:Bt} {σ τ:S} {F':Fz} {β':Bt} {a:Act} {w:World} (h:Cp w0 M w1 F1 M1 B1 σ w) (hS:Sim N w1 F1 M1 B1 τ F' β' a w) (hgo:∀ g v o,τ.go g=some (v,o)->o.fz=true->σ.go g=some (v,o)):Cp w0 M w1 F1 M1 B1 τ w :=
 h.sub λg v o hg h0=>hgo g v o hg (by
  cases hf:o.fz with
  | true=>rfl
  | false=>exact(hS.Hm hg hf h0).elim)
theorem Bh {σ:S} {e:List (Nat×D)} {n k:Nat} {x:Ab} {o':List (Nat×Ab)} (hx:∀ u q,x=some (u,q)->q.fz=true->σ.go k=some (u,q)) (hr:∀ g u q,(S.mk e o' n).go g=some (u,q)->q.fz=true->σ.go g=some (u,q)) :
  ∀ g u q,(S.mk e ((k,x)::o') n).go g=some (u,q)->q.fz=true->σ.go g=some (u,q):=by
 grind [S.go,look]
theorem Cg {v:Nat} {o:Own} {σ:S} {k:Nat} (h:o.fz=false):∀ u q,some (v,o)=some (u,q)->q.fz=true->σ.go k=some (u,q):=λu q e hq=>by simp_all
theorem IV {σ:S} {k:Nat}:∀ u q,(none:Ab)=some (u,q)->q.fz=true->σ.go k=some (u,q):=λ_ _ e=>by cases e
theorem CR {σ:S} {e:List (Nat×D)} {n:Nat}:∀ g u q,(S.mk e σ.o n).go g=some (u,q)->q.fz=true->σ.go g=some (u,q):=λ_ _ _ h _=>h
theorem Ay.rw {σ τ:S} {F:Fz} {β:Bt} {a:Act} {w:World} (h:Ay N w0 F0 M B0 σ F β a w) (hf:∀ v,σ.n<=v->β v=none) (hw:Rw σ τ):∃ F' β',Ay N w0 F0 M B0 τ F' β' a w/\∀ v,τ.n<=v->β' v=none:=by
 obtain⟨w1,F1,M1,B1,hb,hS,hm⟩:=h;obtain⟨F',β',hS',hf'⟩:=hS.rw hf hw;refine⟨F',β',⟨w1,F1,M1,B1,hb,hS',?_⟩,hf'⟩;cases hw with
 | close g v i off g' v' m og o' c hg hr hfz hi hc hh hg' hfz' hvar hmm hp hne=>exact hm.Da hS' (Bh (Cg hfz) (Bh IV CR))
 | enrich g g2 v o es' hg hfz hn he =>
  refine hm.Da hS' (Bh (Cg hfz) (Bh ?_ CR))
  grind
 | frows g v o es' hg hr hfz he=>exact hm.Da hS' (Bh (Cg hfz) CR)
 | nilsl g v o hg hr hfz hvar=>exact hm.Da hS' (Bh (Cg hfz) CR)
 | fvar g v o z hg hfz hvar hz hc =>
  refine hm.Da hS' (Bh IV λk u q hk hq=>?_)
  rw[Ld]at hk;cases hx:σ.go k with
  | none =>
   have:(S.mk (σ.e.map λp=>(p.1,frp g v z p.2)) σ.o σ.n).go k=none:=hx
   rw[this]at hk;cases hk
  | some p =>
   obtain⟨u0,q0⟩:=p;have:(S.mk (σ.e.map λp=>(p.1,frp g v z p.2)) σ.o σ.n).go k=some (u0,q0):=hx
   rw[this]at hk;cases hk;obtain⟨L,_,hz',_⟩:=hS.own k _ q0 hx;have:=(hz' hq).var;cases q0;simp_all
 | nams rn hn =>
  constructor
  ·intro k u q hk hq;obtain⟨g,o,_,_,hgo,rfl⟩:=Ch hn hk;obtain⟨r1,b,r2,r3,r6⟩:=hm.at_ g u o hgo hq;obtain⟨L,_,hz,_⟩:=hS.own g u o hgo;have hv:=(hz r1).var;simp_all
  ·intro k k' u u' q q' c1 c2 b b' bb hk hk' hq hq' e1 e2 z1 z2;obtain⟨g,o,_,rfl,hgo,rfl⟩:=Ch hn hk;obtain⟨g',o',_,rfl,hgo',rfl⟩:=Ch hn hk';rw[hm.dis g g' u u' o o' _ _ b b' bb hgo hgo' hq hq' e1 e2 z1 z2]
 | opn g v i off t s ty es o hg hr hfz hvar hi hrow hne=>exact hm.Da hS' (Bh (Cg rfl) (Bh (Cg hfz) CR))
 | shrink gw vw i off g v k ow o hgw hrw hfzw hvarw hi hc hg hr hfz hvar hk hne=>exact hm.Da hS' (Bh (Cg hfzw) (Bh (Cg hfz) CR))
 | nilv g v i off t s ty o hg hr hfz hvar hi hc hs hne=>exact hm.Da hS' (Bh (Cg hfz) (Bh (Cg rfl) CR))
 | opnr g v i off t s ty es o hg hr hfz hvar hi hrow hne=>exact hm.Da hS' (Bh (Cg rfl) (Bh (Cg hfz) CR))
theorem Ay.DB {σ τ:S} {ws:List (Nat×Ab)} {F:Fz} {β:Bt} {a:Act} {w:World} (h:Ay N w0 F0 M B0 σ F β a w) (hw:LW ws σ τ):∃ F',Ay N w0 F0 M B0 τ F' β a w:=by
 obtain⟨w1,F1,M1,B1,hb,hS,hm⟩:=h;obtain⟨F',hS'⟩:=hS.DB hw;refine⟨F',w1,F1,M1,B1,hb,hS',hm.sub λg v o hg h0=>?_⟩
 have hfz:o.fz=true:=by
  cases hf:o.fz with
  | true=>rfl
  | false=>exact(hS'.Hm hg hf h0).elim
 have hl:look τ.o g=some (some (v,o)):=by
  unfold S.go at hg;cases hx:look τ.o g with
  | none=>simp_all
  | some x=>simp_all
 have hz:=hw.o _ (Bi hl);simp only at hz;have key:∀ q,σ.gof ws g=some (v,q)->q.s=0->q.fz=true->σ.go g=some (v,q):=by
  intro q hq hs hqf;rcases hw.fz.go g with⟨v2,o2,k1,k2,_,k4⟩|⟨_,k2⟩
  ·have:σ.gof ws g=some (v2,{ o2 with fz:=true }):=k4
   rw[this]at hq;cases hq;have:=(hm.at_ g _ o2 k1 hs).1;rw[k1];cases o2;simp_all
  ·have:σ.gof ws g=σ.go g:=k2;simp_all
 rcases hz with hz|⟨v',q,z,z',h1,h2,h3,h4,_⟩
 ·simp_all
 ·cases h4;have:=key q h1 h0 hfz;obtain⟨L,_,hz,_⟩:=hS.own g _ q this;have hv:=(hz hfz).var;simp_all
theorem Ay.chg {σ τ:S} {F:Fz} {β:Bt} {a:Act} {w:World} (h:Ay N w0 F0 M B0 σ F β a w) (hf:∀ v,σ.n<=v->β v=none) (hw:Chg σ τ):∃ F' β',Ay N w0 F0 M B0 τ F' β' a w/\∀ v,τ.n<=v->β' v=none:=by
 induction hw generalizing F β with
 | refl=>grind
 | DB ws hw _ ih =>
  obtain⟨F',h'⟩:=h.DB hw;exact ih h' λv hv=>hf v (aAr hw.n hv)
 | rw hw _ ih =>
  obtain⟨F',β',h',hf'⟩:=h.rw hf hw
  grind
theorem Nh {P:Program} {e u:TypeId} (h:Kp P e=some u):∃ i z,P.info? e=some i/\i.zero=some z/\z.cells= #[.pointer none,.slice none 0 0]:=by
 unfold Kp at h
 grind [aA]
theorem Lz {σ:S} {F:Fz} {β:Bt} {a:Act} {w:World} (h:Ay N w0 F0 M B0 σ F β a w) (hf:∀ v,σ.n<=v->β v=none) {ops:Array Oper} {i:Nat} {o:Oper} {o':As} (hop:Cl P N ops false i o=some o')
  {KS:S->Prop} (hx:KF o' σ KS) (K:Act->World->Prop) (Q:Exit->Act->World->Prop)
  (hK:∀ a' w' F' β' τ,Ay N w0 F0 M B0 τ F' β' a' w'->(∀ v,τ.n<=v->β' v=none)->KS τ->K a' w') :
  if Region.wanted o (yielded ops a.tmps)then o.wp P a w K Q else K (a.put o.dst undef) w:=by
 obtain⟨hgd,t,hdt,ty,es,hm,hk⟩:=hx;unfold Cl at hop;simp only[aA]at hop;obtain⟨dop,hdop,g,hg,he⟩:=hop;split at he
 ·rename_i hcond;simp only[aAS]at hcond;obtain⟨hdst,_⟩:=hcond;cases he;simp only at hm hgd hdt;have hwant:Region.wanted o (yielded ops a.tmps)=true:=by
   grind [Region.wanted,Fo,aA]
  rw[if_pos hwant];cases ho:o.op with
  | makeMap mt mr =>
   cases mr with
   | some _=>rw[ho]at hdop;cases hdop;exact hm.elim
   | none =>
    rw[ho]at hdop;simp only[cOp,aAD,aA]at hdop;obtain⟨_,_,he⟩:=hdop;cases he;obtain⟨rfl,rfl⟩:=hm;obtain⟨β',hS,hfr⟩:=h.Hl hf (DN hdst t hdt) (ob:=.map #[] 0) (x:=.map (some w.heap.size)) (aAf _) (.inl ⟨rfl,rfl⟩) (λw' hw'=>.inl ⟨rfl,#[],0,hw',show CV [] []from trivial⟩) λ_ _ _ _ _ e=>by cases e
    have hrun:(execOp a.eval o).run P w= .ok (.value (.map (some w.heap.size))) (w.alloc (.map #[] 0)):=by
     simp_all[execOp,Instr.makeMap]
    grind [Oper.wp,Oper.upon]
  | alloc e =>
   rw[ho]at hdop;simp only[cOp]at hdop;split at hdop
   ·rename_i u hu;cases hdop;obtain⟨rfl,rfl⟩:=hm;obtain⟨inf,z,hi,hz,hc⟩:=Nh hu;obtain⟨β',hS,hfr⟩:=h.Hl hf (DN hdst t hdt) (ob:=.cells z.cells e) (x:=.pointer (some ⟨w.heap.size,0,none⟩)) (aAP 2) (.inr ⟨by omega,rfl⟩)
     (λw' hw'=>.inr (.inr ⟨rfl,[],e,u,rfl,.inl ⟨aAf _,.slice none 0 0,by rw[hw',hc],⟨rfl,.inl ⟨rfl,rfl⟩⟩,by intro e;cases e⟩⟩)) (λp n c T q e=>by simp_all)
    have hrun:(execOp a.eval o).run P w= .ok (.value (.pointer (some ⟨w.heap.size,0,none⟩))) (w.alloc (.cells z.cells e)):=by
     simp_all[execOp,Instr.alloc,zeroValue,typeInfo,newVar,newRow]
    grind [Oper.wp,Oper.upon]
   ·simp only[aAD,aA]at hdop;obtain⟨_,_,he⟩:=hdop;split at he
    ·cases he;exact hm.elim
    ·cases he
  | box e x =>
   rw[ho]at hdop;simp only[cOp]at hdop;split at hdop
   ·rename_i u hu;simp only[aAD,aA]at hdop;obtain⟨ax,hax,he⟩:=hdop;cases he;obtain⟨hr,rfl,rfl⟩:=hm;have hv:=At h.sim hax (by rw[hr])
    rw[hr]at hv;obtain⟨vs,hxv,hl,_,hc⟩:=hv;have hvs:vs=[.pointer none,.slice none 0 0]:=by
     match vs,hl with
     | [p,q],_ =>
      have h0:=hc 0 _ _ rfl rfl;have h1:=hc 1 _ _ rfl rfl;cases h0;cases h1;rfl
    subst hvs;obtain⟨β',hS,hfr⟩:=h.Hl hf (DN hdst t hdt) (ob:=.cells #[.pointer none,.slice none 0 0] e) (x:=.pointer (some ⟨w.heap.size,0,none⟩)) (aAP 2) (.inr ⟨by omega,rfl⟩)
     (λw' hw'=>.inr (.inr ⟨rfl,[],e,u,rfl,.inl ⟨aAf _,.slice none 0 0,by rw[hw'],⟨rfl,.inl ⟨rfl,rfl⟩⟩,by intro e;cases e⟩⟩)) (λp n c T q e=>by cases e)
    have hrun:(execOp a.eval o).run P w= .ok (.value (.pointer (some ⟨w.heap.size,0,none⟩))) (w.alloc (.cells #[.pointer none,.slice none 0 0] e)):=by
     simp_all[execOp,Instr.box,newVar,newRow,Value.cells]
    grind [Oper.wp,Oper.upon]
   ·simp only[aAD]at hdop;split at hdop
    ·simp only[aA]at hdop;obtain⟨_,_,he⟩:=hdop;cases he;exact hm.elim
    simp_all
  | range rt rx =>
   rw[ho]at hdop;simp only[cOp]at hdop;split at hdop
   ·rename_i hu;simp only[aAD,aA]at hdop;obtain⟨ax,hax,he⟩:=hdop;cases he;obtain⟨l,hl,rfl,rfl⟩:=hm;have hx1:=At h.sim hax (by rw[hl])
    rw[hl]at hx1;have hx2:a.eval rx= .string ⟨l.toArray⟩:=Ci hx1;obtain⟨β',hS,hfr⟩:=h.Hl hf (DN hdst t hdt) (ob:=.stringIter ⟨l.toArray⟩ 0) (x:=.pointer (some ⟨w.heap.size,0,none⟩)) (by omega) (.inr ⟨by omega,rfl⟩) (λw' hw'=>.inr (.inl ⟨rfl,l,0,hw',rfl⟩)) λ_ _ _ _ _ e=>by cases e
    have hrun:(execOp a.eval o).run P w= .ok (.value (.pointer (some ⟨w.heap.size,0,none⟩))) (w.alloc (.stringIter ⟨l.toArray⟩ 0)):=by
     unfold execOp;rw[ho];have:(newObj (.stringIter ⟨l.toArray⟩ 0)).run P w= .ok w.heap.size (w.alloc (.stringIter ⟨l.toArray⟩ 0)):=rfl;simp_all[Instr.range,run_underlying]
    grind [Oper.wp,Oper.upon]
   ·cases hdop;exact hm.elim
  | lookup _ _ _ b =>
   exfalso;rw[ho]at hdop;cases b<;>simp only[cOp,aAD,aA]at hdop
   ·obtain⟨_,_,_,_,_,_,he⟩:=hdop;cases he;exact hm
   ·cases hdop;exact hm
  | mapUpdate _ _ _ _ =>
   exfalso;rw[ho]at hdop;simp only[cOp,aAD,aA]at hdop;obtain⟨_,_,_,_,_,_,_,_,he⟩:=hdop;cases he;exact hm
  | next _ b =>
   exfalso;rw[ho]at hdop;cases b<;>simp only[cOp,aAD,aA]at hdop
   ·cases hdop;exact hm
   ·obtain⟨_,_,he⟩:=hdop;cases he;exact hm
  | call c =>
   exfalso;rw[ho]at hdop;simp only[cOp,GZ]at hdop
   revert hdop
   (repeat' split)<;>simp[aA]<;>intros<;>(try subst_vars)<;>(try rintro rfl)<;>exact hm
  | _ =>
   exfalso;have hno:Dr dop=false:=Ih hdop (by rw[ho];exact λ_ _ e=>by cases e) (by rw[ho];exact λ_ _ _ _ e=>by cases e) (by rw[ho];exact λ_ _ _ _ e=>by cases e) (by rw[ho];exact λ_ e=>by cases e) (by rw[ho];exact λ_ _ e=>by cases e) (by rw[ho];exact λ_ _ e=>by cases e) (by rw[ho];exact λ_ e=>by cases e) (by rw[ho];exact λ_ _ e=>by cases e)
   cases dop<;>first|exact hm|cases hno
 ·cases he
def QR (N:Nat) (w0:World) (F0:Fz) (M:Nat->Prop) (B0:Bt) (Q:Au->S->Prop):Exit->Act->World->Prop:=λe a w =>
 ∃ τ F β,Ay N w0 F0 M B0 τ F β a w/\(∀ v,τ.n<=v->β v=none)/\match e with
  | .normal=>Q .normal τ
  | .exit id=>Q (.exit id) τ
  | .ret=>Q .ret τ
  | _=>False
theorem KZ {type:TypeId} {op:Op} {fa:Arg} {args:List Arg} (h:cOp P type op=some (.call fa args)) :
  ∃ cf cas cts,op= .call { callee:=.value cf,args:=cas,argTypes:=cts }/\Ai cf=some fa/\CM cas.toList=some args:=by
 by_cases hop:∃ c,op= .call c
 ·obtain⟨c,rfl⟩:=hop;simp only[cOp,GZ]at h;split at h
  ·rename_i f h1;simp only[aAD,aA]at h;obtain⟨x,hx,y,hy,he⟩:=h;cases he;cases c with
   | mk callee cargs argTypes =>
    simp only at h1;subst h1
    grind
  ·grind [aA]
  ·exfalso;revert h;split<;>simp[aA]
  all_goals grind [aA]
 ·exfalso;unfold cOp at h;split at h
  all_goals first
   | (exact hop ⟨_,rfl⟩)
   | (revert h;simp[aA];done)
   | (revert h;(repeat' split)<;>simp[aA];done)
   | (grind [Kr,Ks,aA])
   | (grind [aA])
   | grind [aA]
theorem Jw {Γ:Aq} (hΓ:∀ k sp,Γ k=some sp->BB P F0 (k % 4096) sp) {σ:S} {F:Fz} {β:Bt} {a:Act} {w:World} (h:Ay N w0 F0 M B0 σ F β a w) (hf:∀ v,σ.n<=v->β v=none) {ops:Array Oper} {i:Nat} {o:Oper} {o':As} (hop:Cl P N ops false i o=some o')
  {KS:S->Prop} (hx:HA Γ o' σ KS) (K:Act->World->Prop) (Q:Exit->Act->World->Prop)
  (hK:∀ a' w' F' β' τ,Ay N w0 F0 M B0 τ F' β' a' w'->(∀ v,τ.n<=v->β' v=none)->KS τ->K a' w') :
  if Region.wanted o (yielded ops a.tmps)then o.wp P a w K Q else K (a.put o.dst undef) w:=by
 obtain⟨hon,fa,args,f,caps,sp,φ,K0,hK0,hcall,hclo,hblt,hG,hopn,hall,hφ⟩:=hx;unfold Cl at hop;simp only[aA]at hop;obtain⟨dop,hdop,g,hg,he⟩:=hop;split at he
 ·rename_i hcond;simp only[aAS]at hcond;obtain⟨hdst,_⟩:=hcond;cases he;simp only at hcall hφ hon;subst hcall;have hwant:Region.wanted o (yielded ops a.tmps)=true:=by
   cases hgd:o.guard with
   | none=>grind [Region.wanted]
   | some p =>
    obtain⟨j,want⟩:=p;rw[hgd]at hg;simp only[Fo,aA]at hg;obtain⟨oj,hoj,t,ht,hg⟩:=hg;cases hg;obtain⟨h1,h2⟩:=hon;have hy:yielded ops a.tmps j=match a.tmps[t]? with|some (.bool b)=>some b|_=>none:=by
     grind [yielded]
    have hget:∀ b:Bool,a.tmps.getD t undef= .bool b->a.tmps[t]? =some (.bool b):=by
     intro b hb;rw[aAT]at hb;cases hh:a.tmps[t]? with
     | none=>rw[hh]at hb;cases hb
     | some v=>simp_all
    have henv:=h.sim.env t;generalize σ.ge t=gd at *;have fin:∀ b:Bool,a.tmps.getD t undef= .bool b->(b==want)=true->Region.wanted o (yielded ops a.tmps)=true:=by
     grind [Region.wanted]
    cases gd with
    | bool b=>exact fin b (BL (β:=β) (F:=F) henv) h2
    | when p d =>
     cases d with
     | bool b =>
      simp only[guardOf,aAS]at h2;exact fin b (BL (β:=β) (F:=F) (henv.1 h2.1)) h2.2
     | _=>exact h1.elim
    | _=>exact h1.elim
  rw[if_pos hwant];obtain⟨cf,cas,cts,hoo,hfa,hys⟩:=KZ hdop;have hfe:=CI h.sim hfa;rw[hclo]at hfe;obtain⟨vs,hvs,hvl,hvr⟩:=hfe;rw[Hf hblt]at hvs;obtain⟨l,r⟩:=Di h.sim hys;have hsp:=hΓ _ sp hG;have hkm:(f+4096*AH ((AJ args).run σ)) % 4096=f:=by
   simp_all
  rw[hkm]at hsp;obtain⟨fn,hfn,hnm,hbd⟩:=hsp.1;have hrun:(execOp a.eval o).run P w= .ok (.enter f (cas.toList.map a.eval++vs).toArray) w:=by
   unfold execOp;simp only[hoo];have e1:(cas.map a.eval++vs.toArray)=(cas.toList.map a.eval++vs).toArray:=by
    simp_all
   have hnm':¬ fn.name = "runtime.NumGoroutine":=by simp_all
   have hbd':¬ fn.body=none:=by grind
   rw[<- e1];simp[resolve,Deferred.ofValue,hvs,invoke,callFunc,hfn,hnm',hbd']
  have hvals:∀ (q:Nat) d x,((AJ args).run σ++caps)[q]? =some d->(cas.toList.map a.eval++vs)[q]? =some x->Val F β d x:=by
   intro q d x hq hx
   by_cases hlt:q<cas.toList.length
   ·rw[aAI (by omega)]at hq
    rw[aAI (by simp_all)]at hx
    have henv:=r q d x hq hx;have hnw:=aAU.1 hall d (aAJ hq);cases d<;>first|exact henv|cases hnw
   grind [Val.Am,Cel.CL]
  have hcall:=hsp.2.2.2.1 φ hopn F0 (Ag.refl _) N w0 M B0 σ F β a w ((AJ args).run σ++caps) (cas.toList.map a.eval++vs) _ h hf (by simp_all) hvals hφ
  unfold Oper.wp;rw[hrun];simp only[Oper.upon];refine hcall.mono ?_;rintro e w' ⟨v,d,o',n',F',β',rfl,hS,hfr,hv,hk⟩;have hd:∀ t,o.dst=some t->t<N:=by
   intro t ht;simp_all[CN]
  have hS':=hS.put (c:=True) (dst:=o.dst) (d:=d) (v:=v) hd (Env.Ah hv) (w':=w') rfl rfl rfl rfl;exact hK _ _ F' β' _ hS' hfr (hK0 _ hk)
 ·cases he
theorem CK {Γ:Aq} (hΓ:∀ k sp,Γ k=some sp->BB P F0 (k % 4096) sp) {ops:Array Oper} {Q:Exit->Act->World->Prop} {KD:S->Prop}:∀ (l:List Oper) (i:Nat) (ds:List As),BZ P N ops false i l=some ds ->
  ∀ (σ:S) (F:Fz) (β:Bt) (a:Act) (w:World) (nv:Nat),Ay N w0 F0 M B0 σ F β a w->(∀ v,nv<=v->β v=none)->wpS Γ ds nv σ KD ->
  (∀ τ F' β' a' w',Ay N w0 F0 M B0 τ F' β' a' w'->(∀ v,τ.n<=v->β' v=none)->KD τ->Q .normal a' w')->wpList P ops Q l a w
 | [],i,ds,hds,σ,F,β,a,w,nv,h,hf,hw,hQ=>by
  simp only[BZ,Option.some.injEq]at hds;subst hds;exact wpList_nil (hQ { σ with n:=nv } F β a w (h.congr λk=>by cases k<;>rfl) hf hw)
 | o::l,i,ds,hds,σ,F,β,a,w,nv,h,hf,hw,hQ=>by
  simp only[BZ,aAD,aA]at hds;obtain⟨o',ho',r,hr,he⟩:=hds;cases he;refine wpList_step λK hK=>?_
  rcases hw with⟨hc,hw'⟩|⟨σ1,hchg1,hx⟩|⟨σ1,hchg1,hx⟩
  ·refine Gh hΓ h ho' (hf nv (aAP _)) hc K Q λa' w' F' β' hS hb1 hb2=>hK a' w' ?_
   refine CK hΓ l (i+1) r hr _ F' β' a' w' (nv+1) hS (λv hv=>?_) hw' hQ
   grind
  ·obtain⟨F1,β1,h1,hf1⟩:=Ay.chg (σ:={ σ with n:=nv }) (h.congr λk=>by cases k<;>rfl) hf hchg1
   refine Jw hΓ h1 hf1 ho' hx K Q λa' w' F' β' τ hS hfr hk=>hK a' w' ?_
   obtain⟨τ2,hchg,hk⟩:=hk;obtain⟨F2,β2,hS2,hfr2⟩:=hS.chg hfr hchg;exact CK hΓ l (i+1) r hr τ2 F2 β2 a' w' τ2.n hS2 hfr2 hk hQ
  ·obtain⟨F1,β1,h1,hf1⟩:=Ay.chg (σ:={ σ with n:=nv }) (h.congr λk=>by cases k<;>rfl) hf hchg1
   refine Lz h1 hf1 ho' hx K Q λa' w' F' β' τ hS hfr hk=>hK a' w' ?_
   obtain⟨τ2,hchg,hk⟩:=hk;obtain⟨F2,β2,hS2,hfr2⟩:=hS.chg hfr hchg;exact CK hΓ l (i+1) r hr τ2 F2 β2 a' w' τ2.n hS2 hfr2 hk hQ
theorem Kw {N:Nat} {ops:Array Oper} {ds:List As} {dl:As} (h:FR P N ops=some (ds,dl)):∃ init l,ops=init.push l/\Cl P N ops false init.size l=some dl/\(∀ o∈ops.toList,o.guard=none)/\En init init.size (AL true l)=true/\(∀ e∈AL true l,e<init.size)/\BZ P N init true 0 init.toList=some ds:=by
 unfold FR at h;split at h
 ·cases h
 ·rename_i l hl;obtain⟨init,rfl⟩:=Array.back?_eq_some_iff.1 hl;split at h
  ·cases h
  ·simp only[aA,Array.pop_push]at h;obtain⟨dl',hdl,h⟩:=h;split at h
   ·rename_i hc;simp only[aAS,aAU,decide_eq_true_eq,Option.isNone_iff_eq_none]at hc
    grind [aAW]
   ·cases h
theorem KE {Γ:Aq} (hΓ:∀ k sp,Γ k=some sp->BB P F0 (k % 4096) sp) {id:Nat} {ops:Array Oper} {ds:List As} {dl:As} (hm:P.follows .mixedOrders=true) (hcut:FR P N ops=some (ds,dl)) {Q:Au->S->Prop} {σ:S} {F:Fz} {β:Bt} {a:Act} {w:World}
  (h:Ay N w0 F0 M B0 σ F β a w) (hf:∀ v,σ.n<=v->β v=none) (hw:DWp Γ (.seq (.reg ds true) (.reg [dl] false)) Q σ):(Code.region id ops true).wp P (QR N w0 F0 M B0 Q) a w:=by
 obtain⟨init,l,rfl,hdl,hg,hcov,hlt,hds⟩:=Kw hcut;obtain⟨σ0,hchg0,hw⟩:=hw;obtain⟨F,β,h,hf⟩:=h.chg hf hchg0;rw[if_pos rfl]at hw;obtain⟨hw1,hw2⟩:=hw;have h':Ay N w0 F0 M B0 σ0 F β a { w with drawn:=w.drawn+1 }:=by
  have:=h.put (c:=True) (dst:=none) (d:=.top) (v:=undef) (λt e=>by cases e) (Env.top _) (w':={ w with drawn:=w.drawn+1 }) rfl rfl rfl rfl
  exact this
 refine wp_region_any hm ?_;obtain⟨hlen,hget⟩:=DE init.toList 0 ds hds;simp only[Array.length_toList]at hlen;have hol:=(Dy Γ ds σ0.n σ0 0 (λ_=>true) (λ_=>rfl)).1
 let Q1:Exit->Act->World->Prop:=λe a w=>match e with
  | .normal=>∃ τ F' β',Ay N w0 F0 M B0 τ F' β' a w/\(∀ v,τ.n<=v->β' v=none)/\Wk (DWp Γ (.reg [dl] false) Q) τ
  | e=>QR N w0 F0 M B0 Q e a w
 have key:wpAny P .any init Q1 init.size (aAG init.size false) a { w with drawn:=w.drawn+1 }:=by
  refine HR (w0:=w0) (F0:=F0) (M:=M) (B0:=B0) hΓ hds hw1 hw2 (λτ F' β' a' w' hS hf' hk=>?_) init.size (aAG init.size false) F β a _ (by simp) ?_ ?_ ?_ ?_
  ·obtain⟨τ',hk1,hk2⟩:=hk;exact⟨{ τ' with n:=σ0.n+ds.length },F',β',hS.congr (λk=>(by cases k<;>rfl:({ τ' with n:=σ0.n+ds.length }:S).get k=τ'.get k).trans (hk2 k)),hf',hk1⟩
  ·rw[aB.2]
   all_goals simp_all
  ·simp_all[aAk]
  ·simp_all
  ·have hnone:∀ (us:List Out) (i:Nat) (τ:S),i+us.length<=init.size->Bk (λi=>(aAG init.size false).getD i true) us i τ=τ:=by
    intro us
    induction us with
    | nil=>intro i τ _;rfl
    | cons u us ih =>
     intro i τ hle;simp only[aAs]at hle;have hi:i<init.size:=by omega
     simp only[Bk];have hne:¬ ((aAG init.size false).getD i true=true):=by simp[hi]
     grind
   simp_all
 have hre:aAG (init.push l).size false=(aAG init.size false).push false:=by
  grind
 rw[hre,Array.size_push];refine LY hg (λj o ho e he=>?_) hcov hlt ?_ ?_ init.size _ a _ (by simp) (λj o ho hj=>?_) key
 ·obtain⟨o',_,h2⟩:=hget j o (by simp_all)
  have:=(Dl h2).2 e he;omega
 ·grind
 ·rintro a w ⟨τ,F',β',hS,hfr,τ1,hchg1,τ2,hchg2,hwS⟩;obtain⟨F1,β1,h1,hf1⟩:=hS.chg hfr hchg1;obtain⟨F2,β2,h2,hf2⟩:=h1.chg hf1 hchg2;rw[if_neg (by simp)]at hwS
  have hl1:BZ P N (init.push l) false init.size [l]=some [dl]:=by grind [BZ]
  have:=CK (w0:=w0) (F0:=F0) (M:=M) (B0:=B0) (Q:=QR N w0 F0 M B0 Q) hΓ [l] init.size [dl] hl1 τ2 F2 β2 a w τ2.n h2 hf2 hwS (λτ F' β' a' w' hS hf' hk=>⟨τ,F',β',hS,hf',hk⟩)
  simp_all[wpList,Region.wanted]
 ·rw[aAT]at hj
  grind
theorem BC {Γ:Aq} (hΓ:∀ k sp,Γ k=some sp->BB P F0 (k % 4096) sp):∀ (c:Code) (d:Qi),PY P N c=some d->∀ (Q:Au->S->Prop) (σ:S) (F:Fz) (β:Bt) (a:Act) (w:World),
  Ay N w0 F0 M B0 σ F β a w->(∀ v,σ.n<=v->β v=none)->DWp Γ d Q σ->c.wp P (QR N w0 F0 M B0 Q) a w
 | .skip,d,hd,Q,σ,F,β,a,w,h,hf,hw=>by
  simp only[PY,Option.some.injEq]at hd;subst hd;exact wp_skip ⟨σ,F,β,h,hf,hw⟩
 | .ret,d,hd,Q,σ,F,β,a,w,h,hf,hw=>by
  simp only[PY,Option.some.injEq]at hd;subst hd;exact wp_ret ⟨σ,F,β,h,hf,hw⟩
 | .exit id,d,hd,Q,σ,F,β,a,w,h,hf,hw=>by
  simp only[PY,Option.some.injEq]at hd;subst hd;exact wp_exit ⟨σ,F,β,h,hf,hw⟩
 | .region id ops draw,d,hd,Q,σ,F,β,a,w,h,hf,hw=>by
  simp only[PY]at hd;split at hd
  ·cases hd
  ·rename_i hdr;split at hd
   ·grind [KE]
   simp only[aAD,aA]at hd;obtain⟨ds,hds,he⟩:=hd;cases he;obtain⟨σ0,hchg0,hw⟩:=hw;obtain⟨F,β,h,hf⟩:=h.chg hf hchg0;cases draw with
   | false =>
    rw[if_neg (by simp)]at hw
    refine wp_region_list ?_;exact CK (w0:=w0) (F0:=F0) (M:=M) (B0:=B0) hΓ ops.toList 0 ds hds σ0 F β a w σ0.n h hf hw (λτ F' β' a' w' hS hf' hk=>⟨τ,F',β',hS,hf',hk⟩)
   | true =>
    rw[if_pos rfl]at hw;obtain⟨hw1,hw2⟩:=hw;have hm:P.follows .mixedOrders=true:=by simp_all
    have h':Ay N w0 F0 M B0 σ0 F β a { w with drawn:=w.drawn+1 }:=by
     have:=h.put (c:=True) (dst:=none) (d:=.top) (v:=undef) (λt e=>by cases e) (Env.top _) (w':={ w with drawn:=w.drawn+1 }) rfl rfl rfl rfl
     exact this
    refine wp_region_any hm ?_;have hid:∀ (us:List Out) (i:Nat),Bk (λi=>(aAG ops.size false).getD i true) us i σ=Bk (λi=>(aAG ops.size false).getD i true) us i σ:=λ_ _=>rfl
    obtain⟨hlen,_⟩:=DE ops.toList 0 ds hds;simp only[Array.length_toList]at hlen;have hol:=(Dy Γ ds σ0.n σ0 0 (λ_=>true) (λ_=>rfl)).1
    refine HR (w0:=w0) (F0:=F0) (M:=M) (B0:=B0) hΓ hds hw1 hw2 (λτ F' β' a' w' hS hf' hk=>?_) ops.size (aAG ops.size false) F β a _ (by simp) ?_ ?_ ?_ ?_
    ·obtain⟨τ',hk1,hk2⟩:=hk;exact⟨{ τ' with n:=σ0.n+ds.length },F',β',hS.congr (λk=>(by cases k<;>rfl:({ τ' with n:=σ0.n+ds.length }:S).get k=τ'.get k).trans (hk2 k)),hf',hk1⟩
    ·rw[aB.2]
     all_goals simp_all
    ·simp_all[aAk]
    ·simp_all
    ·have hnone:∀ (us:List Out) (i:Nat) (τ:S),i+us.length<=ops.size->Bk (λi=>(aAG ops.size false).getD i true) us i τ=τ:=by
      intro us
      induction us with
      | nil=>intro i τ _;rfl
      | cons u us ih =>
       intro i τ hle;simp only[aAs]at hle;have hi:i<ops.size:=by omega
       simp only[Bk];have hne:¬ ((aAG ops.size false).getD i true=true):=by simp[hi]
       grind
     simp_all
 | .seq x y,d,hd,Q,σ,F,β,a,w,h,hf,hw=>by
  simp only[PY,aAD,aA]at hd;obtain⟨dx,hx,dy,hy,he⟩:=hd;cases he;refine wp_seq (wp_mono (BC hΓ x dx hx _ σ F β a w h hf hw) λe a' w' hq=>?_)
  obtain⟨τ,F',β',h1,h2,h3⟩:=hq;cases e with
  | normal =>
   obtain⟨τ',hwk,h3⟩:=h3;obtain⟨F2,β2,h1',h2'⟩:=h1.chg h2 hwk;exact BC hΓ y dy hy Q τ' F2 β2 a' w' h1' h2' h3
  | exit id=>exact⟨τ,F',β',h1,h2,h3⟩
  | ret=>exact⟨τ,F',β',h1,h2,h3⟩
  | goto l=>simp_all
  | panic ch=>simp_all
  | outgrown=>simp_all
 | .cond c x y,d,hd,Q,σ,F,β,a,w,h,hf,hw=>by
  simp only[PY,aAD,aA]at hd;obtain⟨dc,hc,dx,hx,dy,hy,he⟩:=hd;cases he;have henv:=CI h.sim hc;have hev:(raw dc).run σ=Dm σ dc:=by cases dc<;>rfl
  rw[hev]at henv;simp only[DWp]at hw;generalize Dm σ dc=dv at *;cases dv<;>try exact hw.elim
  case bool t =>
   have e1:=BL (β:=β) (F:=F) henv;exact wp_cond_split e1 (λht=>BC hΓ x dx hx Q σ F β a w h hf (hw.1 ht)) (λht=>BC hΓ y dy hy Q σ F β a w h hf (hw.2 ht))
 | .block id b,d,hd,Q,σ,F,β,a,w,h,hf,hw=>by
  simp only[PY,aAD,aA]at hd;obtain⟨db,hb,he⟩:=hd;cases he;refine wp_block (wp_mono (BC hΓ b db hb _ σ F β a w h hf hw) λe a' w' hq=>?_)
  obtain⟨τ,F',β',h1,h2,h3⟩:=hq;cases e with
  | normal=>exact⟨τ,F',β',h1,h2,h3⟩
  | exit id' =>
   simp only[Au.inBlock]at h3;simp only[Exit.inBlock];split
   ·rename_i e;rw[if_pos e]at h3;obtain⟨τ',hwk,h3⟩:=h3;obtain⟨F2,β2,h1',h2'⟩:=h1.chg h2 hwk;exact⟨τ',F2,β2,h1',h2',h3⟩
   ·rename_i e;rw[if_neg e]at h3;exact⟨τ,F',β',h1,h2,h3⟩
  | ret=>exact⟨τ,F',β',h1,h2,h3⟩
  | goto l=>simp_all
  | panic ch=>simp_all
  | outgrown=>simp_all
 | .loop b,d,hd,Q,σ,F,β,a,w,h,hf,hw=>by
  simp only[PY,aAD,aA]at hd;obtain⟨db,hb,he⟩:=hd;cases he;obtain⟨ι,St,μ,i₀,hwk,hround⟩:=hw;obtain⟨F2,β2,hS2,hf2⟩:=h.chg hf hwk;refine wp_loop_ghost (λk a w=>∃ i F β,μ i=k/\Ay N w0 F0 M B0 (St i) F β a w/\∀ v,(St i).n<=v->β v=none) (μ i₀) ⟨i₀,F2,β2,rfl,hS2,hf2⟩ ?_
  rintro k a w ⟨i,F,β,rfl,h,hf⟩;refine wp_mono (BC hΓ b db hb _ (St i) F β a w h hf (hround i)) λe a' w' hq=>?_
  obtain⟨τ,F',β',h1,h2,h3⟩:=hq;cases e with
  | normal =>
   obtain⟨i',hlt,hwk'⟩:=h3;obtain⟨F3,β3,hS3,hf3⟩:=h1.chg h2 hwk';exact⟨μ i',hlt,i',F3,β3,rfl,hS3,hf3⟩
  | exit id=>exact⟨τ,F',β',h1,h2,h3⟩
  | ret=>exact⟨τ,F',β',h1,h2,h3⟩
  | goto l=>simp_all
  | panic ch=>simp_all
  | outgrown=>simp_all
 | .rangeFunc ..,d,hd,_,_,_,_,_,_,_,_,_=>by cases hd
 | .scope b,d,hd,Q,σ,F,β,a,w,h,hf,hw =>
  wp_scope_straight (wp_mono (BC hΓ b d (by grind [PY]) Q σ F β a w h hf hw) λe _ _ hq=>by
   cases e with
   | goto l=>obtain⟨_,_,_,_,_,h3⟩:=hq;simp_all
   | _=>exact hq)
 | .label _,d,hd,Q,σ,F,β,a,w,h,hf,hw=>by
  simp only[PY,Option.some.injEq]at hd;subst hd;exact wp_label ⟨σ,F,β,h,hf,hw⟩
 | .goto ..,d,hd,_,_,_,_,_,_,_,_,_=>by cases hd
 | .refuse ..,d,hd,_,_,_,_,_,_,_,_,_=>by cases hd
end
variable {σ τ:S} {d z' x:D} {ws o' O wo:List (Nat×Ab)} {F:Fz} {β PB:Bt} {a:Act} {w:World} {e K E we e':List (Nat×D)} {k i id j q f np s' ty' bytes n':Nat} {v:Value} {ops:List As} {KS:S->Prop} {op:DOp} {fa:Arg} {Γ:Aq} {ds zs cs':List D} {rv:ResultVar} {fn:Func} {s:ChangeSpec} {Mb:List Hd} {p c:Prop} {ptr:List (Nat×(Nat×Nat))} {xs:List Value} {sp:Spec} {α H:Type} {dc:Qi} {parts:List (Nat×Nat×Arg)} {ps:List (Nat×Nat×D)} {rk:List Key} {agg:Bool} {fl:List Int->List Int} {fk:List Int->Nat} {before:List MemPlace} {ex:Au}
inductive AQ where
 | t (n:Nat)
 | c (a n:Nat) (agg:Bool)
variable {rs:List AQ}
def Ug (P:Program):ResultVar->Option AQ
 | .tmp t=>some (.t t)
 | .cell a ty=>if CG P ty then some (.c a (P.cellsOf ty) true)else if(P.underlying ty).isSome then some (.c a 1 false)else none
def PC:AQ->R (Prop×D)
 | .t n=>do
  let(p,d)<-rdA (.t n)
  pure (p=true,d)
 | .c a n agg=>do
  let(p,d)<-rdA (.t a)
  let(c,e,off)<-PI d
  pure (p=true/\c/\off+n<=(cells e).length,PD (cells e) off n agg)
def Ef (r:AQ):R (Prop×D×List (Nat×Ab)):=do
 let(c,d)<-PC r
 let(c',d',w)<-res d
 pure (c/\c',d',w)
def Cw (s ty:Nat) (d:D):R (Prop×D×List (Nat×Ab)×Nat) :=
 match d with
 | .optr g v i off=>.go g fun
  | some (v',o)=>do
   let(c,e',w)<-res (o.es.getD 0 .top)
   pure ((v=v'/\i=0/\off=0/\o.fz=false/\o.var=true/\o.es.length=1/\o.s=s/\o.ty=ty)/\c,e',w,g)
  | none=>.ret (False,.top,[],0)
 | _=>.ret (False,.top,[],0)
def HL (s ty:Nat) (d:D):R (Prop×D×List (Nat×Ab)) :=
 match d with
 | .optr g v i off=>.go g fun
  | some (v',o)=>do
   let(c,e',w)<-pas (Ac g) (o.es.getD 0 .top)
   pure ((v=v'/\i=0/\off=0/\o.fz=false/\o.var=true/\o.es.length=1/\o.s=s/\o.ty=ty)/\c,e',w)
  | none=>.ret (False,.top,[])
 | _=>.ret (False,.top,[])
def Ee (r:Bool) (s ty:Nat) (d:D):R (Prop×D×Nat) :=
 match d with
 | .osl g v i n=>.go g fun
  | some (v',o)=>.ret (v=v'/\i=0/\n<=o.es.length/\o.fz=false/\o.var=false/\o.s=s/\o.ty=ty/\Ac g=r/\(r=true->∀ e∈o.es,∀ c∈cells e,∀ nm u m,c≠ .hole nm u m),.sl (o.es.take n),g)
  | none=>.ret (False,.top,0)
 | _=>.ret (False,.top,0)
def AN:List AQ->R (Prop×List D×List (Nat×Ab))
 | []=>.ret (True,[],[])
 | r::rs=>do
  let(c,d,w)<-Ef r
  let(c',ds,w')<-AN rs
  pure (c/\c',d::ds,w++w')
def BH:List (Nat×(Nat×Nat))->R (Prop×List D×List (Nat×Ab))
 | []=>.ret (True,[],[])
 | (j,(s,ty))::r=>do
  let(c,e,w)<-HL s ty (.optr (8192+j) j 0 0)
  let(c',es,w')<-BH r
  pure (c/\c',e::es,w++w')
def Ek (ptr:List (Nat×(Nat×Nat))):Nat->List D->List Nat
 | _,[]=>[]
 | j,_::r=>(match look ptr j with|some _=>[j]|none=>[])++Ek ptr (j+1) r
def BF (ptr:List (Nat×(Nat×Nat))):Nat->List D->List Nat
 | _,[]=>[]
 | j,d::r=>(match look ptr j with|some _=>[j]|none=>match d with| .clo _ caps=>Ek ptr (64*(j+1)) caps|_=>[])++BF ptr (j+1) r
def EG (ptr:List (Nat×(Nat×Nat))):Nat->List D->List D
 | _,[]=>[]
 | j,d::r=>(match look ptr j with|some _=>.optr (8192+j) j 0 0|none=>d)::EG ptr (j+1) r
def FT (ptr:List (Nat×(Nat×Nat))) (j:Nat) (d:D):D :=
 match look ptr j with
 | some _=>.optr (8192+j) j 0 0
 | none=>match d with| .clo f caps=>.clo f (EG ptr (64*(j+1)) caps)|d=>d
def Dq (ptr:List (Nat×(Nat×Nat))):Nat->List D->List (Nat×D)
 | _,[]=>[]
 | j,d::r=>(j,FT ptr j d)::Dq ptr (j+1) r
def Gx (ptr:List (Nat×(Nat×Nat))):Nat->List D->List (Nat×Ab)
 | _,[]=>[]
 | j,d::r=>(match look ptr j with|some (s,ty)=>[(8192+j,some (j,⟨false,true,s,ty,[d]⟩))]|none=>[])++Gx ptr (j+1) r
def CC (ptr:List (Nat×(Nat×Nat))):Nat->List D->List (Nat×Ab)
 | _,[]=>[]
 | j,d::r=>(match look ptr j with|some (s,ty)=>[(8192+j,some (j,⟨false,true,s,ty,[d]⟩))]|none=>match d with| .clo _ caps=>Gx ptr (64*(j+1)) caps|_=>[])++CC ptr (j+1) r
def DG (sp:Spec) (ds:List D):S:=⟨Dq sp.ptr 0 ds,CC sp.ptr 0 ds,262144⟩
def EK (ptr:List (Nat×(Nat×Nat))):Bool:=(ptr.map Prod.fst).all (λk=>aAH k 262144)&&decide (ptr.map Prod.fst).Nodup
def Ck (sp:Spec) (rs:List AQ) (ds:List D) (τ:S):Prop :=
 ((BH sp.ptr).run τ).1/\((BH sp.ptr).run τ).2.1=sp.eff ds /\
 match sp.kind,rs with
 | .val,[r]| .ground,[r]=>((Ef r).run τ).1/\((Ef r).run τ).2.1=sp.res ds
 | .val,rs| .ground,rs=>((AN rs).run τ).1/\ .tup ((AN rs).run τ).2.1=sp.res ds/\rs.length≠1
 | .row s ty,[r]=>((PC r).run τ).1/\((Ee false s ty ((PC r).run τ).2).run τ).1/\((Ee false s ty ((PC r).run τ).2).run τ).2.1=sp.res ds/\((BH sp.ptr).run τ).2.2.all (λx=>x.1 != ((Ee false s ty ((PC r).run τ).2).run τ).2.2)=true
 | .mat s ty,[r]=>((PC r).run τ).1/\((Ee true s ty ((PC r).run τ).2).run τ).1/\((Ee true s ty ((PC r).run τ).2).run τ).2.1=sp.res ds/\sp.ptr=[]
 | .ptr s ty,[r]=>((PC r).run τ).1/\((Cw s ty ((PC r).run τ).2).run τ).1/\((Cw s ty ((PC r).run τ).2).run τ).2.1=sp.res ds/\Ac ((Cw s ty ((PC r).run τ).2).run τ).2.2.2=false
 | .tupPtr q s ty,rs=>q<rs.length/\rs.length≠1/\sp.ptr=[]/\((AN (rs.take q)).run τ).1/\((AN (rs.drop (q+1))).run τ).1/\((PC (rs.getD q (.t 0))).run τ).1/\((Cw s ty ((PC (rs.getD q (.t 0))).run τ).2).run τ).1 /\
   .tup (((AN (rs.take q)).run τ).2.1++((Cw s ty ((PC (rs.getD q (.t 0))).run τ).2).run τ).2.1::((AN (rs.drop (q+1))).run τ).2.1)=sp.res ds
 | _,_=>False
def MB (Γ:Aq) (sp:Spec) (np:Nat) (rs:List AQ) (c:Qi):Prop :=
 ∀ ds,sp.pre ds->ds.length=np/\BF sp.ptr 0 ds=sp.ptr.map Prod.fst->Wk (DWp Γ c (λe τ=>match e with| .exit _=>False|_=>Wk (Ck sp rs ds) τ)) (DG sp ds)
section
variable {N:Nat} {w0:World} {F0:Fz} {M:Nat->Prop} {B0:Bt} {P:Program} {σ:S} {F:Fz} {β:Bt} {a:Act} {w:World}
theorem NB (h:Sim N w0 F0 M B0 σ F β a w) {r:AQ} (hr:Ug P rv=some r) (hc:((PC r).run σ).1) :
  ∃ v,(match rv with| .tmp t=>(pure (a.tmps.getD t undef):Sem Value)| .cell c t=>(do loadVar t (<- asAddr (a.tmps.getD c undef)):Sem Value)).run P w= .ok v w/\Val F β ((PC r).run σ).2 v:=by
 cases rv with
 | tmp t =>
  simp only[Ug,Option.some.injEq]at hr;subst hr;simp only[PC,R.run_bind,R.run_pure]at hc ⊢;refine⟨_,rfl,?_⟩;have:=(h.env t).strip (by simp_all[rdA,raw])
  simp_all[rdA,raw]
 | cell c ty =>
  simp only[Ug]at hr;have key:∀ (n:Nat) (agg:Bool),r= .c c n agg->CG P ty=agg->(P.underlying ty).isSome=true->(agg=true->P.info? ty≠none/\n=P.cellsOf ty)->(agg=false->n=1)->∃ v,(do loadVar ty (<- asAddr (a.tmps.getD c undef)):Sem Value).run P w= .ok v w/\Val F β ((PC r).run σ).2 v:=by
   rintro n agg rfl h1 h2 h3 h4;simp only[PC,R.run_bind,R.run_pure,rdA,raw,R.run]at hc ⊢;obtain⟨q1,q2,q3⟩:=hc;have hv:=(h.env c).strip q1;obtain⟨v,r1,r2⟩:=JM (P:=P) h hv q2 ty n agg h1 h2 h3 h4 q3
   grind [IC,Instr.loadAt,Instr.sureAddr,asAddr]
  grind [DU,Option.isSome_iff_exists,DA]
end
section
variable {N:Nat} {w0:World} {F0:Fz} {M:Nat->Prop} {B0:Bt} {P:Program} {σ:S} {F:Fz} {β:Bt} {a:Act} {w:World}
def Hp (a:Act):ResultVar->Sem Value
 | .tmp t=>pure (a.tmps.getD t undef)
 | .cell c t=>do loadVar t (<- asAddr (a.tmps.getD c undef))
theorem Mm (h:Sim N w0 F0 M B0 σ F β a w) {r:AQ} (hr:Ug P rv=some r) (hc:((PC r).run σ).1) :
  ∃ v,(Hp a rv).run P w= .ok v w/\Val F β ((PC r).run σ).2 v:=by
 have:=NB (P:=P) h hr hc;cases rv<;>exact this
theorem FA (h:Sim N w0 F0 M B0 σ F β a w):∀ (rvs:List ResultVar) (rs:List AQ),rvs.mapM (Ug P)=some rs->(∀ r∈rs,((PC r).run σ).1) ->
  ∃ vs:List Value,(rvs.mapM (Hp a)).run P w= .ok vs w/\vs.length=rs.length/\rvs.length=rs.length/\∀ (i:Nat) r v,rs[i]? =some r->vs[i]? =some v->Val F β ((PC r).run σ).2 v
 | [],rs,hm,_=>by
  simp_all
 | rv::rvs,rs,hm,hc=>by
  simp only[List.mapM_cons,aAD,aA]at hm;obtain⟨r,hr,rs',hrs,he⟩:=hm;cases he;obtain⟨v,v1,v2⟩:=Mm (P:=P) h hr (hc r (by simp))
  obtain⟨vs,k1,k2,k3,k4⟩:=FA h rvs rs' hrs (λr hr=>hc r (by simp[hr]))
  refine⟨v::vs,by simp_all,by simp[k2],by simp[k3],λi r' v' hi hv=>?_⟩
  grind
theorem BU (h:Sim N w0 F0 M B0 σ F β a w) (hm:fn.results.toList.mapM (Ug P)=some rs) (hc:∀ r∈rs,((PC r).run σ).1) :
  ∃ vs:List Value,(results fn a.tmps).run P w= .ok (if h:vs.length=1 then vs[0]else .tuple vs.toArray) w/\vs.length=rs.length/\∀ (i:Nat) r v,rs[i]? =some r->vs[i]? =some v->Val F β ((PC r).run σ).2 v:=by
 obtain⟨vs,k1,k2,_,k4⟩:=FA (P:=P) h _ rs hm hc;refine⟨vs,?_,k2,k4⟩;have hmap:(fn.results.mapM (Hp a)).run P w= .ok vs.toArray w:=by
  simp_all[Array.mapM_eq_mapM_toList]
 have e:results fn a.tmps=(do let vs<-fn.results.mapM (Hp a);pure (if h:vs.size=1 then vs[0]else .tuple vs)):=by
  unfold results
  have:(fun
   | .tmp t=>pure (a.tmps.getD t undef)
   | .cell b t=>do loadVar t (<- asAddr (a.tmps.getD b undef)):ResultVar->Sem Value)=Hp a:=by
   funext rv;cases rv<;>rfl
  rw[<- this];rfl
 simp_all
theorem JV (h:Sim N w0 F0 M B0 σ F β a w) (hdr:w0.heap.size<=w0.drawn) {s ty:Nat} {x:Value} (hx:Val F β d x) (hc:((Cw s ty d).run σ).1) :
  Ao σ ((Cw s ty d).run σ).2.2.1/\∃ g v o b,((Cw s ty d).run σ).2.2.2=g/\σ.go g=some (v,o)/\o.fz=false/\o.var=true/\β v=some ⟨some b,1,s⟩/\x= .pointer (some ⟨b,0,none⟩) /\
   ∀ (ws:List (Nat×Ab)) F',Ao σ ws->(∀ p∈((Cw s ty d).run σ).2.2.1,p∈ws)->Ag F F'->Sim N w0 F0 M B0 ⟨σ.e,ws++σ.o,σ.n⟩ F' β a w->Ix F' w b s ty ((Cw s ty d).run σ).2.1/\(∀ i,F' b i=none)/\b<w.heap.size/\(w0.heap.size<=b\/(M b/\Ac g=true))/\∃ v' o',(S.mk σ.e (ws++σ.o) σ.n).go g=some (v',o')/\o'.fz=false/\β v'=some ⟨some b,1,s⟩:=by
 cases d<;>try exact hc.elim
 case optr g v i off =>
  simp only[Cw,R.run]at hc ⊢;cases hg:σ.go g with
  | none=>simp_all
  | some p =>
   obtain⟨v',o⟩:=p;rw[hg]at hc;simp only[R.run_bind,R.run_pure]at hc ⊢;obtain⟨⟨rfl,rfl,rfl,hfz,hvar,hlen,rfl,rfl⟩,hc1⟩:=hc;obtain⟨L,b,hL,hb,rfl⟩:=hx;obtain⟨L',hL',_,hk⟩:=h.own g v o hg;rw[hL]at hL';cases hL';obtain⟨e1,e2,e3,e4,e5,e6⟩:=hk hfz;rw[hb]at e6;obtain⟨C,hC,hCs,hcell⟩:=e6;obtain⟨e,he⟩:∃ e,o.es=[e]:=aAy.1 hlen;have hge:o.es.getD 0 .top=e:=by simp[he]
   rw[hge]at hc1 ⊢;have hX:∀ (j:Nat) c,(cells e)[j]? =some c->∃ x,C[j]? =some x/\x.oneCell'=true/\Cel F β c x:=by
    grind
   obtain⟨f1,l1,r1⟩:=Fx h e (λj=>C[j]?) hX hc1
   have hcap:L.cap=1:=by
    grind
   have hLe:L=⟨some b,1,o.s⟩:=by cases L;simp_all
   refine⟨f1,g,v,o,b,rfl,hg,hfz,hvar,by rw[hL,hLe],by simp,λws F' q1 q2 q3 q4=>?_⟩
   have hgo:(S.mk σ.e (ws++σ.o) σ.n).go g=some (v,o):=by
    rcases q1.go g with⟨v2,o2,k1,k2,_,_⟩|⟨_,k2⟩
    all_goals simp_all
   obtain⟨s1,s2,s3⟩:=q4.sep g v o L b hgo hfz hL hb;replace s3:w0.heap.size<=b\/(M b/\Ac g=true):=s3.elim .inl λs3=>s3.2.elim (λe=>.inr ⟨s3.1,e⟩) λe=>.inl (aAr hdr e)
   refine⟨⟨rfl,e2,by simp,by simp,λq hq=>?_,C,hC,by simp_all,λi j c' c hc' hj=>?_⟩,s1,s2,s3,v,o,hgo,hfz,by rw[hL,hLe]⟩
   all_goals grind [Cel.Ae]
theorem NC {L:Loc} {b:Nat} (h:Sim N w0 F0 M B0 σ F β a w) {s ty g v:Nat} (hL:β v=some L) (hb:L.b=some b) (hLs:L.cap=1/\L.s=s) (hc:((HL s ty (.optr g v 0 0)).run σ).1) :
  Ao σ ((HL s ty (.optr g v 0 0)).run σ).2.2/\∃ o,σ.go g=some (v,o)/\o.fz=false/\o.var=true /\
   ∀ (ws:List (Nat×Ab)) F' φ,Ao σ ws->(∀ p∈((HL s ty (.optr g v 0 0)).run σ).2.2,p∈ws)->Ag F F'->Sim N w0 F0 M B0 ⟨σ.e,ws++σ.o,σ.n⟩ F' β a w->AA F' β w0.heap.size M ⟨σ.e,ws++σ.o,σ.n⟩ w φ ->
    EB F' w ⟨b,s,ty,φ g 0⟩ ((HL s ty (.optr g v 0 0)).run σ).2.1/\(S.mk σ.e (ws++σ.o) σ.n).go g=some (v,o):=by
 simp only[HL,R.run]at hc ⊢;cases hg:σ.go g with
 | none=>simp_all
 | some p =>
  obtain⟨v',o⟩:=p;rw[hg]at hc;simp only[R.run_bind,R.run_pure]at hc ⊢;obtain⟨⟨rfl,_,_,hfz,hvar,hlen,rfl,rfl⟩,hc1⟩:=hc;obtain⟨L',hL',_,hk⟩:=h.own g v o hg;rw[hL]at hL';cases hL';obtain⟨e1,e2,e3,e4,e5,e6⟩:=hk hfz;rw[hb]at e6;obtain⟨C,hC,hCs,hcell⟩:=e6;obtain⟨e,he⟩:∃ e,o.es=[e]:=aAy.1 hlen;have hge:o.es.getD 0 .top=e:=by simp[he]
  rw[hge]at hc1 ⊢;obtain⟨hc1,hpe,hpr⟩:=JR hc1;have hpe':(pas (Ac g) e).run σ=(((pas (Ac g) e).run σ).1,((res e).run σ).2):=Prod.ext rfl hpe;rw[hpe'];dsimp only;have hX:∀ (j:Nat) c,(cells e)[j]? =some c->∃ x,C[j]? =some x/\x.oneCell'=true/\Cel F β c x:=by
   grind
  obtain⟨f1,l1,r1⟩:=Fx h e (λj=>C[j]?) hX hc1
  refine⟨f1,o,rfl,hfz,hvar,λws F' φ q1 q2 q3 q4 hφ=>?_⟩
  have hgo:(S.mk σ.e (ws++σ.o) σ.n).go g=some (v,o):=by
   rcases q1.go g with⟨v2,o2,k1,k2,_,_⟩|⟨_,k2⟩
   all_goals grind
  obtain⟨s1,s2,_⟩:=q4.sep g v o L b hgo hfz hL hb;refine⟨⟨⟨rfl,e2,by simp,by simp,λq hq=>?_,C,hC,by grind,λi j c' c hc' hj=>?_⟩,s1,s2,hφ.none_ g 0,hφ.lt g 0,λj b' hb' e'=>?_,λj j' b' h1 h2=>(hφ.dis _ _ _ _ _ _ _ h1 h2).2.2,λC' j x s ty es hC' hj hx=>?_,λj nm u n hj=>(hpr j _ hj).2 nm u n rfl⟩,hgo⟩
  ·grind
  ·grind [Cel.Ae]
  ·simp only at e';subst e';exact hφ.sep g 0 j _ g v o L hb' hgo hfz hL hb
  ·obtain⟨z1,z2⟩:=(hpr j _ hj).1 s ty es rfl;exact hφ.row g v o L b C' 0 j e x s ty es z1 hgo hfz hL hb hC' (by simp[he]) z2 (by simp_all)
theorem JW (_h:Sim N w0 F0 M B0 σ F β a w) (hdr:w0.heap.size<=w0.drawn) {r:Bool} {s ty:Nat} {x:Value} (hx:Val F β d x) (hc:((Ee r s ty d).run σ).1) :
  ∃ es L g v o,((Ee r s ty d).run σ).2.1= .sl es/\x= .slice (L.b.map λb=>⟨b,0,none⟩) es.length L.cap/\Ac g=r/\o.fz=false/\o.s=s/\o.ty=ty/\β v=some L/\(∃ n,es=o.es.take n)/\(r=true->∀ e∈o.es,∀ c∈cells e,∀ nm u m,c≠ .hole nm u m) /\
   ∀ (ws:List (Nat×Ab)) F',ws.all (λx=>x.1 != ((Ee r s ty d).run σ).2.2)=true->Ag F F'->Sim N w0 F0 M B0 ⟨σ.e,ws++σ.o,σ.n⟩ F' β a w->Ax F' noB w L ⟨false,false,s,ty,es⟩/\(S.mk σ.e (ws++σ.o) σ.n).go g=some (v,o)/\∀ b,L.b=some b->(w0.heap.size<=b\/(r=true/\M b))/\b<w.heap.size/\∀ i,F' b i=none:=by
 cases d<;>try exact hc.elim
 case osl g v i n =>
  simp only[Ee,R.run]at hc ⊢;cases hg:σ.go g with
  | none=>simp_all
  | some p =>
   obtain⟨v',o⟩:=p;rw[hg]at hc;simp only[R.run]at hc ⊢;obtain⟨rfl,rfl,hn,hfz,hvar,rfl,rfl,hrg,hnh⟩:=hc;obtain⟨L,a',hL,rfl,hcap,ha,_⟩:=hx;refine⟨o.es.take n,L,g,v,o,rfl,by simp_all,hrg,hfz,rfl,rfl,hL,⟨n,rfl⟩,hnh,λws F' hws hF hS=>?_⟩
   have hgo:(S.mk σ.e (ws++σ.o) σ.n).go g=some (v,o):=by
    have:look ws g=none:=by
     cases hl:look ws g with
     | none=>rfl
     | some y =>
      have:=aAU.1 hws _ (Bi hl);simp at this
    grind [S.go,BD]
   obtain⟨L',hL',_,hk⟩:=hS.own g v o hgo;rw[hL]at hL';cases hL';obtain⟨e1,e2,e3,e4,e5,e6⟩:=hk hfz;refine⟨⟨e1,e2,?_,?_,λe he=>e5 e (List.mem_of_mem_take he),?_⟩,hgo,λb hb=>?_⟩
   ·simp_all
   ·simp_all
   ·cases hb:L.b with
    | none=>simp_all
    | some b =>
     grind
   ·obtain⟨s1,s2,s3⟩:=hS.sep g v o L b hgo hfz hL hb
    grind
theorem EO (h:Sim N w0 F0 M B0 σ F β a w):∀ (rs:List AQ) (vs:List Value),rs.length=vs.length->(∀ (i:Nat) r v,rs[i]? =some r->vs[i]? =some v->((PC r).run σ).1->Val F β ((PC r).run σ).2 v)->((AN rs).run σ).1 ->
  Ao σ ((AN rs).run σ).2.2/\((AN rs).run σ).2.1.length=vs.length/\∀ (ws:List (Nat×Ab)) F',Ao σ ws->(∀ p∈((AN rs).run σ).2.2,p∈ws)->Ag F F'->Sim N w0 F0 M B0 ⟨σ.e,ws++σ.o,σ.n⟩ F' β a w ->
   ∀ (j:Nat) c v,((AN rs).run σ).2.1[j]? =some c->vs[j]? =some v->Fro F' c v
 | [],vs,hl,_,_=>⟨Ao.nil σ,by grind [AN,R.run],λ_ _ _ _ _ _ j c v hj=>by grind⟩
 | r::rs,[],hl,_,_=>by simp at hl
 | r::rs,v::vs,hl,hv,hc=>by
  simp only[AN,Ef,R.run_bind,R.run_pure]at hc ⊢;obtain⟨⟨c1,c2⟩,c3⟩:=hc;obtain⟨f1,r1⟩:=Fy h _ (hv 0 r v rfl rfl c1) c2;obtain⟨f2,l2,r2⟩:=EO h rs vs (by simp_all) (λi r' v' h1 h2=>hv (i+1) r' v' (by simp_all) (by simp_all)) c3
  refine⟨f1.append f2,by simp[l2],λws F' q1 q2 q3 q4 j c v' hj hv'=>?_⟩
  grind
theorem Du:∀ (rs:List AQ),((AN rs).run σ).1->∀ r∈rs,((PC r).run σ).1
 | [],_,r,hr=>by cases hr
 | r0::rs,hc,r,hr=>by
  simp only[AN,Ef,R.run_bind,R.run_pure]at hc;cases hr with
  | head=>exact hc.1.1
  | tail _ hr=>exact Du rs hc.2 r hr
end
section
variable {N:Nat} {P:Program}
def ini (p:(Nat×D)×Hd):Nat×Ab:=(8192+p.1.1,some (p.1.1,⟨false,true,p.2.s,p.2.ty,[p.1.2]⟩))
structure Ini (F:Fz) (w:World) (ptr:List (Nat×(Nat×Nat))) (O:List (Nat×Ab)) (keys:List Nat) (Mb:List Hd) (K:List (Nat×D)):Prop where
 len:K.length=Mb.length
 keys:K.map Prod.fst=keys
 obj:O=(K.zip Mb).map ini
 ok:∀ (k:Nat) key d m,K[k]? =some (key,d)->Mb[k]? =some m->EB F w m d/\look ptr key=some (m.s,m.ty)
 apart:∀ (k k':Nat) m m',k<k'->Mb[k]? =some m->Mb[k']? =some m'->SY m m'
def Nam (K:List (Nat×D)) (Mb:List Hd) (PB:Bt):Prop:=∀ (k:Nat) key d m,K[k]? =some (key,d)->Mb[k]? =some m->PB key=some ⟨some m.b,1,m.s⟩
theorem Nam.cons {p:Nat×D} {m:Hd} (h:Nam (p::K) (m::Mb) PB):PB p.1=some ⟨some m.b,1,m.s⟩/\Nam K Mb PB :=
 ⟨h 0 p.1 p.2 m rfl rfl,λk key d m' h1 h2=>h (k+1) key d m' (by simp_all) (by simp_all)⟩
theorem Nam.append {K1 K2:List (Nat×D)} {M1 M2:List Hd} (hl:K1.length=M1.length) (h:Nam (K1++K2) (M1++M2) PB):Nam K1 M1 PB/\Nam K2 M2 PB:=by
 refine⟨λk key d m h1 h2=>h k key d m ?_ ?_,λk key d m h1 h2=>h (K1.length+k) key d m ?_ ?_⟩
 all_goals grind
theorem Ini.nil:Ini F w ptr [] [] [] []:=⟨rfl,rfl,rfl,λk key d m h=>by simp at h,λk k' m m' _ h=>by simp at h⟩
theorem Ini.cons {keys:List Nat} (h:Ini F w ptr O keys Mb K) {m:Hd} (hp:look ptr j=some (m.s,m.ty)) (hd:EB F w m d) (hM:∀ m'∈Mb,SY m m') :
  Ini F w ptr ((8192+j,some (j,⟨false,true,m.s,m.ty,[d]⟩))::O) (j::keys) (m::Mb) ((j,d)::K):=by
 refine⟨by simp[h.len],by simp[h.keys],by simp[h.obj,ini],λk key d' m' h1 h2=>?_,λk k' m1 m2 hlt h1 h2=>?_⟩
 ·rcases k with _|k
  ·simp_all
  ·simp only[aAR]at h1 h2;exact h.ok k key d' m' h1 h2
 ·rcases k' with _|k'
  ·omega
  ·simp only[aAR]at h2;rcases k with _|k
   ·grind
   ·simp only[aAR]at h1;exact h.apart k k' m1 m2 (by omega) h1 h2
theorem Ini.append {O1 O2:List (Nat×Ab)} {k1 k2:List Nat} {M1 M2:List Hd} {K1 K2:List (Nat×D)} (h1:Ini F w ptr O1 k1 M1 K1) (h2:Ini F w ptr O2 k2 M2 K2) (hM:∀ m∈M1,∀ m'∈M2,SY m m') :
  Ini F w ptr (O1++O2) (k1++k2) (M1++M2) (K1++K2):=by
 refine⟨by simp[h1.len,h2.len],by simp[h1.keys,h2.keys],by rw[h1.obj,h2.obj,List.zip_append h1.len,List.map_append],λk key d m q1 q2=>?_,λk k' m m' hlt q1 q2=>?_⟩
 ·by_cases hk:k<K1.length
  ·rw[aAI hk]at q1;rw[aAI (by rw[<- h1.len];exact hk)]at q2
   exact h1.ok k key d m q1 q2
  ·rw[aAK (by omega)]at q1
   rw[aAK (by rw[<- h1.len];omega),<- h1.len]at q2
   exact h2.ok _ key d m q1 q2
 ·by_cases hk:k'<M1.length
  ·rw[aAI (by omega)]at q1
   rw[aAI hk]at q2;exact h1.apart k k' m m' hlt q1 q2
  ·rw[aAK (by omega)]at q2
   by_cases hk2:k<M1.length
   ·grind
   ·rw[aAK (by omega)]at q1
    exact h2.apart _ _ m m' (by omega) q1 q2
theorem Ma (h:CU F w ptr j ds xs Mb) :
  ∃ K,Ini F w ptr (Gx ptr j ds) (Ek ptr j ds) Mb K/\(EG ptr j ds).length=xs.length/\∀ PB,Nam K Mb PB->∀ (q:Nat) d x,(EG ptr j ds)[q]? =some d->xs[q]? =some x->Ref F PB d x:=by
 induction h with
 | nil j=>exact⟨[],Ini.nil,rfl,λPB _ q d x hq=>by simp_all⟩
 | val j d ds x xs M hp hx _ ih =>
  grind [Gx,Ek,EG,Ref.Ae]
 | ptr j d ds xs M m hp hd hM _ ih =>
  obtain⟨K,k1,k2,k3⟩:=ih;refine⟨(j,d)::K,by simpa[Gx,Ek,hp]using k1.cons hp hd hM,by grind [EG],λPB hPB q d' x' hq hx'=>?_⟩
  obtain⟨n1,n2⟩:=hPB.cons;simp only[EG,hp]at hq;rcases q with _|q
  ·simp only[aAQ,Option.some.injEq]at hq hx';subst hq;subst hx';exact⟨_,m.b,n1,rfl,by simp⟩
  grind
theorem LZ (h:BX F w ptr j ds xs Mb) :
  ∃ K,Ini F w ptr (CC ptr j ds) (BF ptr j ds) Mb K/\∀ PB,Nam K Mb PB->∀ t d,look (Dq ptr j ds) t=some d->∃ x,j<=t/\xs[t-j]? =some x/\Env F PB d x:=by
 have tail:∀ {j:Nat} {d0:D} {ds:List D} {x0:Value} {xs:List Value} {PB:Bt},Env F PB (FT ptr j d0) x0->(∀ t d,look (Dq ptr (j+1) ds) t=some d->∃ x,j+1<=t/\xs[t-(j+1)]? =some x/\Env F PB d x) ->
   ∀ t d,look (Dq ptr j (d0::ds)) t=some d->∃ x,j<=t/\(x0::xs)[t-j]? =some x/\Env F PB d x:=by
  intro j d0 ds x0 xs PB h0 hr t d ht;simp only[Dq,look]at ht
  grind
 induction h with
 | nil j=>exact⟨[],Ini.nil,λPB _ t d ht=>by grind [Dq,look]⟩
 | val j d ds x xs M hp hn hx _ ih =>
  obtain⟨K,k1,k3⟩:=ih;have hm:CC ptr j (d::ds)=CC ptr (j+1) ds/\BF ptr j (d::ds)=BF ptr (j+1) ds/\FT ptr j d=d:=by
   simp_all[CC,BF,FT]
  obtain⟨m1,m2,m3⟩:=hm;rw[m1,m2];exact⟨K,k1,λPB hPB=>tail (by grind [Env.Ae]) (k3 PB hPB)⟩
 | ptr j d ds xs M m hp hd hM _ ih =>
  obtain⟨K,k1,k3⟩:=ih;refine⟨(j,d)::K,by simpa[CC,BF,hp]using k1.cons hp hd hM,λPB hPB=>?_⟩
  obtain⟨n1,n2⟩:=hPB.cons;exact tail (by simp only[FT,hp];exact⟨_,m.b,n1,rfl,by simp⟩) (k3 PB n2)
 | clo j f caps vs ds xs M1 M2 hp hc hM _ ih =>
  obtain⟨K,k1,k3⟩:=ih;obtain⟨K1,c1,c2,c3⟩:=Ma hc;refine⟨K1++K,by simpa[CC,BF,hp]using c1.append k1 hM,λPB hPB=>?_⟩
  obtain⟨n1,n2⟩:=hPB.append c1.len;exact tail (by simp only[FT,hp];exact⟨vs,rfl,c2,c3 PB n1⟩) (k3 PB n2)
theorem Mt (hF:Fok F w) (hfin:∀ b i x,F b i=some x->b<w.heap.size) (h:BX F w sp.ptr 0 ds xs Mb) (hN:xs.length+k=N) (hok:EK sp.ptr=true) (hkeys:BF sp.ptr 0 ds=sp.ptr.map Prod.fst) :
  ∃ (PB:Bt) (K:List (Nat×D)),Sim N { w with drawn:=w.heap.size } F (Wr Mb) PB (DG sp ds) F PB { tmps:=xs.toArray++aAG k undef,defers:=[] } w/\(∀ v,262144<=v->PB v=none)/\Nam K Mb PB/\K.length=Mb.length/\K.map Prod.fst=sp.ptr.map Prod.fst /\
   ∀ (i:Nat) key d m,K[i]? =some (key,d)->Mb[i]? =some m->look sp.ptr key=some (m.s,m.ty):=by
 obtain⟨K,hI,hE⟩:=LZ h;simp only[EK,aAS,decide_eq_true_eq]at hok;obtain⟨hlt,hnd⟩:=hok;have hKn:(K.map Prod.fst).Nodup:=by rw[hI.keys,hkeys];exact hnd
 have hzl:(K.zip Mb).length=K.length:=by simp[hI.len]
 have huk:∀ (i i':Nat) key d d',K[i]? =some (key,d)->K[i']? =some (key,d')->i=i':=by
  intro i i' key d d' h1 h2;have e1:(K.map Prod.fst)[i]? =some key:=by simp[h1]
  have e2:(K.map Prod.fst)[i']? =some key:=by simp[h2]
  grind [aAp]
 let PB:Bt:=λv=>((K.zip Mb).find? λp=>p.1.1==v).map λp=>⟨some p.2.b,1,p.2.s⟩
 have hPB:∀ v L,PB v=some L->∃ (i:Nat) (d:D) (m:Hd),K[i]? =some (v,d)/\Mb[i]? =some m/\L=⟨some m.b,1,m.s⟩:=by
  intro v L hv;simp only[PB,aAW]at hv;obtain⟨⟨⟨key,d⟩,m⟩,h1,rfl⟩:=hv;have hk:=List.find?_some h1;simp only[beq_iff_eq]at hk
  grind [aAZ,aAq]
 have hnam:Nam K Mb PB:=by
  intro i key d m h1 h2;have hm:((key,d),m)∈K.zip Mb:=aAJ (i:=i) (by grind)
  cases hf:(K.zip Mb).find? λp=>p.1.1==key with
  | none =>
   grind
  | some p =>
   have hv:PB key=some ⟨some p.2.b,1,p.2.s⟩:=by grind
   obtain⟨i',d',m',q1,q2,q3⟩:=hPB key _ hv
   grind
 have hgo:∀ g v o,(DG sp ds).go g=some (v,o)->∃ (i:Nat) (d:D) (m:Hd),K[i]? =some (v,d)/\Mb[i]? =some m/\g=8192+v/\o=⟨false,true,m.s,m.ty,[d]⟩:=by
  intro g v o hg;simp only[S.go,DG]at hg;cases hl:look (CC sp.ptr 0 ds) g with
  | none=>grind
  | some y =>
   rw[hl]at hg;simp only[aAB]at hg;subst hg;have hm:=Bi hl;rw[hI.obj,List.mem_map]at hm
   grind [aAZ,aAq,ini]
 have hap:∀ (i i':Nat) m m' b,Mb[i]? =some m->Mb[i']? =some m'->m.own b->m'.own b->i=i':=by
  intro i i' m m' b h1 h2 h3 h4;rcases Nat.lt_trichotomy i i' with hl|hl|hl
  ·exact(hI.apart i i' m m' hl h1 h2 b h3 h4).elim
  ·exact hl
  ·exact(hI.apart i' i m' m hl h2 h1 b h4 h3).elim
 refine⟨PB,K,?_,?_,hnam,hI.len,by rw[hI.keys,hkeys],λi key d m h1 h2=>(hI.ok i key d m h1 h2).2⟩
 ·refine{ nam:=Aw.refl _,size:=by simp[hN],defers:=rfl,env:=λt=>?_,own:=?_,dist:=?_,sep:=?_,Ac:=?_,frz:=hF,fin:=hfin,step:=⟨rfl,rfl,rfl,aAP _,λ_ _ _=>rfl,Ag.refl F,λ_ _ _ _=>rfl⟩ }
  ·simp only[S.ge,DG];cases hl:look (Dq sp.ptr 0 ds) t with
   | none=>exact Env.top _
   | some d =>
    obtain⟨x,_,q2,q3⟩:=hE PB hnam t d hl;simp only[Nat.sub_zero]at q2;have hlt:t<xs.length:=(aAA.1 q2).1;have:(xs.toArray++aAG k undef).getD t undef=x:=by
     rw[aAT,aAl (by omega)]
     simp[q2]
    grind
  ·intro g v o hg;obtain⟨i,d,m,h1,h2,rfl,rfl⟩:=hgo g v o hg;exact⟨_,hnam i v d m h1 h2,λe=>(by cases e),λ_=>(hI.ok i v d m h1 h2).1.var.keep (Ag.refl _) (HJ _) (λ_ _=>rfl)⟩
  ·intro g g' v v' o o' L L' b hg hg' _ _ hL hL' hb hb';obtain⟨i,d,m,h1,h2,rfl,_⟩:=hgo g v o hg;obtain⟨i',d',m',h1',h2',rfl,_⟩:=hgo g' v' o' hg';rw[hnam i v d m h1 h2]at hL;cases hL;cases hb;rw[hnam i' v' d' m' h1' h2']at hL';cases hL';have hbb:m'.b=m.b:=Option.some.inj hb';have:=hap i i' m m' m.b h2 h2' (.inl rfl) (.inl hbb.symm)
   grind
  ·intro g v o L b hg _ hL hb;obtain⟨i,d,m,h1,h2,rfl,rfl⟩:=hgo g v o hg;rw[hnam i v d m h1 h2]at hL;cases hL;cases hb;have hz:=(hI.ok i v d m h1 h2).1;exact⟨hz.none_,hz.lt,.inr ⟨⟨m,aAJ h2,.inl rfl⟩,by simp[Ac];omega⟩⟩
  ·refine⟨λg i j b=>∃ (q:Nat) (key:Nat) (d:D) (m:Hd),K[q]? =some (key,d)/\Mb[q]? =some m/\g=8192+key/\i=0/\m.φ j b,?_,?_,?_,?_,?_,?_,?_⟩
   ·intro g v o L b C i j e x s ty es _ hg _ hL hb hC he hj hx;obtain⟨q,d,m,h1,h2,rfl,rfl⟩:=hgo g v o hg;rw[hnam q v d m h1 h2]at hL;cases hL;cases hb;rcases i with _|i
    ·simp only[aAQ,Option.some.injEq]at he;subst he;exact((hI.ok q v d m h1 h2).1.row C j x s ty es hC hj (by grind)).keep (Ag.refl _) (λ_ _=>rfl) (λb hb=>⟨q,v,d,m,h1,h2,rfl,rfl,hb⟩)
    grind
   ·intro g v o L b C i j e x nm u n _ hg _ hL hb hC he hj hx;obtain⟨q,d,m,h1,h2,rfl,rfl⟩:=hgo g v o hg;rcases i with _|i
    ·simp only[aAQ,Option.some.injEq]at he;subst he;exact((hI.ok q v d m h1 h2).1.hole j _ u n hj).elim
    grind
   ·rintro g i j b ⟨q,key,d,m,h1,h2,_,_,hb⟩;exact(hI.ok q key d m h1 h2).1.fno j b hb
   ·rintro g i j b ⟨q,key,d,m,h1,h2,_,_,hb⟩;exact(hI.ok q key d m h1 h2).1.flt j b hb
   ·rintro g i j b ⟨q,key,d,m,h1,h2,_,_,hb⟩;exact .inr ⟨m,aAJ h2,.inr ⟨j,hb⟩⟩
   ·rintro g i j b g' v' o' L' ⟨q,key,d,m,h1,h2,_,_,hb⟩ hg' _ hL' hLb;obtain⟨q',d',m',h1',h2',rfl,rfl⟩:=hgo g' v' o' hg';rw[hnam q' v' d' m' h1' h2']at hL';cases hL';have hbb:m'.b=b:=Option.some.inj hLb;have:=hap q q' m m' b h2 h2' (.inr ⟨j,hb⟩) (.inl hbb.symm);subst this;rw[h2]at h2';cases h2';exact(hI.ok q key d m h1 h2).1.fne j b hb hbb.symm
   ·rintro g i j g' i' j' b ⟨q,key,d,m,h1,h2,rfl,rfl,hb⟩ ⟨q',key',d',m',h1',h2',rfl,rfl,hb'⟩;have:=hap q q' m m' b h2 h2' (.inr ⟨j,hb⟩) (.inr ⟨j',hb'⟩);subst this;rw[h1]at h1';cases h1';rw[h2]at h2';cases h2';exact⟨rfl,rfl,(hI.ok q key d m h1 h2).1.dis j j' b hb hb'⟩
 ·intro v hv;cases hh:PB v with
  | none=>rfl
  | some L =>
   obtain⟨i,d,m,h1,_⟩:=hPB v L hh;have hm:v∈sp.ptr.map Prod.fst:=by
    rw[<- hkeys,<- hI.keys];exact List.mem_map.2 ⟨_,aAJ h1,rfl⟩
   have:=aAU.1 hlt v hm;simp only[Nat.blt_eq]at this;omega
section
variable {w0:World} {F0:Fz} {M:Nat->Prop} {B0:Bt} {σ:S} {F:Fz} {β:Bt} {a:Act} {w:World}
theorem JG (h:Sim N w0 F0 M B0 σ F β a w):∀ (ptr:List (Nat×(Nat×Nat))) (Ms:List Hd),ptr.length=Ms.length->(∀ (k:Nat) key s ty m,ptr[k]? =some (key,(s,ty))->Ms[k]? =some m->s=m.s/\ty=m.ty/\β key=some ⟨some m.b,1,m.s⟩)->((BH ptr).run σ).1 ->
  Ao σ ((BH ptr).run σ).2.2/\(∀ (k:Nat) key s ty m,ptr[k]? =some (key,(s,ty))->Ms[k]? =some m->∃ o,σ.go (8192+key)=some (key,o)/\o.fz=false/\o.var=true) /\
   ∀ (ws:List (Nat×Ab)) F' φ,Ao σ ws->(∀ p∈((BH ptr).run σ).2.2,p∈ws)->Ag F F'->Sim N w0 F0 M B0 ⟨σ.e,ws++σ.o,σ.n⟩ F' β a w->AA F' β w0.heap.size M ⟨σ.e,ws++σ.o,σ.n⟩ w φ ->
    ∀ (k:Nat) key s ty m,ptr[k]? =some (key,(s,ty))->Ms[k]? =some m->EB F' w ⟨m.b,m.s,m.ty,φ (8192+key) 0⟩ (((BH ptr).run σ).2.1.getD k .top)/\∃ o,(S.mk σ.e (ws++σ.o) σ.n).go (8192+key)=some (key,o)/\o.fz=false
 | [],_,_,_,_=>⟨Ao.nil σ,λk key s ty m hk=>by simp at hk,λ_ _ _ _ _ _ _ _ k key s ty m hk=>by simp at hk⟩
 | _::_,[],hl,_,_=>by simp at hl
 | (j,(s,ty))::ptr,m::Ms,hl,hB,hc=>by
  simp only[BH,R.run_bind,R.run_pure]at hc ⊢;obtain⟨c1,c2⟩:=hc;obtain⟨rfl,rfl,hβ⟩:=hB 0 j s ty m rfl rfl;obtain⟨f1,o,g1,g2,g3,r1⟩:=NC h hβ rfl ⟨rfl,rfl⟩ c1;obtain⟨f2,g4,r2⟩:=JG h ptr Ms (by grind) (λk key s ty m' h1 h2=>hB (k+1) key s ty m' (by grind) (by grind)) c2
  refine⟨f1.append f2,λk key s ty m' h1 h2=>?_,λws F' φ q1 q2 q3 q4 q5 k key s ty m' h1 h2=>?_⟩
  ·grind
  grind
end
theorem GO {l:List α} {x:α} (h:(l.take q)[i]? =some x):l[i]? =some x:=by
 grind
theorem JD (ptr:List (Nat×(Nat×Nat))):∀ (j:Nat) (ds:List D),∀ p∈Gx ptr j ds,∀ v o,p.2=some (v,o)->o.fz=false
 | _,[],p,hp=>by cases hp
 | j,d::r,p,hp=>by
  unfold Gx at hp;rcases aAV.1 hp with hp|hp
  ·grind
  ·exact JD ptr (j+1) r p hp
theorem IM (ptr:List (Nat×(Nat×Nat))):∀ (j:Nat) (ds:List D),∀ p∈CC ptr j ds,∀ v o,p.2=some (v,o)->o.fz=false
 | _,[],p,hp=>by cases hp
 | j,d::r,p,hp=>by
  unfold CC at hp;rcases aAV.1 hp with hp|hp
  ·grind [JD]
  ·exact IM ptr (j+1) r p hp
theorem KB {M:Nat->Prop} {B0:Bt} {F0:Fz} {w0:World} (h:Sim N w0 F0 M B0 (DG sp ds) F PB a w):∀ g v o,(DG sp ds).go g=some (v,o)->o.s≠0:=by
 intro g v o hg;refine h.Hm hg ?_;have hl:look (DG sp ds).o g=some (some (v,o)):=by
  unfold S.go at hg;cases hx:look (DG sp ds).o g with
  | none=>simp_all
  | some x=>simp_all
 exact IM sp.ptr 0 ds _ (Bi hl) v o rfl
theorem NW (hΓ:∀ k sp,Γ k=some sp->OW P (k % 4096) sp) {c:Code} (hf:P.funcs[f]? =some fn) (hname:(fn.name == "runtime.NumGoroutine")=false) (hb:fn.body=some c) (hc:PY P fn.ntmps c=some dc) (hr:fn.results.toList.mapM (Ug P)=some rs) (hnp:np<=fn.ntmps) (hpre:∀ ds,sp.pre ds->ds.length=np/\BF sp.ptr 0 ds=sp.ptr.map Prod.fst) (hptr:EK sp.ptr=true) (hok:MB Γ sp np rs dc) (hni:BI sp.kind=none) (hno:DZ sp.kind=none:=by rfl):OW P f sp:=by
 intro F00 hG0;refine⟨⟨fn,hf,hname,by rw[hb];rfl⟩,(λq hq=>by simp_all),λ_ _ w F ds xs Mb hsub0 hF hfin hA hp=>?_,(λφ hφ=>by simp_all),hG0⟩
 have hΓ:∀ k sp,Γ k=some sp->BB P F (k % 4096) sp:=λk sp h=>hΓ k sp h F (hG0.mono hsub0)
 have hlen:ds.length=xs.length:=by
  clear hp;generalize 0=j at hA
  induction hA with
  | nil=>rfl
  | val _ _ _ _ _ _ _ _ _ _ ih=>simp[ih]
  | ptr _ _ _ _ _ _ _ _ _ _ ih=>simp[ih]
  | clo _ _ _ _ _ _ _ _ _ _ _ _ ih=>simp[ih]
 obtain⟨hdl,hkeys⟩:=hpre ds hp;obtain⟨PB,K,hS,hfresh,hnam,hKl,hKf,hKp⟩:=Mt (N:=fn.ntmps) (k:=fn.ntmps-xs.length) hF hfin hA (by omega) hptr hkeys
 refine calls_of_wp hf hb ?_;have e0:(xs.toArray.size)=xs.length:=by simp
 rw[e0];obtain⟨τ0,hchg0,hok0⟩:=hok ds hp ⟨hdl,hkeys⟩;obtain⟨F00,B00,hS0,hfresh0⟩:=(Ay.of hS (aAP _) (KB hS)).chg hfresh hchg0;refine wp_mono (BC hΓ c dc hc _ τ0 F00 B00 _ w hS0 hfresh0 hok0) λe a' w' hq=>?_
 obtain⟨τ1,F1,β1,k1',kf1,k3⟩:=hq;replace k1':=k1'.sim;have fin0:∀ τ F' β',Sim fn.ntmps { w with drawn:=w.heap.size } F (Wr Mb) PB τ F' β' a' w'->Ck sp rs ds τ->(a'.defers=[]/\∃ v,(results fn a'.tmps).run P w'= .ok v w'/\Cq sp w F ds Mb (.returned v) w'):=by
  intro τ F' β' k1;rintro⟨r1,r2,r3⟩;have hpl:sp.ptr.length=Mb.length:=by
   have:=congrArg List.length hKf
   grind
  have hnd:(sp.ptr.map Prod.fst).Nodup:=by
   simp_all[EK]
  have hBk:∀ (k:Nat) key s ty m,sp.ptr[k]? =some (key,(s,ty))->Mb[k]? =some m->s=m.s/\ty=m.ty/\β' key=some ⟨some m.b,1,m.s⟩:=by
   intro k key s ty m h1 h2;have hkl:k<K.length:=by grind
   obtain⟨⟨key',d⟩,hK⟩:∃ p,K[k]? =some p:=⟨_,aAC hkl⟩;have e1:(K.map Prod.fst)[k]? =some key':=by simp[hK]
   have e2:(sp.ptr.map Prod.fst)[k]? =some key:=by simp[h1]
   rw[hKf,e2]at e1;cases e1;have hl:=hKp k key d m hK h2;have hl2:look sp.ptr key=some (s,ty):=by
    cases hq:look sp.ptr key with
    | none=>simp_all
    | some y =>
     have hm:=Bi hq;obtain⟨k',hk'⟩:=aAZ hm;have e3:(sp.ptr.map Prod.fst)[k']? =some key:=by simp[hk']
     grind [aAp]
   rw[hl2]at hl;cases hl;exact⟨rfl,rfl,k1.nam _ _ (hnam k key d m hK h2)⟩
  obtain⟨fe,ge,be⟩:=JG k1 sp.ptr Mb hpl hBk r1;have ending:∀ (ws:List (Nat×Ab)) (v:Value) (ρ:Nat->Prop),Ao τ ws->(∀ p∈((BH sp.ptr).run τ).2.2,p∈ws)->(∀ F2 φ,Ag F' F2->Sim fn.ntmps { w with drawn:=w.heap.size } F (Wr Mb) PB ⟨τ.e,ws++τ.o,τ.n⟩ F2 β' a' w'->AA F2 β' w.heap.size (Wr Mb) ⟨τ.e,ws++τ.o,τ.n⟩ w' φ->MC w F2 w' (sp.res ds) v (λb=>ρ b\/(Mb=[]/\∃ g i j,φ g i j b)) sp.kind/\(Mb≠[]->∀ g j b,φ g 0 j b->¬ ρ b)) ->
    Cq sp w F ds Mb (.returned v) w':=by
   intro ws v ρ hws hsub hres;obtain⟨F2,hF2,hS2,_⟩:=k1.freeze hws;obtain⟨φ,hφ⟩:=hS2.Ac;obtain⟨q1,q2⟩:=hres F2 φ hF2 hS2 hφ;have hbe:=be ws F2 φ hws hsub hF2 hS2 hφ;have hpk:∀ (k:Nat) m,Mb[k]? =some m->∃ key s ty,sp.ptr[k]? =some (key,(s,ty)):=by
    intro k m hk;have hlt:k<sp.ptr.length:=by grind
    exact⟨_,_,_,aAC hlt⟩
   refine⟨v,F2,λk j b=>∃ key st m,sp.ptr[k]? =some (key,st)/\Mb[k]? =some m/\φ (8192+key) 0 j b,_,rfl,hS2.frz,hS2.fin,⟨hS2.step.os,hS2.step.tape,hS2.step.output,hS2.step.size,hS2.step.block,hS2.step.sub,hS2.step.old⟩,q1,?_,?_⟩
   ·rw[<- r2];refine⟨λk m hk=>?_,λk j b ⟨key,st,m,h1,h2,_⟩=>(aAA.1 h2).1,λk j b ⟨key,st,m,h1,h2,h3⟩=>hφ.new _ _ _ _ h3,λk j k' j' b ⟨key,st,m,h1,h2,h3⟩ ⟨key',st',m',h1',h2',h3'⟩=>?_,λk j b m ⟨key,st,m1,h1,h2,h3⟩ hm e=>?_⟩
    ·obtain⟨key,s,ty,hp⟩:=hpk k m hk;have hz:=(hbe k key s ty m hp hk).1;refine⟨hz.var,hz.none_,hz.lt,?_,?_,?_,?_,?_,hz.hole⟩
     ·rintro j b ⟨key',st,m',h1,h2,h3⟩;rw[hp]at h1;cases h1;exact hz.fno j b h3
     ·rintro j b ⟨key',st,m',h1,h2,h3⟩;rw[hp]at h1;cases h1;exact hz.flt j b h3
     ·rintro j b ⟨key',st,m',h1,h2,h3⟩;rw[hp]at h1;cases h1;exact hz.fne j b h3
     ·rintro j j' b ⟨key',st,m',h1,h2,h3⟩ ⟨key'',st',m'',h1',h2',h3'⟩;rw[hp]at h1;cases h1;rw[hp]at h1';cases h1';exact hz.dis j j' b h3 h3'
     ·intro C j x s' ty' es hC hj hx;exact(hz.row C j x s' ty' es hC hj hx).keep (Ag.refl _) (λ_ _=>rfl) (λb hb=>⟨key,(s,ty),m,hp,hk,hb⟩)
    ·have hkk:=(hφ.dis _ _ _ _ _ _ _ h3 h3').1;have:key=key':=by omega
     subst this;have e2:(sp.ptr.map Prod.fst)[k]? =some key:=by simp[h1]
     have e3:(sp.ptr.map Prod.fst)[k']? =some key:=by simp[h1']
     grind [aAp]
    ·obtain⟨k',hk'⟩:=aAZ hm;obtain⟨key',s',ty',hp'⟩:=hpk k' m hk';obtain⟨_,o',z1,z2⟩:=hbe k' key' s' ty' m hp' hk';obtain⟨_,_,hβ⟩:=hBk k' key' s' ty' m hp' hk';subst e;exact hφ.sep _ _ _ _ _ _ _ _ h3 z1 z2 hβ rfl
   ·rintro k j b ⟨key,st,m,h1,h2,h3⟩ (hρ|⟨hM0,_⟩)
    ·exact q2 (λe=>by grind) _ _ _ h3 hρ
    grind
  refine⟨k1.defers,?_⟩;have one:(sp.kind= .val\/sp.kind= .ground)->∀ r,rs=[r]->((Ef r).run τ).1->((Ef r).run τ).2.1=sp.res ds->∃ v,(results fn a'.tmps).run P w'= .ok v w'/\Cq sp w F ds Mb (.returned v) w':=by
   rintro hk r rfl c1 c2;simp only[Ef,R.run_bind,R.run_pure]at c1 c2;obtain⟨d1,d2⟩:=c1;obtain⟨vs,v1,v2,v3⟩:=BU (P:=P) k1 hr (λr' hr'=>by grind)
   have hl1:vs.length=1:=v2;rw[dif_pos hl1]at v1;refine⟨_,v1,?_⟩;have hval:=v3 0 r vs[0] rfl (aAC (by omega))
   obtain⟨f1,g1⟩:=Fy k1 _ hval d2;refine ending (((res ((PC r).run τ).2).run τ).2.2++((BH sp.ptr).run τ).2.2) _ (λ_=>False) (f1.append fe) (λp hp=>by simp[hp]) (λF2 φ hF2 hS2 _=>⟨?_,λ_ _ _ _ _=>id⟩)
   have:=g1 _ F2 (f1.append fe) (λp hp=>by simp[hp]) hF2 hS2
   rw[c2]at this;rcases hk with hk|hk<;>(rw[hk];exact this)
  have many:(sp.kind= .val\/sp.kind= .ground)->((AN rs).run τ).1-> .tup ((AN rs).run τ).2.1=sp.res ds->rs.length≠1->∃ v,(results fn a'.tmps).run P w'= .ok v w'/\Cq sp w F ds Mb (.returned v) w':=by
   intro hk c1 c2 c3;obtain⟨vs,v1,v2,v3⟩:=BU (P:=P) k1 hr (Du rs c1);have hl1:¬ vs.length=1:=by omega
   rw[dif_neg hl1]at v1;refine⟨_,v1,?_⟩;obtain⟨f1,l1,g1⟩:=EO k1 rs vs v2.symm (λi r v h1 h2 _=>v3 i r v h1 h2) c1
   refine ending (((AN rs).run τ).2.2++((BH sp.ptr).run τ).2.2) _ (λ_=>False) (f1.append fe) (λp hp=>by simp[hp]) (λF2 φ hF2 hS2 _=>⟨?_,λ_ _ _ _ _=>id⟩)
   have hh:=g1 _ F2 (f1.append fe) (λp hp=>by simp[hp]) hF2 hS2
   have:Fro F2 (sp.res ds) (.tuple vs.toArray):=by
    rw[<- c2];exact .tup _ vs l1 hh
   rcases hk with hk|hk<;>(rw[hk];exact this)
  cases hk:sp.kind with
  | inpl q=>grind
  | opn q=>grind
  | val =>
   grind
  | ground =>
   grind
  | row s ty =>
   rw[hk]at r3
   match rs,r3,hr with
   | [r],⟨d1,d2,d3,d4⟩,hr =>
    obtain⟨vs,v1,v2,v3⟩:=BU (P:=P) k1 hr (λr' hr'=>by grind)
    have hl1:vs.length=1:=v2;rw[dif_pos hl1]at v1;refine⟨_,v1,?_⟩;have hval:=v3 0 r vs[0] rfl (aAC (by omega))
    obtain⟨es,L,g,v,o,g1,g2,n1,n2,n3,n4,n5,n6,n7,g3⟩:=JW k1 (aAP _) hval d2;refine ending _ _ (λb=>L.b=some b) fe (λp hp=>hp) (λF2 φ hF2 hS2 hφ=>?_)
    obtain⟨g4,g6,g5⟩:=g3 _ F2 d4 hF2 hS2;rw[hk];refine⟨⟨es,L,d3.symm.trans g1,g2,g4,λb hb=>⟨((g5 b hb).1).resolve_right (λz=>by cases z.1),(g5 b hb).2.1,(g5 b hb).2.2,.inl hb⟩⟩,λ_ g' j b hb hLb=>?_⟩
    exact hφ.sep g' 0 j b g v o L hb g6 n2 n5 hLb
   | [],r3,_=>grind
   | _::_::_,r3,_=>grind
  | mat s ty =>
   rw[hk]at r3
   match rs,r3,hr with
   | [r],⟨d1,d2,d3,d4⟩,hr =>
    obtain⟨vs,v1,v2,v3⟩:=BU (P:=P) k1 hr (λr' hr'=>by grind)
    have hl1:vs.length=1:=v2;rw[dif_pos hl1]at v1;refine⟨_,v1,?_⟩;have hval:=v3 0 r vs[0] rfl (aAC (by omega))
    have hM0:Mb=[]:=DD d4 hA;have hpe:(BH sp.ptr).run τ=(True,[],[]):=by rw[d4];rfl
    obtain⟨es,L,g,v,o,g1,g2,n1,n2,n3,n4,n5,⟨n0,rfl⟩,n7,g3⟩:=JW k1 (aAP _) hval d2;refine ending [] _ (λb=>L.b=some b) (Ao.nil _) (λp hp=>by grind) (λF2 φ hF2 hS2 hφ=>?_)
    obtain⟨g4,g6,g5⟩:=g3 [] F2 (by simp) hF2 hS2
    have hidx:∀ (i:Nat) e,(o.es.take n0)[i]? =some e->o.es[i]? =some e:=λi e he=>GO he
    have hnew:∀ b,w.heap.size<=b\/Wr Mb b->w.heap.size<=b:=by
     rintro b (hb|⟨m,hm,_⟩)
     all_goals grind
    rw[hk]
    refine⟨⟨_,L,λi j b=>φ g i j b,d3.symm.trans g1,g2,g4,λb hb=>⟨hnew b ((g5 b hb).1.imp id And.right),(g5 b hb).2.1,(g5 b hb).2.2,.inl hb⟩,λi j b hb=>⟨hnew b (hφ.new _ _ _ _ hb),hφ.lt _ _ _ _ hb,hφ.none_ _ _ _ _ hb,.inr ⟨hM0,g,i,j,hb⟩,hφ.sep g i j b g v o L hb g6 n2 n5⟩,
     λi j i' j' b h1 h2=>(hφ.dis _ _ _ _ _ _ _ h1 h2).2,λb C i j e x s' ty' es' hb hC he hj hx=>hφ.row g v o L b C i j e x s' ty' es' n1 g6 n2 n5 hb (by grind) (hidx i e he) hj (by rw[n3];exact hx),λi j e nm u n he hj=>n7 rfl e (aAJ (hidx i e he)) _ (aAJ hj) nm u n rfl⟩,λhne=>absurd hM0 hne⟩
   | [],r3,_=>exact r3.elim
   | _::_::_,r3,_=>exact r3.elim
  | ptr s ty =>
   rw[hk]at r3
   match rs,r3,hr with
   | [r],⟨d1,d2,d3,d4⟩,hr =>
    obtain⟨vs,v1,v2,v3⟩:=BU (P:=P) k1 hr (λr' hr'=>by grind)
    have hl1:vs.length=1:=v2;rw[dif_pos hl1]at v1;refine⟨_,v1,?_⟩;have hval:=v3 0 r vs[0] rfl (aAC (by omega))
    obtain⟨f1,g,v,o,b,g1,g2,g3,g4,g5,g6,g7⟩:=JV k1 (aAP _) hval d2;refine ending (((Cw s ty ((PC r).run τ).2).run τ).2.2.1++((BH sp.ptr).run τ).2.2) _ (λb'=>b'=b) (f1.append fe) (λp hp=>by simp[hp]) (λF2 φ hF2 hS2 hφ=>?_)
    obtain⟨z1,z2,z3,z4,v',o',z5,z6,z7⟩:=g7 _ F2 (f1.append fe) (λp hp=>by simp[hp]) hF2 hS2
    rw[hk];refine⟨⟨b,g6,by rw[<- d3];exact z1,z4.resolve_right (λz=>by rw[g1]at d4;rw[d4]at z;cases z.2),z3,z2,.inl rfl⟩,λ_ g' j b' hb e=>?_⟩
    subst e;exact hφ.sep g' 0 j _ g v' o' _ hb z5 z6 z7 rfl
   | [],r3,_=>exact r3.elim
   | _::_::_,r3,_=>exact r3.elim
  | tupPtr q s ty =>
   rw[hk]at r3;have r3':q<rs.length/\rs.length≠1/\sp.ptr=[]/\((AN (rs.take q)).run τ).1/\((AN (rs.drop (q+1))).run τ).1/\((PC (rs.getD q (.t 0))).run τ).1/\((Cw s ty ((PC (rs.getD q (.t 0))).run τ).2).run τ).1 /\
     .tup (((AN (rs.take q)).run τ).2.1++((Cw s ty ((PC (rs.getD q (.t 0))).run τ).2).run τ).2.1::((AN (rs.drop (q+1))).run τ).2.1)=sp.res ds:=by
    cases rs with
    | nil=>exact r3
    | cons r0 rs=>cases rs<;>exact r3
   obtain⟨t1,t2,t3,t4,t5,t6,t7,t8⟩:=r3';have hq:rs[q]? =some (rs.getD q (.t 0)):=by simp[t1]
   generalize rs.getD q (.t 0)=rq at *;have hsplit:rs=rs.take q++rq::rs.drop (q+1):=by
    obtain⟨hl,he⟩:=aAA.1 hq;rw[<- he,<- List.drop_eq_getElem_cons hl,List.take_append_drop]
   have conds:∀ r∈rs,((PC r).run τ).1:=by
    intro r hr';rw[hsplit,aAV,aAm]at hr';rcases hr' with h1|rfl|h1
    ·exact Du _ t4 r h1
    ·exact t6
    ·exact Du _ t5 r h1
   obtain⟨vs,v1,v2,v3⟩:=BU (P:=P) k1 hr conds;rw[dif_neg (by rw[v2];exact t2)]at v1
   refine⟨_,v1,?_⟩;have hvl:q<vs.length:=by omega
   have hvq:vs[q]? =some vs[q]:=aAC hvl;obtain⟨fP,g,v,o,b,g1,g2,g3,g4,g5,g6,g7⟩:=JV k1 (aAP _) (v3 q rq vs[q] hq hvq) t7;obtain⟨fA,lA,gA⟩:=EO k1 (rs.take q) (vs.take q) (by simp[v2]) (λi r v h1 h2 _=>v3 i r v (GO h1) (GO h2)) t4
   obtain⟨fB,lB,gB⟩:=EO k1 (rs.drop (q+1)) (vs.drop (q+1)) (by simp[v2]) (λi r v h1 h2 _=>v3 (q+1+i) r v (by rw[<- aAi];exact h1) (by rw[<- aAi];exact h2)) t5
   refine ending (((AN (rs.take q)).run τ).2.2++(((Cw s ty ((PC rq).run τ).2).run τ).2.2.1++(((AN (rs.drop (q+1))).run τ).2.2++((BH sp.ptr).run τ).2.2))) _ (λb'=>b'=b) (fA.append (fP.append (fB.append fe))) (λp hp=>by simp[hp]) (λF2 φ hF2 hS2 _=>⟨?_,λhne=>absurd (DD t3 hA) hne⟩)
   have hws:=fA.append (fP.append (fB.append fe));obtain⟨z1,z2,z3,z4⟩:=g7 _ F2 hws (λp hp=>by simp[hp]) hF2 hS2
   have zA:=gA _ F2 hws (λp hp=>by simp[hp]) hF2 hS2
   have zB:=gB _ F2 hws (λp hp=>by simp[hp]) hF2 hS2
   have lA':((AN (rs.take q)).run τ).2.1.length=q:=by rw[lA];simp;omega
   rw[hk];refine⟨_,vs,b,t8.symm,rfl,?_,?_,?_,?_,?_,z3,z2,.inl rfl⟩
   ·simp only[List.length_append,aAs,lA',lB,List.length_drop];omega
   ·intro j c x hj hc hx;rcases Nat.lt_trichotomy j q with h1|h1|h1
    ·rw[aAI (by omega)]at hc
     exact zA j c x hc (by rw[List.getElem?_take];simp[h1,hx])
    ·exact absurd h1 hj
    ·obtain⟨i,rfl⟩:∃ i,j=q+1+i:=⟨j-(q+1),by omega⟩
     rw[aAK (by omega),lA',show q+1+i-q=i+1 by omega,aAR]at hc
     exact zB i c x hc (by rw[aAi];exact hx)
   ·rw[hvq,g6]
   ·rw[aAa,aAK (by omega),lA',Nat.sub_self]
    exact z1
   ·rcases z4.1 with z4|⟨⟨m,hm,_⟩,_⟩
    all_goals grind
 have fin:Wk (Ck sp rs ds) τ1->(a'.defers=[]/\∃ v,(results fn a'.tmps).run P w'= .ok v w'/\Cq sp w F ds Mb (.returned v) w'):=by
  rintro⟨τ,hc1,hr1⟩;obtain⟨F',β',k1,_⟩:=k1'.chg kf1 hc1
  grind
 cases e with
 | normal=>exact fin k3
 | ret=>exact fin k3
 | exit id=>exact k3.elim
 | goto l=>simp_all
 | panic ch=>simp_all
 | outgrown=>simp_all
end
theorem Nu {P:Program} (hΓ:∀ k sp,Γ k=some sp->OW P (k % 4096) sp) (hf:P.funcs[f]? =some fn) (hname:(fn.name == "runtime.NumGoroutine")=false) (hc:(fn.body.bind (PY P fn.ntmps))=some dc) (hr:fn.results.toList.mapM (Ug P)=some rs) (hnp:np<=fn.ntmps) (hpre:∀ ds,sp.pre ds->ds.length=np/\BF sp.ptr 0 ds=sp.ptr.map Prod.fst) (hptr:EK sp.ptr=true) (hok:MB Γ sp np rs dc) (hni:BI sp.kind=none) (hno:DZ sp.kind=none:=by rfl):OW P f sp:=by
 rw[aA]at hc;obtain⟨c,hb,hc⟩:=hc;exact NW hΓ hf hname hb hc hr hnp hpre hptr hok hni hno
def specs (l:List (Nat×Spec)):Aq:=λk=>look l k
theorem OZ {P:Program} {l:List (Nat×Spec)} (h:∀ p∈l,OW P (p.1 % 4096) p.2):∀ k sp,specs l k=some sp->OW P (k % 4096) sp:=λ_k _sp hk=>h _ (Bi hk)
theorem Pp {P:Program}:∀ k sp,specs [] k=some sp->OW P (k % 4096) sp:=OZ (λ_ h=>by cases h)
theorem AxL {n:Int} (h0: -9223372036854775808<=n) (h1:n<=9223372036854775807):IntKind.i64.wrap n=n:=by
 rw[IntKind.wrap_i64];omega
def Dz:Nat->List D->List (Nat×D)
 | _,[]=>[]
 | j,d::r=>(j,d)::Dz (j+1) r
theorem Ia:∀ (ds:List D) (j t:Nat),look (Dz j ds) t=if j<=t then ds[t-j]? else none
 | [],j,t=>by simp[Dz,look]
 | d::r,j,t=>by
  simp only[Dz,look,Ia r (j+1) t]
  grind
def UR:D->Bool
 | .agg _| .tup _| .when ..=>false
 | _=>true
def Pz (rs:List AQ) (τ:S):Prop×D :=
 match rs with
 | [r]=>(((PC r).run τ).1,((PC r).run τ).2)
 | rs=>((∀ r∈rs,((PC r).run τ).1)/\(rs.map λr=>((PC r).run τ).2).all UR=true,.tup (rs.map λr=>((PC r).run τ).2))
def IZ (rs:List AQ) (e:List (Nat×D)) (K:D->S->Prop):Au->S->Prop:=λx τ =>
 match x with
 | .exit _=>False
 | _=>Wk (λτ=>(Pz rs τ).1/\K (Pz rs τ).2 ⟨e,τ.o,τ.n⟩) τ
def Mj (Γ:Aq) (np:Nat) (rs:List AQ) (dc:Qi):List D->S->(D->S->Prop)->Prop:=λds σ K =>
 ds.length=np/\Wk (DWp Γ dc (IZ rs σ.e K)) ⟨Dz 0 ds,σ.o,σ.n⟩
def VV (Γ:Aq) (np:Nat) (rs:List AQ) (dc:Qi):Spec:=⟨[],.opn (Mj Γ np rs dc),λ_=>False,λ_=>.top,λ_=>[]⟩
theorem MA {x:Value} (h:Val F β d x) (ht:UR d=true):Cel F β d x:=by
 cases d<;>first|exact h|cases ht
theorem Sg {P:Program} (hΓ:∀ k sp,Γ k=some sp->OW P (k % 4096) sp) (hf:P.funcs[f]? =some fn) (hname:(fn.name == "runtime.NumGoroutine")=false) (hc:(fn.body.bind (PY P fn.ntmps))=some dc) (hr:fn.results.toList.mapM (Ug P)=some rs) (hnp:np<=fn.ntmps):OW P f (VV Γ np rs dc):=by
 rw[aA]at hc;obtain⟨c,hb,hc⟩:=hc;intro F0 hG;refine⟨⟨fn,hf,hname,by rw[hb];rfl⟩,λq hq=>(by cases hq),λ_ h=>(by cases h),λφ hφ=>?_,hG⟩
 cases hφ;rintro F0' hF0' N w0 M B0 σ F β a w ds vs K hM hfr hl hv ⟨hn,τ0,hchg,hw⟩;have h:=hM.sim;obtain⟨w1,F1',M1,B1,hb1,h1,hm1⟩:=hM;have hΓ':∀ k sp,Γ k=some sp->BB P F (k % 4096) sp:=λk sp hk=>hΓ k sp hk F (hG.mono (hF0'.trans h.step.sub))
 have hS:Sim fn.ntmps w1 F M1 β ⟨Dz 0 ds,σ.o,σ.n⟩ F β { tmps:=vs.toArray++aAG (fn.ntmps-vs.toArray.size) undef,defers:=[] } w:=by
  refine{ nam:=Aw.refl _,size:=by simp;omega,defers:=rfl,env:=λt=>?_,own:=h1.own,dist:=h1.dist,sep:=h1.sep,Ac:=?_,frz:=h1.frz,fin:=h1.fin,step:=⟨h1.step.os,h1.step.tape,h1.step.output,h1.step.size,h1.step.block,Ag.refl _,λ_ _ _ _=>rfl⟩ }
  ·simp only[S.ge,Ia,aAf,if_true,Nat.sub_zero]
   by_cases ht:t<ds.length
   ·have h1:ds[t]? =some ds[t]:=aAC ht;have h2:vs[t]? =some (vs[t]'(by omega)):=aAC _
    rw[h1];have e:(vs.toArray++aAG (fn.ntmps-vs.toArray.size) undef).getD t undef=vs[t]'(by omega):=by
     rw[aAT,aAl (by simp;omega)]
     simp[h2]
    grind [Env.Ah]
   grind [Env.top]
  ·obtain⟨φ,hφ⟩:=h1.Ac;exact⟨φ,hφ.congr λ_=>rfl⟩
 have hbase:Dg w0 F M β w1 F M1 β:=⟨⟨hb1.stp.os,hb1.stp.tape,hb1.stp.output,hb1.stp.size,hb1.stp.block,Ag.refl _,λ_ _ _ _=>rfl⟩,hb1.new,Aw.refl _,hb1.mark⟩
 have hSM:Ay fn.ntmps w0 F M β ⟨Dz 0 ds,σ.o,σ.n⟩ F β { tmps:=vs.toArray++aAG (fn.ntmps-vs.toArray.size) undef,defers:=[] } w :=
  ⟨w1,F,M1,β,hbase,hS,λg v o hg h0=>by
   obtain⟨q1,b,q2,q3,q6⟩:=hm1.at_ g v o hg h0
   exact⟨q1,b,h1.nam _ _ q2,λbb hbb=>by
    obtain⟨r3,r4,r5,r7⟩:=q3 bb hbb
    exact⟨r3,r4,λi=>(h1.step.old bb i r3 r4).trans (r5 i),r7⟩,q6⟩,λg g' v v' o o' c1 c2 b b' bb hg hg' h0 h0' e1 e2 y1 y2=>by
   obtain⟨_,b1,q2,_⟩:=hm1.at_ g v o hg h0;obtain⟨_,b2,q2',_⟩:=hm1.at_ g' v' o' hg' h0';have z1:=h1.nam _ _ q2;have z2:=h1.nam _ _ q2';rw[e1]at z1;cases z1;rw[e2]at z2;cases z2
   exact hm1.dis g g' v v' o o' _ _ _ _ bb hg hg' h0 h0' q2 q2' y1 y2⟩
 refine calls_of_wp hf hb ?_;obtain⟨F1,β1,hS1,hfr1⟩:=hSM.chg hfr hchg;refine wp_mono (BC hΓ' c dc hc _ τ0 F1 β1 _ w hS1 hfr1 hw) λe a' w' hq=>?_
 obtain⟨τ1,F2,β2,k1,k2,k3⟩:=hq;have fin:Wk (λτ=>(Pz rs τ).1/\K (Pz rs τ).2 ⟨σ.e,τ.o,τ.n⟩) τ1->(a'.defers=[]/\∃ v,(results fn a'.tmps).run P w'= .ok v w'/\∃ v' d o' n' F' β',Ending.returned v= .returned v'/\Ay N w0 F0' M B0 ⟨σ.e,o',n'⟩ F' β' a w'/\(∀ v,n'<=v->β' v=none)/\Val F' β' d v'/\K d ⟨σ.e,o',n'⟩):=by
  rintro⟨τ,hc1,hr1,hk⟩;obtain⟨F',β',zM,z2⟩:=k1.chg k2 hc1;obtain⟨w2,F2',M2,B2,hb2,z1,hm2⟩:=zM;have hall:∀ r∈rs,((PC r).run τ).1:=by
   unfold Pz at hr1
   grind
  obtain⟨xs,r1,r2,r3⟩:=BU (P:=P) z1 (fn:=fn) hr hall;refine⟨z1.defers,_,r1,_,(Pz rs τ).2,τ.o,τ.n,F',β',rfl,?_,z2,?_,hk⟩
  ·refine⟨w2,F2',M2,B2,⟨⟨hb2.stp.os,hb2.stp.tape,hb2.stp.output,hb2.stp.size,hb2.stp.block,h.step.sub.trans hb2.stp.sub,λb i hb hM=>(hb2.stp.old b i hb hM).trans (h.step.old b i hb hM)⟩,hb2.new,h.nam.trans hb2.nam,hb2.mark⟩,?_,hm2.sub λg v o hg _=>hg⟩
   refine{ nam:=z1.nam,size:=h.size,defers:=h.defers,env:=λt=>(h.env t).mono (hb2.stp.sub.trans z1.step.sub) (hb2.nam.trans z1.nam),own:=z1.own,dist:=z1.dist,sep:=z1.sep,Ac:=?_,frz:=z1.frz,fin:=z1.fin,step:=z1.step }
   obtain⟨φ,hφ⟩:=z1.Ac;exact⟨φ,hφ.congr λ_=>rfl⟩
  ·unfold Pz at hr1 ⊢;split
   ·rename_i r;have hl1:xs.length=1:=by omega
    rw[dif_pos hl1];exact r3 0 r _ rfl (aAC (by omega))
   ·rename_i hne;have hl1:xs.length≠1:=by
     intro e;rw[r2]at e
     match rs,e with
     | [r],_=>simp_all
    rw[dif_neg hl1];split at hr1
    ·simp_all
    refine⟨xs,rfl,by simp[r2],λj c x hj hx=>?_⟩
    grind [MA]
 cases e with
 | normal=>exact fin k3
 | ret=>exact fin k3
 | exit id=>exact k3.elim
 | goto l=>simp_all
 | panic ch=>simp_all
 | outgrown=>simp_all
section
variable {ι R:Type} {body:ι->Option (ι⊕R)} {s:ι} {r r':R} {n m:Nat}
def Agn (body:ι->Option (ι⊕R)):Nat->ι->Option R
 | 0,_=>none
 | n+1,s=>match body s with
  | none=>none
  | some (.inr r)=>some r
  | some (.inl s')=>Agn body n s'
theorem Zm:Agn body (n+1) s=match body s with
  | none=>none
  | some (.inr r)=>some r
  | some (.inl s')=>Agn body n s':=rfl
theorem Hh:∀ {n m:Nat} {s:ι},Agn body n s=some r->n<=m->Agn body m s=some r
 | 0,_,_,h,_=>by cases h
 | n+1,0,_,_,h'=>by omega
 | n+1,m+1,s,h,h'=>by
  rw[Zm]at h ⊢;cases hb:body s with
  | none=>simp_all
  | some x =>
   rw[hb]at h;cases x with
   | inr y=>exact h
   | inl s'=>exact Hh h (Nat.le_of_succ_le_succ h')
theorem Lt (h:Agn body n s=some r) (h':Agn body m s=some r'):r=r':=by
 grind [Hh]
open Classical in
noncomputable def Pc (body:ι->Option (ι⊕R)) (s:ι):Option R :=
 if h:∃ r,∃ n,Agn body n s=some r then some (Classical.choose h)else none
theorem AlS:Pc body s=some r↔∃ n,Agn body n s=some r:=by
 unfold Pc;split
 all_goals grind [Lt]
theorem Adk (body:ι->Option (ι⊕R)) (s:ι):Pc body s=match body s with
  | none=>none
  | some (.inr r)=>some r
  | some (.inl s')=>Pc body s':=by
 apply Option.ext;intro r;rw[AlS];cases hb:body s with
 | none =>
  simp only[reduceCtorEq,iff_false,not_exists];intro n hn;cases n with
  | zero=>cases hn
  | succ n=>grind [Zm]
 | some x =>
  cases x with
  | inr y =>
   constructor
   ·rintro⟨n,hn⟩;cases n with
    | zero=>cases hn
    | succ n=>grind [Zm]
   ·intro e;exact⟨1,by grind [Zm]⟩
  | inl s' =>
   simp only[AlS];constructor
   ·rintro⟨n,hn⟩;cases n with
    | zero=>cases hn
    | succ n=>grind [Zm]
   ·rintro⟨n,hn⟩;exact⟨n+1,by grind [Zm]⟩
theorem Agx (I:ι->Prop) (P:R->Prop) (μ:ι->Nat) (h0:I s)
  (hb:∀ s,I s->(∃ s',body s=some (.inl s')/\I s'/\μ s'<μ s)\/∃ r,body s=some (.inr r)/\P r):∃ r,Pc body s=some r/\P r:=by
 generalize hk:μ s=k
 induction k using Nat.strongRecOn generalizing s with
 | _ k ih =>
  grind [Adk]
end
def chk {R:Type} (p:Prop) [Decidable p] (t:Option R):Option R:=if p then t else none
def ixO {α:Type} (l:List α) (i:Int):Option α:=if i<0 then none else l[i.toNat]?
def lft {ι R:Type} (t:Option R):Option (ι⊕R):=t.map .inr
def cnt {ι R:Type} (s:ι):Option (ι⊕R):=some (.inl s)
theorem PN {R:Type} [Decidable p] {t:Option R} (h:p):chk p t=t:=if_pos h
theorem Gy {R:Type} [Decidable p] {t:Option R} {r:R} (h:chk p t=some r):p/\t=some r:=by
 grind [chk]
theorem AkS {l:List α} {i:Int} {x:α} (h:ixO l i=some x):0<=i/\i<l.length/\l[i.toNat]? =some x:=by
 grind [ixO]
section
variable {Γ:Aq} {R ι γ:Type}
def Has (σ:S) (E:List (Nat×D)) (O:List (Nat×Ab)):Prop:=∃ n,Chg σ ⟨E,O,n⟩
def Tr (Γ:Aq) (c:Qi) (K:R->Au->S->Prop) (σ:S) (t:Option R):Prop:=∀ r,t=some r->DWp Γ c (K r) σ
def TrX (e:Au) (K:R->Au->S->Prop) (σ:S) (t:Option R):Prop:=∀ r,t=some r->K r e σ
abbrev Cn:=List Key×List Key×List Nat
structure KR (R:Type) where
 N:Nat
 K:R->Au->S->Prop
def TrO (Γ:Aq) (ops:List As) (nv:Nat) (σ:S) (d:Bool) (acc:List Cn) (K:KR R) (t:Option R):Prop :=
 ∀ r,t=some r->(d=false->wpS Γ ops nv σ (K.K r .normal))/\(d=true->Dw.wpOps Γ ops nv σ (λτ=>K.K r .normal { τ with n:=K.N })/\Eo (acc++CX Γ ops nv σ)=true)
def Eb (N:Nat) (K:R->Au->S->Prop):KR R:=⟨N,K⟩
def IU (Γ:Aq) (b:Qi) (K:R->Au->S->Prop):R->Au->S->Prop:=λr=>Au.then (Wk (DWp Γ b (K r))) (K r)
def GD (id:Nat) (K:R->Au->S->Prop):R->Au->S->Prop:=λr=>Au.inBlock id (K r)
def IQ (E:ι->γ->List (Nat×D)) (O:ι->γ->List (Nat×Ab)) (j:ι->Option R) (K:R->Au->S->Prop):R->Au->S->Prop:=λr e τ =>
 match e with
 | .normal=>∃ s g,j s=some r/\Has τ (E s g) (O s g)
 | e=>K r e τ
def Ds (id:Nat) (E:ι->γ->List (Nat×D)) (O:ι->γ->List (Nat×Ab)) (j:ι->Option R) (K:R->Au->S->Prop):R->Au->S->Prop:=λr e τ =>
 match e with
 | .normal=>∃ s g,j s=some r/\Has τ (E s g) (O s g)
 | .exit id'=>if id'=id then ∃ s g,j s=some r/\Has τ (E s g) (O s g)else K r (.exit id') τ
 | .ret=>K r .ret τ
def Hj (E:ι->γ->List (Nat×D)) (O:ι->γ->List (Nat×Ab)) (K:R->Au->S->Prop):(ι⊕R)->Au->S->Prop:=λx e τ =>
 match x,e with
 | .inl s,.normal=>∃ g,Has τ (E s g) (O s g)
 | .inl _,_=>False
 | .inr _,.normal=>False
 | .inr r,e=>K r e τ
theorem Hz:∀ (ops:List As) (nv:Nat) (σ:S) (K K':S->Prop),(∀ τ,K τ->K' τ)->Dw.wpOps Γ ops nv σ K->Dw.wpOps Γ ops nv σ K'
 | [],_,_,_,_,hK,h=>hK _ h
 | _::ops,_,_,_,_,hK,h=>⟨h.1,Hz ops _ _ _ _ hK h.2⟩
theorem Wk.mono {f g:S->Prop} (h:∀ τ,f τ->g τ):Wk f σ->Wk g σ:=λ⟨τ,h1,h2⟩=>⟨τ,h1,h τ h2⟩
theorem KP {o:As} {K K':S->Prop} (hK:∀ τ,K τ->K' τ):HA Γ o σ K->HA Γ o σ K':=by
 rintro⟨h1,fa,args,f,caps,sp,φ,K0,h2,h⟩;exact⟨h1,fa,args,f,caps,sp,φ,K0,λτ hτ=>hK τ (h2 τ hτ),h⟩
theorem Ly {o:As} {K K':S->Prop} (hK:∀ τ,K τ->K' τ):KF o σ K->KF o σ K':=by
 rintro⟨h1,t,h2,ty,es,h3,h5⟩;exact⟨h1,t,h2,ty,es,h3,hK _ h5⟩
theorem EW:∀ (ops:List As) (nv:Nat) (σ:S) (K K':S->Prop),(∀ τ,K τ->K' τ)->wpS Γ ops nv σ K->wpS Γ ops nv σ K'
 | [],_,_,_,_,hK,h=>hK _ h
 | _::ops,_,_,_,_,hK,h=>h.imp (λh=>⟨h.1,EW ops _ _ _ _ hK h.2⟩) (Or.imp (Wk.mono λ_=>KP λ_ ⟨τ,h1,h2⟩=>⟨τ,h1,EW ops _ _ _ _ hK h2⟩) (Wk.mono λ_=>Ly λ_ ⟨τ,h1,h2⟩=>⟨τ,h1,EW ops _ _ _ _ hK h2⟩))
theorem Bn:∀ (b:Qi) (Q Q':Au->S->Prop) (σ:S),(∀ e τ,Q e τ->Q' e τ)->DWp Γ b Q σ->DWp Γ b Q' σ
 | .skip,_,_,_,h,hd=>h _ _ hd
 | .ret,_,_,_,h,hd=>h _ _ hd
 | .exit _,_,_,_,h,hd=>h _ _ hd
 | .reg ops d,_,_,_,h,hd=>Wk.mono (λτ hq=>by
   cases d with
   | true=>rw[if_pos rfl]at hq ⊢;grind [Hz]
   | false=>rw[if_neg (by simp)]at hq ⊢;grind [EW]) hd
 | .seq a b,Q,Q',σ,h,hd=>Bn a _ _ σ (λe τ hq=>by
   cases e with
   | normal=>exact Wk.mono (λτ' h'=>Bn b _ _ τ' h h') hq
   | exit id=>exact h _ _ hq
   | ret=>exact h _ _ hq) hd
 | .cond c a b,Q,Q',σ,h,hd=>by
  simp only[DWp]at hd ⊢;generalize Dm σ c=d at *;cases d<;>try exact hd.elim
  exact⟨λht=>Bn a _ _ σ h (hd.1 ht),λht=>Bn b _ _ σ h (hd.2 ht)⟩
 | .block id b,Q,Q',σ,h,hd=>Bn b _ _ σ (λe τ hq=>by
   cases e with
   | normal=>exact h _ _ hq
   | ret=>exact h _ _ hq
   | exit id' =>
    simp only[Au.inBlock]at hq ⊢;split
    ·rename_i e;rw[if_pos e]at hq;grind [Wk.mono]
    simp_all) hd
 | .loop b,Q,Q',σ,h,⟨ι,St,μ,i₀,h1,h2⟩=>⟨ι,St,μ,i₀,h1,λi=>Bn b _ _ _ (λe τ hq=>by
   cases e with
   | normal=>exact hq
   | exit id=>exact h _ _ hq
   | ret=>exact h _ _ hq) (h2 i)⟩
variable {K:R->Au->S->Prop} {t t1 t2:Option R} {e:List (Nat×D)} {o:List (Nat×Ab)} {n N nv:Nat} {σ τ:S} {a b:Qi}
theorem LP {d:Bool} (h:TrO Γ ops n ⟨e,o,n⟩ d [] (Eb (n+ops.length) K) t):Tr Γ (.reg ops d) K ⟨e,o,n⟩ t :=
 λr hr=>⟨_,.refl _,by
  cases d with
  | true=>rw[if_pos rfl];exact(h r hr).2 rfl
  | false=>rw[if_neg (by simp)];exact(h r hr).1 rfl⟩
theorem Apn {d:Bool} (hh:Has ⟨e,o,n⟩ E O) (h:∀ n,TrO Γ ops n ⟨E,O,n⟩ d [] (Eb (n+ops.length) K) t):Tr Γ (.reg ops d) K ⟨e,o,n⟩ t :=
 λr hr=>hh.elim λm hh=>⟨_,hh,by
  cases d with
  | true=>rw[if_pos rfl];exact(h m r hr).2 rfl
  | false=>rw[if_neg (by simp)];exact(h m r hr).1 rfl⟩
theorem Kj {acc:List Cn} (h:TrX .normal K ⟨e,o,nv⟩ t):TrO Γ [] nv ⟨e,o,n⟩ false acc (Eb N K) t :=
 λr hr=>⟨λ_=>h r hr,λhd=>by cases hd⟩
theorem FH {acc:List Cn} (ha:Eo acc=true) (h:TrX .normal K ⟨e,o,N⟩ t):TrO Γ [] nv ⟨e,o,n⟩ true acc (Eb N K) t :=
 λr hr=>⟨λhd=>(by cases hd),λ_=>⟨h r hr,by grind [CX]⟩⟩
def TrE (Γ:Aq) (c:Qi) (K:R->Au->S->Prop) (σ:S) (t:Option R):Prop:=∀ r,t=some r->Wk (DWp Γ c (K r)) σ
theorem Oy (h:Tr Γ a K σ t):TrE Γ a K σ t:=λr hr=>⟨_,.refl _,h r hr⟩
theorem LR (h:Tr Γ a (IU Γ b K) σ t):Tr Γ (.seq a b) K σ t:=h
theorem Kl (h:Tr Γ b K τ t):TrX .normal (IU Γ b K) τ t:=λr hr=>⟨_,.refl _,h r hr⟩
theorem Qg (hh:Has τ E O) (h:∀ n,Tr Γ b K ⟨E,O,n⟩ t):TrX .normal (IU Γ b K) τ t :=
 λr hr=>hh.elim λn hh=>⟨_,hh,h n r hr⟩
theorem FN (h:TrX (.exit id) K τ t):TrX (.exit id) (IU Γ b K) τ t:=h
theorem Gu (h:TrX .ret K τ t):TrX .ret (IU Γ b K) τ t:=h
theorem Jo (h:Tr Γ b (GD id K) σ t):Tr Γ (.block id b) K σ t:=h
theorem EA (h:TrX .normal K τ t):TrX .normal (GD id K) τ t:=h
theorem Gs (h:TrX .ret K τ t):TrX .ret (GD id K) τ t:=h
theorem FK (h:TrX .normal K τ t):TrX (.exit id) (GD id K) τ t :=
 λr hr=>by
  show(if id=id then Wk (K r .normal) τ else K r (.exit id) τ)
  rw[if_pos rfl];exact⟨_,.refl _,h r hr⟩
theorem FJ {id':Nat} (hne:aAM id' id=false) (h:TrX (.exit id') K τ t):TrX (.exit id') (GD id K) τ t :=
 λr hr=>by
  show(if id'=id then Wk (K r .normal) τ else K r (.exit id') τ)
  rw[if_neg (λe=>by simp_all)]
  exact h r hr
theorem Kn (h:TrX .normal K σ t):Tr Γ .skip K σ t:=h
theorem LQ (h:TrX .ret K σ t):Tr Γ .ret K σ t:=h
theorem Km (h:TrX (.exit id) K σ t):Tr Γ (.exit id) K σ t:=h
def AR {α:Type}:List (Nat×α)->Nat->Option α
 | [],_=>none
 | (k,x)::r,t=>bif aAM t k then some x else AR r t
theorem BJ {α:Type}:∀ (l:List (Nat×α)) (t:Nat),AR l t=look l t
 | [],_=>rfl
 | (k,x)::r,t=>by
  simp only[AR,look,BJ r t];simp_all
def Aa (e:List (Nat×D)):Arg->Option D
 | .t n=>AR e n
 | .c d=>some d
theorem ZS {x:Arg} {c:Bool} (hx:Aa e x=some (.bool c)) (h1:Tr Γ a K ⟨e,o,n⟩ t1) (h2:Tr Γ b K ⟨e,o,n⟩ t2):Tr Γ (.cond x a b) K ⟨e,o,n⟩ (bif c then t1 else t2):=by
 intro r hr;have hv:Dm ⟨e,o,n⟩ x= .bool c:=by cases x<;>simp_all[Aa,Dm,S.ge,BJ]
 simp only[DWp,hv];cases c with
 | true=>exact⟨λ_=>h1 r hr,λh=>by cases h⟩
 | false=>exact⟨λh=>(by cases h),λ_=>h2 r hr⟩
theorem FO {x:Arg} (hx:Aa e x=some (.bool true)) (h1:Tr Γ a K ⟨e,o,n⟩ t):Tr Γ (.cond x a b) K ⟨e,o,n⟩ t:=by
 intro r hr;have hv:Dm ⟨e,o,n⟩ x= .bool true:=by cases x<;>simp_all[Aa,Dm,S.ge,BJ]
 simp only[DWp,hv];exact⟨λ_=>h1 r hr,λh=>(by cases h)⟩
theorem Fl {x:Arg} (hx:Aa e x=some (.bool false)) (h1:Tr Γ b K ⟨e,o,n⟩ t):Tr Γ (.cond x a b) K ⟨e,o,n⟩ t:=by
 intro r hr;have hv:Dm ⟨e,o,n⟩ x= .bool false:=by cases x<;>simp_all[Aa,Dm,S.ge,BJ]
 simp only[DWp,hv];exact⟨λh=>(by cases h),λ_=>h1 r hr⟩
variable {E:ι->γ->List (Nat×D)} {O:ι->γ->List (Nat×Ab)} {j:ι->Option R}
theorem XE (h1:Tr Γ a (IQ E O j K) σ t) (h2:∀ s g n,Tr Γ b K ⟨E s g,O s g,n⟩ (j s)):Tr Γ (.seq a b) K σ t:=by
 intro r hr;refine Bn a _ _ σ (λe τ hq=>?_) (h1 r hr)
 cases e with
 | normal =>
  obtain⟨s,g,hj,m,hw⟩:=hq;exact⟨_,hw,h2 s g _ r hj⟩
 | exit id=>exact hq
 | ret=>exact hq
theorem AbR {s:ι} (g:γ) (h:Has τ (E s g) (O s g)):TrX .normal (IQ E O j K) τ (j s):=λ_ hr=>⟨s,g,hr,h⟩
theorem FL (h:TrX (.exit id) K τ t):TrX (.exit id) (IQ E O j K) τ t:=h
theorem Gt (h:TrX .ret K τ t):TrX .ret (IQ E O j K) τ t:=h
theorem YV {c:Qi} (h1:Tr Γ b (Ds id E O j K) σ t) (h2:∀ s g n,Tr Γ c K ⟨E s g,O s g,n⟩ (j s)):Tr Γ (.seq (.block id b) c) K σ t:=by
 intro r hr;refine Bn b _ _ σ (λe τ hq=>?_) (h1 r hr)
 cases e with
 | normal =>
  obtain⟨s,g,hj,m,hw⟩:=hq;exact⟨_,hw,h2 s g _ r hj⟩
 | exit id' =>
  simp only[Ds]at hq;simp only[Au.inBlock];split
  ·rename_i e;rw[if_pos e]at hq;obtain⟨s,g,hj,m,hw⟩:=hq;exact⟨_,hw,_,.refl _,h2 s g _ r hj⟩
  ·rename_i e;rw[if_neg e]at hq;exact hq
 | ret=>exact hq
theorem PS {s:ι} (g:γ) (h:Has τ (E s g) (O s g)):TrX .normal (Ds id E O j K) τ (j s):=λ_ hr=>⟨s,g,hr,h⟩
theorem Tc {s:ι} (g:γ) (h:Has τ (E s g) (O s g)):TrX (.exit id) (Ds id E O j K) τ (j s):=λr hr=>by
 show(if id=id then _ else _)
 grind
theorem Fj {id':Nat} (hne:aAM id' id=false) (h:TrX (.exit id') K τ t):TrX (.exit id') (Ds id E O j K) τ t:=λr hr=>by
 show(if id'=id then _ else _)
 rw[if_neg (λe=>by simp_all)]
 exact h r hr
theorem FI (h:TrX .ret K τ t):TrX .ret (Ds id E O j K) τ t:=h
theorem XW {s:ι} (g:γ) (h:Has τ (E s g) (O s g)):TrX .normal (Hj E O K) τ (cnt s):=λr hr=>by
 cases hr;exact⟨g,h⟩
theorem Fk (h:TrX (.exit id) K τ t):TrX (.exit id) (Hj E O K) τ (lft t):=λr hr=>by
 cases t with
 | none=>cases hr
 | some x=>cases hr;exact h x rfl
theorem FM (h:TrX .ret K τ t):TrX .ret (Hj E O K) τ (lft t):=λr hr=>by
 cases t with
 | none=>cases hr
 | some x=>cases hr;exact h x rfl
theorem AbS {body:ι->Option (ι⊕R)} {s:ι} (g:γ) (h0:Has ⟨e,o,n⟩ (E s g) (O s g)) (hb:∀ s g n,Tr Γ b (Hj E O K) ⟨E s g,O s g,n⟩ (body s)):Tr Γ (.loop b) K ⟨e,o,n⟩ (Pc body s):=by
 intro r hr;obtain⟨k,hk⟩:=AlS.1 hr;refine⟨{ x:(ι×γ×Nat)×Nat // Agn body x.2 x.1.1=some r },λx=>⟨E x.1.1.1 x.1.1.2.1,O x.1.1.1 x.1.1.2.1,x.1.1.2.2⟩,λx=>x.1.2,⟨((s,g,h0.choose),k),hk⟩,h0.choose_spec,?_⟩
 rintro⟨⟨⟨s,g,n⟩,k⟩,hk⟩;simp only at hk;cases k with
 | zero=>cases hk
 | succ k =>
  rw[Zm]at hk;cases hx:body s with
  | none=>simp_all
  | some x =>
   rw[hx]at hk;refine Bn b _ _ _ (λe τ hq=>?_) (hb s g n x hx)
   cases x with
   | inr r' =>
    cases hk;cases e with
    | normal=>exact hq.elim
    | exit id=>exact hq
    | ret=>exact hq
   | inl s' =>
    cases e with
    | normal =>
     obtain⟨g',m,hw⟩:=hq;exact⟨⟨((s',g',m),k),hk⟩,Nat.lt_succ_self _,hw⟩
    | exit id=>exact hq.elim
    | ret=>exact hq.elim
end
def rdK:Arg->List Key
 | .t n=>[.e n]
 | .c _=>[]
def lkO (o:List (Nat×Ab)) (g:Nat):Ab:=(AR o g).getD none
def gOn (e:List (Nat×D)):Option (Nat×Bool)->Bool
 | none=>true
 | some (t,want)=>match (AR e t).getD .top with
  | .bool b=>b==want
  | .when p (.bool b)=>p&&(b==want)
  | _=>false
def NX (e:List (Nat×D)):Option (Nat×Bool)->Bool
 | none=>false
 | some (t,want)=>match (AR e t).getD .top with
  | .bool b=>!(b==want)
  | .when p (.bool b)=>!(p&&(b==want))
  | _=>false
def gK:Option (Nat×Bool)->List Key
 | none=>[]
 | some (t,_)=>[.e t]
section
variable {Γ:Aq} {X:Type} {K:KR X} {t t1 t2:Option X} {e:List (Nat×D)} {o:List (Nat×Ab)} {n nv:Nat} {d:Bool} {acc:List Cn}
 {r:List As} {dst:Nat} {g:Option (Nat×Bool)} {af:List Nat} {α:Type}
@[simp] theorem Bf (x:Arg):(raw x).run ⟨e,o,n⟩=(Aa e x).getD .top:=by cases x<;>simp[raw,Aa,BJ,S.ge]
@[simp] theorem Eu (x:Arg):(raw x).rd ⟨e,o,n⟩=rdK x:=by cases x<;>rfl
@[simp] theorem Be (i:Nat):(S.mk e o n).go i=lkO o i:=by simp[S.go,lkO,BJ]
@[simp] theorem AD (x:Arg):(rdA x).run ⟨e,o,n⟩=strip ((Aa e x).getD .top):=by simp[rdA]
@[simp] theorem Ev (x:Arg):(rdA x).rd ⟨e,o,n⟩=rdK x:=by simp[rdA]
theorem Ra {m:Option α} {k:α->Option X} (h:∀ x,m=some x->TrO Γ ops nv σ d acc K (k x)):TrO Γ ops nv σ d acc K (m.bind k):=by
 intro r hr;obtain⟨x,hx,hk⟩:=aA.1 hr;exact h x hx r hk
theorem Qe [Decidable p] (h:p->TrO Γ ops nv σ d acc K t):TrO Γ ops nv σ d acc K (chk p t):=by
 intro r hr;obtain⟨hp,ht⟩:=Gy hr;exact h hp r ht
theorem Al {dst:Option Nat} {rd:List Key} (hg:gOn e g=true) (hu:(evalOp Γ nv dst op).run ⟨e,o,n⟩=⟨c,we,wo⟩) (hrd:(evalOp Γ nv dst op).rd ⟨e,o,n⟩=rd) (hc:c) (h:TrO Γ r (nv+1) ⟨we++e,wo++o,n⟩ d (acc++[(gK g++rd,we.map (λx=>.e x.1)++wo.map (λx=>.o x.1),af)]) K t) :
  TrO Γ (⟨dst,op,g,af⟩::r) nv ⟨e,o,n⟩ d acc K t:=by
 intro x hx;obtain⟨h1,h2⟩:=h x hx;have key:((Ar Γ nv ⟨dst,op,g,af⟩).run ⟨e,o,n⟩).c/\((Ar Γ nv ⟨dst,op,g,af⟩).run ⟨e,o,n⟩).we=we/\((Ar Γ nv ⟨dst,op,g,af⟩).run ⟨e,o,n⟩).wo=wo /\
   (Ar Γ nv ⟨dst,op,g,af⟩).rd ⟨e,o,n⟩=gK g++rd:=by
  cases g with
  | none =>
   simp_all[Ar,gK]
  | some p =>
   obtain⟨tt,want⟩:=p;have hg2:(guardOf ((S.mk e o n).ge tt) want).2=true/\(guardOf ((S.mk e o n).ge tt) want).1:=by
    grind [gOn,BJ,S.ge,guardOf]
   simp only[Ar,R.Ji,R.OJ,hg2.1,if_true,R.run_bind,R.BO,R.run_pure,R.Ew,hu,hrd,gK];simp_all
 obtain⟨k1,k2,k3,k4⟩:=key;have happ:(S.mk e o n).app ((Ar Γ nv ⟨dst,op,g,af⟩).run ⟨e,o,n⟩)=⟨we++e,wo++o,n⟩:=by grind [S.app]
 refine⟨λhd=>.inl ⟨k1,by simp_all⟩,λhd=>⟨⟨k1,by simp_all⟩,?_⟩⟩
 grind [CX]
theorem Kk (hg:NX e g=true) (h:TrO Γ r (nv+1) ⟨(dst,.when false (.bool false))::e,o,n⟩ d (acc++[(gK g,[.e dst],af)]) K t):TrO Γ (⟨some dst,op,g,af⟩::r) nv ⟨e,o,n⟩ d acc K t:=by
 intro x hx;obtain⟨h1,h2⟩:=h x hx;cases g with
 | none=>cases hg
 | some p =>
  obtain⟨tt,want⟩:=p;have hg2:(guardOf ((S.mk e o n).ge tt) want).2=false/\(guardOf ((S.mk e o n).ge tt) want).1:=by
   grind [NX,BJ,S.ge,guardOf]
  have hu:(Ar Γ nv ⟨some dst,op,some (tt,want),af⟩).run ⟨e,o,n⟩=⟨(guardOf ((S.mk e o n).ge tt) want).1,[(dst,.when false (.bool false))],[]⟩:=by
   simp_all[Ar,Ad]
  have hr:(Ar Γ nv ⟨some dst,op,some (tt,want),af⟩).rd ⟨e,o,n⟩=[.e tt]:=by
   simp_all[Ar]
  refine⟨λhd=>.inl ⟨by simp_all,by rw[hu];exact h1 hd⟩,λhd=>⟨⟨by simp_all,by rw[hu];exact(h2 hd).1⟩,?_⟩⟩
  grind [CX,gK,S.app]
def DR:List (Nat×D)->Nat->D->List (Nat×D)
 | [],_,_=>[]
 | (k,y)::r,t,v=>bif aAM t k then(k,v)::r else(k,y)::DR r t v
theorem Gl:∀ {e:List (Nat×D)} {x:Nat} {v:D},AR e x=some v->DR e x v=e
 | [],_,_,h=>by cases h
 | (k,y)::r,x,v,h=>by
  simp only[AR]at h;simp only[DR];cases hb:aAM x k with
  | true =>
   simp_all
  | false =>
   rw[hb]at h;simp only[cond_false]at h ⊢;rw[Gl h]
theorem LN (x:Nat) {b:Bool} (hx:AR e x=some (.bool b)) (h1:TrO Γ ops nv ⟨DR e x (.bool true),o,n⟩ d acc K t1) (h2:TrO Γ ops nv ⟨DR e x (.bool false),o,n⟩ d acc K t2) :
  TrO Γ ops nv ⟨e,o,n⟩ d acc K (bif b then t1 else t2):=by
 grind [Gl]
variable {x y:Arg} {v w:D} {k k':IntKind} {a b:Int} {s ty gi vi ii off m:Nat} {fz var:Bool} {es:List D} {z z':D} {l l':List α} {en:α->D}
attribute [local simp] evalOp Ad AB Bu strip PI
theorem EP (p q u w:Nat):strip (.optr p q u w)=(true,.optr p q u w):=rfl
theorem LM (hg:gOn e g=true) (hx:Aa e x=some v) (h:TrO Γ r (nv+1) ⟨(dst,v)::e,o,n⟩ d (acc++[(gK g++rdK x,[.e dst],af)]) K t) :
  TrO Γ (⟨some dst,.mv x,g,af⟩::r) nv ⟨e,o,n⟩ d acc K t :=
 Al hg (c:=True) (we:=[(dst,v)]) (wo:=[]) (rd:=rdK x) (by simp[hx]) (by simp) trivial h
theorem JZ (hg:gOn e g=true) (hx:Aa e x=some v) (h:TrO Γ r (nv+1) ⟨(dst,v)::e,o,n⟩ d (acc++[(gK g++rdK x,[.e dst],af)]) K t) :
  TrO Γ (⟨some dst,.asg x none,g,af⟩::r) nv ⟨e,o,n⟩ d acc K t :=
 Al hg (c:=True) (we:=[(dst,v)]) (wo:=[]) (rd:=rdK x) (by simp_all) (by simp_all) trivial h
theorem Jv (hg:gOn e g=true) (en:α->D) (hx:Aa e x=some .nils) (h:TrO Γ r (nv+1) ⟨(dst,.osl dst nv 0 ([]:List α).length)::e,(dst,some (nv,⟨false,false,s,ty,([]:List α).map en⟩))::o,n⟩ d (acc++[(gK g++rdK x,[.e dst,.o dst],af)]) K t) :
  TrO Γ (⟨some dst,.asg x (some (s,ty)),g,af⟩::r) nv ⟨e,o,n⟩ d acc K t :=
 Al hg (c:=True) (we:=[(dst,.osl dst nv 0 0)]) (wo:=[(dst,some (nv,⟨false,false,s,ty,[]⟩))]) (rd:=rdK x) (by simp[hx]) (by simp[hx]) trivial h
theorem Hu (hg:gOn e g=true) (hx:Aa e x=some (.sl es)) (h:TrO Γ r (nv+1) ⟨(dst,.sl es)::e,o,n⟩ d (acc++[(gK g++rdK x,[.e dst],af)]) K t) :
  TrO Γ (⟨some dst,.asg x (some (s,ty)),g,af⟩::r) nv ⟨e,o,n⟩ d acc K t :=
 Al hg (c:=True) (we:=[(dst,.sl es)]) (wo:=[]) (rd:=rdK x) (by simp[hx]) (by simp[hx]) trivial h
theorem Gn (hq:q=l.length) (hg:gOn e g=true) (hx:Aa e x=some (.osl gi vi 0 q)) (ho:lkO o gi=some (vi,⟨false,false,s,ty,l.map en⟩)) (h:TrO Γ r (nv+1) ⟨(dst,.osl dst nv 0 l.length)::e,(dst,some (nv,⟨false,false,s,ty,l.map en⟩))::(gi,none)::o,n⟩ d (acc++[(gK g++(rdK x++[.o gi]),[.e dst,.o dst,.o gi],af)]) K t) (hrg:Ac gi=false:=by rfl) :
  TrO Γ (⟨some dst,.asg x (some (s',ty')),g,af⟩::r) nv ⟨e,o,n⟩ d acc K t :=
 Al hg (c:=True) (we:=[(dst,.osl dst nv 0 l.length)]) (wo:=[(dst,some (nv,⟨false,false,s,ty,l.map en⟩)),(gi,none)]) (rd:=rdK x++[Key.o gi]) (by simp_all[nmR,CH,aAE]) (by simp_all) trivial h
theorem Gm (hg:gOn e g=true) (hx:Aa e x=some (.osl gi vi 0 q)) (ho:lkO o gi=some (vi,⟨false,false,s,ty,l.map en⟩)) (hq:q<=l.length) (h:TrO Γ r (nv+1) ⟨(dst,.osl dst nv 0 (l.take q).length)::e,(dst,some (nv,⟨false,false,s,ty,(l.take q).map en⟩))::(gi,none)::o,n⟩ d (acc++[(gK g++(rdK x++[.o gi]),[.e dst,.o dst,.o gi],af)]) K t) (hrg:Ac gi=false:=by rfl) :
  TrO Γ (⟨some dst,.asg x (some (s',ty')),g,af⟩::r) nv ⟨e,o,n⟩ d acc K t :=
 Al hg (c:=True) (we:=[(dst,.osl dst nv 0 (l.take q).length)]) (wo:=[(dst,some (nv,⟨false,false,s,ty,(l.take q).map en⟩)),(gi,none)]) (rd:=rdK x++[Key.o gi]) (by simp_all[nmR,CH]) (by simp_all) trivial h
theorem Ht (hq:q=l.length) (hg:gOn e g=true) (hx:Aa e x=some (.osl gi vi 0 q)) (ho:lkO o gi=some (vi,⟨true,false,s,ty,l.map en⟩)) (h:TrO Γ r (nv+1) ⟨(dst,.sl (l.map en))::e,o,n⟩ d (acc++[(gK g++(rdK x++[.o gi]),[.e dst],af)]) K t) :
  TrO Γ (⟨some dst,.asg x (some (s',ty')),g,af⟩::r) nv ⟨e,o,n⟩ d acc K t :=
 Al hg (c:=True) (we:=[(dst,.sl (l.map en))]) (wo:=[]) (rd:=rdK x++[Key.o gi]) (by simp_all[aAE]) (by simp_all) trivial h
def isB:Option D->Bool
 | some (.bool _)=>true
 | some (.when _ (.bool _))=>true
 | _=>false
theorem Ls {x:Option D} (h:isB x=true):∃ (p q:Bool),strip (x.getD .top)=(p,.bool q):=by
 unfold isB at h;split at h
 all_goals simp_all
theorem Fg {c:Arg} {p:Bool} (hg:gOn e g=true) (hc:Aa e c=some (.bool true)) (hx:Aa e x=some (.bool p)) (hy:isB (Aa e y)=true)
  (h:TrO Γ r (nv+1) ⟨(dst,.bool p)::e,o,n⟩ d (acc++[(gK g++(rdK c++(rdK x++rdK y)),[.e dst],af)]) K t) :
  TrO Γ (⟨some dst,.pick c x y,g,af⟩::r) nv ⟨e,o,n⟩ d acc K t:=by
 obtain⟨b1,q,hq'⟩:=Ls hy;refine Al hg (c:=True) (we:=[(dst,.bool p)]) (wo:=[]) (rd:=rdK c++(rdK x++rdK y)) ?_ ?_ trivial h
 ·simp_all
 simp_all
theorem Ez {c:Arg} {p:Bool} (hg:gOn e g=true) (hc:Aa e c=some (.bool false)) (hx:isB (Aa e x)=true) (hy:Aa e y=some (.bool p))
  (h:TrO Γ r (nv+1) ⟨(dst,.bool p)::e,o,n⟩ d (acc++[(gK g++(rdK c++(rdK x++rdK y)),[.e dst],af)]) K t) :
  TrO Γ (⟨some dst,.pick c x y,g,af⟩::r) nv ⟨e,o,n⟩ d acc K t:=by
 obtain⟨b1,q,hq'⟩:=Ls hx;refine Al hg (c:=True) (we:=[(dst,.bool p)]) (wo:=[]) (rd:=rdK c++(rdK x++rdK y)) ?_ ?_ trivial h
 ·simp_all
 simp_all
theorem Ki (hg:gOn e g=true) (h:TrO Γ r (nv+1) ⟨(dst,.optr dst nv 0 0)::e,(dst,some (nv,⟨false,true,s,ty,[z]⟩))::o,n⟩ d (acc++[(gK g++[],[.e dst,.o dst],af)]) K t) :
  TrO Γ (⟨some dst,.new z s ty,g,af⟩::r) nv ⟨e,o,n⟩ d acc K t :=
 Al hg (c:=True) (we:=[(dst,.optr dst nv 0 0)]) (wo:=[(dst,some (nv,⟨false,true,s,ty,[z]⟩))]) (rd:=[]) (by simp) (by simp) trivial h
theorem Ka (hg:gOn e g=true) (hx:Aa e x=some v) (hw:strip v=(true,v)) (hk:known v=true) (hl:(cells v).length=s)
  (h:TrO Γ r (nv+1) ⟨(dst,.optr dst nv 0 0)::e,(dst,some (nv,⟨false,true,s,ty,[v]⟩))::o,n⟩ d (acc++[(gK g++rdK x,[.e dst,.o dst],af)]) K t) :
  TrO Γ (⟨some dst,.box x s ty,g,af⟩::r) nv ⟨e,o,n⟩ d acc K t :=
 Al hg (c:=True) (we:=[(dst,.optr dst nv 0 0)]) (wo:=[(dst,some (nv,⟨false,true,s,ty,[v]⟩))]) (rd:=rdK x) (by simp_all) (by simp) trivial h
def Ce (e:List (Nat×D)):List (Nat×Nat×Arg)->List (Nat×Nat×D)
 | []=>[]
 | (a,b,x)::r=>(a,b,(Aa e x).getD .top)::Ce e r
def Cv:List (Nat×Nat×Arg)->List Key
 | []=>[]
 | (_,_,x)::r=>rdK x++Cv r
def DL:Nat->List (Nat×Nat×D)->Bool
 | _,[]=>true
 | n,(off,s,d)::r=>known d&&(aAM (cells d).length s&&(aAO (off+s) n&&DL n r))
theorem EF:∀ {n:Nat} {l:List (Nat×Nat×D)},DL n l=true->CY n l
 | _,[],_=>trivial
 | n,(off,s,d)::r,h=>by
  simp only[DL,aAS]at h;exact⟨h.1,aAX h.2.1,aAF h.2.2.1,EF h.2.2.2⟩
theorem Ec:∀ parts:List (Nat×Nat×Arg),(BN parts).run ⟨e,o,n⟩=Ce e parts
 | []=>rfl
 | (a,b,x)::r=>by simp[BN,Ce,Ec r]
theorem EM:∀ parts:List (Nat×Nat×Arg),(BN parts).rd ⟨e,o,n⟩=Cv parts
 | []=>rfl
 | (a,b,x)::r=>by simp[BN,Cv,EM r]
theorem NP {cs:List D} (hg:gOn e g=true) (hp:Ce e parts=ps) (hf:DL zs.length ps=true) (hz:Dn zs ps=cs) (h:TrO Γ r (nv+1) ⟨(dst,.agg cs)::e,o,n⟩ d (acc++[(gK g++Cv parts,[.e dst],af)]) K t) :
  TrO Γ (⟨some dst,.bld zs parts,g,af⟩::r) nv ⟨e,o,n⟩ d acc K t :=
 Al hg (c:=CY zs.length ps) (we:=[(dst,.agg cs)]) (wo:=[]) (rd:=Cv parts) (by simp_all[Ec]) (by simp[EM]) (EF hf) h
def II (s len:Nat) (ps:List (Nat×D)):Bool:=ps.all λp=>known p.2&&(aAM (cells p.2).length s&&aAH p.1 len)
theorem Abn {len:Nat} {parts:List (Nat×Arg)} {ps:List (Nat×D)} (l:List α) (en:α->D) (hg:gOn e g=true) (hr:(AV parts).run ⟨e,o,n⟩=(c,ps,wo)) (hk:(AV parts).rd ⟨e,o,n⟩=rk) (hc:c) (hp:II s len ps=true) (hes:Aav (aAL len z) ps=l.map en) (hlen:l.length=len) (h:TrO Γ r (nv+1) ⟨(dst,.osl dst nv 0 l.length)::e,(dst,some (nv,⟨false,false,s,ty,l.map en⟩))::(wo++o),n⟩ d (acc++[(gK g++rk,[.e dst,.o dst]++wo.map (λx=>.o x.1),af)]) K t) :
  TrO Γ (⟨some dst,.bldS s ty z len parts,g,af⟩::r) nv ⟨e,o,n⟩ d acc K t:=by
 have h1:∀ p∈ps,known p.2=true/\(cells p.2).length=s/\p.1<len:=by
  intro p hp';have:=aAU.1 hp p hp';simp_all
 subst hlen;exact Al hg (c:=c/\∀ p∈ps,known p.2=true/\(cells p.2).length=s/\p.1<l.length) (we:=[(dst,.osl dst nv 0 l.length)]) (wo:=(dst,some (nv,⟨false,false,s,ty,l.map en⟩))::wo) (rd:=rk) (by simp_all) (by simp[hk]) ⟨hc,h1⟩ (by simp_all)
theorem CS {q:α} (h:l[i]? =some q):(l.map en)[i]? =some (en q):=by simp[h]
theorem ER (hg:gOn e g=true) (hx:Aa e x=some (.optr gi vi i off)) (ho:lkO o gi=some (vi,⟨fz,var,s,ty,es⟩)) (hz:es[i]? =some z) (hb:aAO (off+m) (cells z).length=true) (hv:PD (cells z) off m agg=v) (h:TrO Γ r (nv+1) ⟨(dst,v)::e,o,n⟩ d (acc++[(gK g++(rdK x++[.o gi]),[.e dst],af)]) K t) (hpl:(plain v|| !Ac gi)=true:=by rfl) :
  TrO Γ (⟨some dst,.ld m agg x,g,af⟩::r) nv ⟨e,o,n⟩ d acc K t:=by
 obtain⟨hi,rfl⟩:=aAA.1 hz;have hb':=aAF hb;have hgd:es.getD i .top=es[i]:=by simp[hi]
 refine Al hg (c:=True) (we:=[(dst,v)]) (wo:=[]) (rd:=rdK x++[Key.o gi]) ?_ ?_ trivial h
 ·simp only[evalOp,R.run_bind,AD,aAB,hx,strip,R.Bm,Be,ho,Ad,hgd,hv];cases hrg:Ac gi with
  | false=>simp_all
  | true=>cases v<;>first|(simp[hi,hb'];done)|(rw[hrg]at hpl;cases hpl)
 ·simp only[evalOp,R.BO,AD,Ev,aAB,hx,strip,R.EN,Be,ho,hgd,hv];cases hrg:Ac gi with
  | false=>simp
  | true=>cases v<;>first|(simp;done)|(rw[hrg]at hpl;cases hpl)
theorem Jn (hg:gOn e g=true) (hx:Aa e x=some (.fptr z off)) (hb:aAO (off+m) (cells z).length=true) (hv:PD (cells z) off m agg=v) (h:TrO Γ r (nv+1) ⟨(dst,v)::e,o,n⟩ d (acc++[(gK g++rdK x,[.e dst],af)]) K t) :
  TrO Γ (⟨some dst,.ld m agg x,g,af⟩::r) nv ⟨e,o,n⟩ d acc K t:=by
 have hb':=aAF hb;refine Al hg (c:=True) (we:=[(dst,v)]) (wo:=[]) (rd:=rdK x) ?_ ?_ trivial h
 all_goals simp_all
theorem ET (hg:gOn e g=true) (hx:Aa e x=some (.optr gi vi 0 off)) (hy:Aa e y=some v) (hw:strip v=(true,v)) (ho:lkO o gi=some (vi,⟨false,true,s,ty,[z]⟩)) (hk:known v=true) (hl:(cells v).length=m)
  (hb:aAO (off+m) (cells z).length=true) (hz:Qu z off (cells v)=z')
  (h:TrO Γ r (nv+1) ⟨e,(gi,some (vi,⟨false,true,s,ty,[z']⟩))::o,n⟩ d (acc++[(gK g++(rdK x++(rdK y++[.o gi])),[.o gi],af)]) K t) (hrg:Ac gi=false:=by rfl) :
  TrO Γ (⟨none,.st m x y,g,af⟩::r) nv ⟨e,o,n⟩ d acc K t:=by
 have hb':=aAF hb;refine Al hg (c:=True) (we:=[]) (wo:=[(gi,some (vi,⟨false,true,s,ty,[z']⟩))]) (rd:=rdK x++(rdK y++[Key.o gi])) ?_ ?_ trivial h
 ·simp_all
 simp_all
theorem TC {q q':α} {v':D} (hg:gOn e g=true) (hx:Aa e x=some (.optr gi vi i off)) (hy:Aa e y=some v) (hw:strip v=(true,v)) (ho:lkO o gi=some (vi,⟨false,false,s,ty,l.map en⟩)) (hr:(res v).run ⟨e,o,n⟩=(c,v',wo)) (hrd:(res v).rd ⟨e,o,n⟩=rk) (hc:c) (hi:l[i]? =some q) (hk:known v'=true) (hl:(cells v').length=m) (hb:aAO (off+m) (cells (en q)).length=true) (hz:Qu (en q) off (cells v')=en q') (hwo:wo.all (λx=>x.1 != gi)=true) (h:TrO Γ r (nv+1) ⟨e,(gi,some (vi,⟨false,false,s,ty,(l.set i q').map en⟩))::(wo++o),n⟩ d (acc++[(gK g++(rdK x++(rdK y++(.o gi::rk))),.o gi::wo.map (λx=>.o x.1),af)]) K t) (hrg:Ac gi=false:=by rfl) :
  TrO Γ (⟨none,.st m x y,g,af⟩::r) nv ⟨e,o,n⟩ d acc K t:=by
 have hb':=aAF hb;obtain⟨hi',rfl⟩:=aAA.1 hi;refine Al hg (c:=True) (we:=[]) (wo:=(gi,some (vi,⟨false,false,s,ty,(l.set i q').map en⟩))::wo) (rd:=rdK x++(rdK y++(Key.o gi::rk))) ?_ ?_ trivial (by simp_all)
 ·simp only[evalOp,R.run_bind,AD,aAB,hx,hy,hw,EP,R.Bm,Be,ho,hrg,aAj,if_false,hr,R.run_pure]
  grind [aAg]
 simp_all
theorem Io (hg:gOn e g=true) (hx:Aa e x=some v) (hv:(match v with| .optr .. | .fptr ..=>true|_=>false)=true) (h:TrO Γ r (nv+1) ⟨(dst,v)::e,o,n⟩ d (acc++[(gK g++rdK x,[.e dst],af)]) K t) :
  TrO Γ (⟨some dst,.nilck x,g,af⟩::r) nv ⟨e,o,n⟩ d acc K t :=
 Al hg (c:=True) (we:=[(dst,v)]) (wo:=[]) (rd:=rdK x) (by cases v<;>simp[hx]at hv ⊢) (by cases v<;>simp[hx]at hv ⊢) trivial h
theorem FV {op:BinOp} (hg:gOn e g=true) (hx:Aa e x=some (.int k a)) (hy:Aa e y=some (.int k' b)) (hb:HC op (.int k a) (.int k' b)=(c,v)) (hc:c) (h:TrO Γ r (nv+1) ⟨(dst,v)::e,o,n⟩ d (acc++[(gK g++(rdK x++rdK y),[.e dst],af)]) K t) :
  TrO Γ (⟨some dst,.bin op x y,g,af⟩::r) nv ⟨e,o,n⟩ d acc K t :=
 Al hg (c:=c) (we:=[(dst,v)]) (wo:=[]) (rd:=rdK x++rdK y) (by simp_all) (by simp) hc h
theorem Dv {op:BinOp} {p q:List UInt8} (hg:gOn e g=true) (hx:Aa e x=some (.str p)) (hy:Aa e y=some (.str q)) (hb:HC op (.str p) (.str q)=(c,v)) (hc:c) (h:TrO Γ r (nv+1) ⟨(dst,v)::e,o,n⟩ d (acc++[(gK g++(rdK x++rdK y),[.e dst],af)]) K t) :
  TrO Γ (⟨some dst,.bin op x y,g,af⟩::r) nv ⟨e,o,n⟩ d acc K t :=
 Al hg (c:=c) (we:=[(dst,v)]) (wo:=[]) (rd:=rdK x++rdK y) (by simp_all) (by simp) hc h
theorem Kd {neg p q:Bool} (hg:gOn e g=true) (hx:Aa e x=some (.bool p)) (hy:Aa e y=some (.bool q))
  (h:TrO Γ r (nv+1) ⟨(dst,.bool (if neg then !(p==q)else(p==q)))::e,o,n⟩ d (acc++[(gK g++(rdK x++rdK y),[.e dst],af)]) K t) :
  TrO Γ (⟨some dst,.eqB neg x y,g,af⟩::r) nv ⟨e,o,n⟩ d acc K t :=
 Al hg (c:=True) (we:=[(dst,.bool (if neg then !(p==q)else(p==q)))]) (wo:=[]) (rd:=rdK x++rdK y) (by simp_all) (by simp_all) trivial h
theorem Kc {neg p:Bool} {cs:List D} (hg:gOn e g=true) (hx:Aa e x=some (.agg cs)) (hy:Aa e y=some (.agg cs')) (hq:eqL cs cs'=(c,p)) (hc:c) (hn:aAM cs.length m=true) (h:TrO Γ r (nv+1) ⟨(dst,.bool (if neg then !p else p))::e,o,n⟩ d (acc++[(gK g++(rdK x++rdK y),[.e dst],af)]) K t) :
  TrO Γ (⟨some dst,.eqA m neg x y,g,af⟩::r) nv ⟨e,o,n⟩ d acc K t:=by
 have hn':=aAX hn;exact Al hg (c:=True) (we:=[(dst,.bool (if neg then !p else p))]) (wo:=[]) (rd:=rdK x++rdK y) (by simp_all) (by simp_all) trivial h
theorem LO {op:UnOp} (hg:gOn e g=true) (hx:Aa e x=some v) (hw:strip v=(true,v)) (hb:unD op v=(c,w)) (hc:c) (h:TrO Γ r (nv+1) ⟨(dst,w)::e,o,n⟩ d (acc++[(gK g++rdK x,[.e dst],af)]) K t) :
  TrO Γ (⟨some dst,.un op x,g,af⟩::r) nv ⟨e,o,n⟩ d acc K t :=
 Al hg (c:=c) (we:=[(dst,w)]) (wo:=[]) (rd:=rdK x) (by simp_all) (by simp) hc h
theorem Kb (hg:gOn e g=true) (hx:Aa e x=some (.int k' a)) (h:TrO Γ r (nv+1) ⟨(dst,.int k (k.wrap a))::e,o,n⟩ d (acc++[(gK g++rdK x,[.e dst],af)]) K t) :
  TrO Γ (⟨some dst,.cvt k x,g,af⟩::r) nv ⟨e,o,n⟩ d acc K t :=
 Al hg (c:=True) (we:=[(dst,.int k (k.wrap a))]) (wo:=[]) (rd:=rdK x) (by simp[hx]) (by simp[hx]) trivial h
theorem NQ {q:α} (en:α->D) (hg:gOn e g=true) (hx:Aa e x=some (.int k a)) (hy:Aa e y=some (.int k' a)) (hz:z=en q) (hl:0<=a/\a<=16777216) (hby:aAO bytes 65536=true) (h:TrO Γ r (nv+1) ⟨(dst,.osl dst nv 0 (aAL a.toNat q).length)::e,(dst,some (nv,⟨false,false,s,ty,(aAL a.toNat q).map en⟩))::o,n⟩ d (acc++[(gK g++(rdK x++rdK y),[.e dst,.o dst],af)]) K t) :
  TrO Γ (⟨some dst,.mkS s ty bytes z x y,g,af⟩::r) nv ⟨e,o,n⟩ d acc K t:=by
 have:=aAF hby;subst hz;exact Al hg (c:=True) (we:=[(dst,.osl dst nv 0 (aAL a.toNat q).length)]) (wo:=[(dst,some (nv,⟨false,false,s,ty,(aAL a.toNat q).map en⟩))]) (rd:=rdK x++rdK y) (by simp_all) (by simp_all) trivial h
theorem Jl (hg:gOn e g=true) (hx:Aa e x=some (.optr gi vi i off)) (h:TrO Γ r (nv+1) ⟨(dst,.optr gi vi i (off+m))::e,o,n⟩ d (acc++[(gK g++rdK x,[.e dst],af)]) K t) :
  TrO Γ (⟨some dst,.fldA m x,g,af⟩::r) nv ⟨e,o,n⟩ d acc K t :=
 Al hg (c:=True) (we:=[(dst,.optr gi vi i (off+m))]) (wo:=[]) (rd:=rdK x) (by simp[hx]) (by simp[hx]) trivial h
theorem Hv (hg:gOn e g=true) (hx:Aa e x=some (.fptr z off)) (h:TrO Γ r (nv+1) ⟨(dst,.fptr z (off+m))::e,o,n⟩ d (acc++[(gK g++rdK x,[.e dst],af)]) K t) :
  TrO Γ (⟨some dst,.fldA m x,g,af⟩::r) nv ⟨e,o,n⟩ d acc K t :=
 Al hg (c:=True) (we:=[(dst,.fptr z (off+m))]) (wo:=[]) (rd:=rdK x) (by simp[hx]) (by simp[hx]) trivial h
theorem Kf {cs:List D} (hg:gOn e g=true) (hx:Aa e x=some (.agg cs)) (hb:aAO (off+m) cs.length=true) (hv:PD cs off m agg=v) (h:TrO Γ r (nv+1) ⟨(dst,v)::e,o,n⟩ d (acc++[(gK g++rdK x,[.e dst],af)]) K t) :
  TrO Γ (⟨some dst,.fld off m agg x,g,af⟩::r) nv ⟨e,o,n⟩ d acc K t:=by
 have hb':=aAF hb;exact Al hg (c:=True) (we:=[(dst,v)]) (wo:=[]) (rd:=rdK x) (by simp_all) (by simp[hx]) trivial h
theorem DJ {q:α} (hg:gOn e g=true) (hx:Aa e x=some (.sl (l.map en))) (hy:Aa e y=some (.int k a)) (hi:ixO l a=some q) (hs:(cells (en q)).length=s)
  (h:TrO Γ r (nv+1) ⟨(dst,.fptr (en q) 0)::e,o,n⟩ d (acc++[(gK g++(rdK x++rdK y),[.e dst],af)]) K t) :
  TrO Γ (⟨some dst,.ixA s x y,g,af⟩::r) nv ⟨e,o,n⟩ d acc K t:=by
 obtain⟨h0,h1,h2⟩:=AkS hi;refine Al hg (c:=True) (we:=[(dst,.fptr (en q) 0)]) (wo:=[]) (rd:=rdK x++rdK y) ?_ (by simp_all) trivial h
 simp_all
theorem ZR (hq:q=l.length) (hg:gOn e g=true) (hx:Aa e x=some (.osl gi vi 0 q)) (hy:Aa e y=some (.int k a)) (ho:lkO o gi=some (vi,⟨fz,false,s,ty,l.map en⟩)) (hi:0<=a/\a<l.length) (h:TrO Γ r (nv+1) ⟨(dst,.optr gi vi a.toNat 0)::e,o,n⟩ d (acc++[(gK g++(rdK x++(rdK y++[.o gi])),[.e dst],af)]) K t) :
  TrO Γ (⟨some dst,.ixA s x y,g,af⟩::r) nv ⟨e,o,n⟩ d acc K t:=by
 subst hq;refine Al hg (c:=True) (we:=[(dst,.optr gi vi a.toNat 0)]) (wo:=[]) (rd:=rdK x++(rdK y++[Key.o gi])) ?_ (by simp_all) trivial h
 simp_all
theorem Ke (hg:gOn e g=true) (hx:Aa e x=some (.tup ds)) (hi:ds[i]? =some v) (h:TrO Γ r (nv+1) ⟨(dst,v)::e,o,n⟩ d (acc++[(gK g++rdK x,[.e dst],af)]) K t) :
  TrO Γ (⟨some dst,.ext x i,g,af⟩::r) nv ⟨e,o,n⟩ d acc K t:=by
 have hl:=(aAA.1 hi).1;exact Al hg (c:=True) (we:=[(dst,v)]) (wo:=[]) (rd:=rdK x) (by simp_all) (by simp[hx]) trivial h
theorem Hx (hg:gOn e g=true) (hx:Aa e x=some (.sl (l.map en))) (h:TrO Γ r (nv+1) ⟨(dst,.int .i64 l.length)::e,o,n⟩ d (acc++[(gK g++rdK x,[.e dst],af)]) K t) :
  TrO Γ (⟨some dst,.len false x,g,af⟩::r) nv ⟨e,o,n⟩ d acc K t :=
 Al hg (c:=True) (we:=[(dst,.int .i64 l.length)]) (wo:=[]) (rd:=rdK x) (by simp[hx]) (by simp[hx]) trivial h
theorem Gq (hg:gOn e g=true) (hx:Aa e x=some (.osl gi vi i q)) (h:TrO Γ r (nv+1) ⟨(dst,.int .i64 q)::e,o,n⟩ d (acc++[(gK g++rdK x,[.e dst],af)]) K t) :
  TrO Γ (⟨some dst,.len false x,g,af⟩::r) nv ⟨e,o,n⟩ d acc K t :=
 Al hg (c:=True) (we:=[(dst,.int .i64 q)]) (wo:=[]) (rd:=rdK x) (by simp[hx]) (by simp[hx]) trivial h
theorem Gp (hg:gOn e g=true) (hx:Aa e x=some .nils) (h:TrO Γ r (nv+1) ⟨(dst,.int .i64 0)::e,o,n⟩ d (acc++[(gK g++rdK x,[.e dst],af)]) K t) :
  TrO Γ (⟨some dst,.len false x,g,af⟩::r) nv ⟨e,o,n⟩ d acc K t :=
 Al hg (c:=True) (we:=[(dst,.int .i64 0)]) (wo:=[]) (rd:=rdK x) (by simp[hx]) (by simp[hx]) trivial h
theorem Gr {p:List UInt8} (hg:gOn e g=true) (hx:Aa e x=some (.str p)) (h:TrO Γ r (nv+1) ⟨(dst,.int .i64 p.length)::e,o,n⟩ d (acc++[(gK g++rdK x,[.e dst],af)]) K t) :
  TrO Γ (⟨some dst,.len true x,g,af⟩::r) nv ⟨e,o,n⟩ d acc K t :=
 Al hg (c:=True) (we:=[(dst,.int .i64 p.length)]) (wo:=[]) (rd:=rdK x) (by simp[hx]) (by simp[hx]) trivial h
theorem Akq {c':Prop} {new old:List D} {rk':List Key} (l l':List α) (en:α->D) (hg:gOn e g=true) (hx:Aa e x=some v) (hy:Aa e y=some w) (hvw:strip v=(true,v)) (hww:strip w=(true,w)) (hv:(view w).run ⟨e,o,n⟩=(c,new)) (hvr:(view w).rd ⟨e,o,n⟩=rk) (hc:c) (hn:new=l'.map en) (ht:(target s ty v).run ⟨e,o,n⟩=(c',old,wo,false)) (htr:(target s ty v).rd ⟨e,o,n⟩=rk') (hc':c') (ho:old=l.map en) (hs:∀ q,(cells (en q)).length=s) (hby:aAO bytes 65536=true) (hl:l.length+l'.length<=16777216) (h:TrO Γ r (nv+1) ⟨(dst,.osl dst nv 0 (l++l').length)::e,(dst,some (nv,⟨false,false,s,ty,(l++l').map en⟩))::(wo++o),n⟩ d (acc++[(gK g++(rdK x++(rdK y++(rk++rk'))),[.e dst,.o dst]++wo.map (λx=>.o x.1),af)]) K t) :
  TrO Γ (⟨some dst,.app s ty bytes x y,g,af⟩::r) nv ⟨e,o,n⟩ d acc K t:=by
 have hb':=aAF hby;subst hn;subst ho;refine Al hg (c:=True) (we:=[(dst,.osl dst nv 0 (l++l').length)]) (wo:=(dst,some (nv,⟨false,false,s,ty,(l++l').map en⟩))::wo) (rd:=rdK x++(rdK y++(rk++rk'))) ?_ ?_ trivial (by simp_all)
 ·simp only[evalOp,R.run_bind,AD,aAB,hx,hy,hvw,hww,source,hv,ht,R.run_pure,Ad,CH,nmR,cond_false];simp_all
 grind [evalOp,R.BO,AD,Ev,source,R.Ew]
theorem Kg (hg:gOn e g=true) (hx:Aa e x=some (.int k a)) (hy:Aa e y=some (.int k b)) (h:TrO Γ r (nv+1) ⟨(dst,.int k (PJ a b))::e,o,n⟩ d (acc++[(gK g++(rdK x++rdK y),[.e dst],af)]) K t) :
  TrO Γ (⟨some dst,.max [x,y],g,af⟩::r) nv ⟨e,o,n⟩ d acc K t :=
 Al hg (c:=True) (we:=[(dst,.int k (PJ a b))]) (wo:=[]) (rd:=rdK x++rdK y) (by simp[AJ,hx,hy,DP]) (by simp_all[AJ]) trivial h
theorem Awl {z:Arg} {c:Int} (hg:gOn e g=true) (hx:Aa e x=some (.int k a)) (hy:Aa e y=some (.int k b)) (hz:Aa e z=some (.int k c)) (h:TrO Γ r (nv+1) ⟨(dst,.int k (PJ (PJ a b) c))::e,o,n⟩ d (acc++[(gK g++(rdK x++(rdK y++rdK z)),[.e dst],af)]) K t) :
  TrO Γ (⟨some dst,.max [x,y,z],g,af⟩::r) nv ⟨e,o,n⟩ d acc K t :=
 Al hg (c:=True) (we:=[(dst,.int k (PJ (PJ a b) c))]) (wo:=[]) (rd:=rdK x++(rdK y++rdK z)) (by simp[AJ,hx,hy,hz,DP]) (by simp_all[AJ]) trivial h
theorem Kh (hg:gOn e g=true) (hx:Aa e x=some (.int k a)) (hy:Aa e y=some (.int k b)) (h:TrO Γ r (nv+1) ⟨(dst,.int k (RQ a b))::e,o,n⟩ d (acc++[(gK g++(rdK x++rdK y),[.e dst],af)]) K t) :
  TrO Γ (⟨some dst,.min [x,y],g,af⟩::r) nv ⟨e,o,n⟩ d acc K t :=
 Al hg (c:=True) (we:=[(dst,.int k (RQ a b))]) (wo:=[]) (rd:=rdK x++rdK y) (by simp_all[AJ,DP]) (by simp_all[AJ]) trivial h
theorem Fh {hi:Arg} (hg:gOn e g=true) (hx:Aa e x=some (.sl (l.map en))) (hy:Aa e hi=some (.int k a)) (hs:∀ q,(cells (en q)).length=s) (hp:aAH 0 s=true) (hl:0<=a/\a<=l.length)
  (h:TrO Γ r (nv+1) ⟨(dst,.sl ((l.take a.toNat).map en))::e,o,n⟩ d (acc++[(gK g++(rdK x++rdK hi),[.e dst],af)]) K t) :
  TrO Γ (⟨some dst,.slc s x none (some hi),g,af⟩::r) nv ⟨e,o,n⟩ d acc K t:=by
 have hp':0<s:=by simp_all
 refine Al hg (c:=True) (we:=[(dst,.sl ((l.take a.toNat).map en))]) (wo:=[]) (rd:=rdK x++rdK hi) ?_ ?_ trivial h
 ·simp only[evalOp,R.run_bind,AD,aAB,hx,hy,strip,Br,R.AM,R.run_pure,Bf,fits,BQ,bound,Bu,Ad];simp_all
 simp_all[Br,fits]
theorem Fi {lo:Arg} (hg:gOn e g=true) (hx:Aa e x=some (.sl (l.map en))) (hy:Aa e lo=some (.int k a)) (hs:∀ q,(cells (en q)).length=s) (hp:aAH 0 s=true) (hl:0<=a/\a<=l.length)
  (h:TrO Γ r (nv+1) ⟨(dst,.sl ((l.drop a.toNat).map en))::e,o,n⟩ d (acc++[(gK g++(rdK x++rdK lo),[.e dst],af)]) K t) :
  TrO Γ (⟨some dst,.slc s x (some lo) none,g,af⟩::r) nv ⟨e,o,n⟩ d acc K t:=by
 have hp':0<s:=by simp_all
 refine Al hg (c:=True) (we:=[(dst,.sl ((l.drop a.toNat).map en))]) (wo:=[]) (rd:=rdK x++rdK lo) ?_ ?_ trivial h
 ·have ht:aAY (l.length-a.toNat) (aAw a.toNat (l.map en))=(l.drop a.toNat).map en:=by
   grind [List.map_drop,aAE]
  simp only[evalOp,R.run_bind,AD,aAB,hx,hy,strip,Br,R.AM,R.run_pure,Bf,fits,BQ,bound,Bu,Ad,aAc,Int.toNat_natCast];simp_all
 simp_all[Br,fits]
theorem AbQ {hi:Arg} (hq:q=l.length) (hg:gOn e g=true) (hx:Aa e x=some (.osl gi vi 0 q)) (hy:Aa e hi=some (.int k a)) (ho:lkO o gi=some (vi,⟨fz,var,s,ty,es⟩)) (hp:aAH 0 s=true) (hl:0<=a/\a<=l.length) (h:TrO Γ r (nv+1) ⟨(dst,.osl gi vi 0 a.toNat)::e,o,n⟩ d (acc++[(gK g++(rdK x++(rdK hi++[.o gi])),[.e dst],af)]) K t) :
  TrO Γ (⟨some dst,.slc s x none (some hi),g,af⟩::r) nv ⟨e,o,n⟩ d acc K t:=by
 subst hq;have hp':0<s:=by simp_all
 refine Al hg (c:=True) (we:=[(dst,.osl gi vi 0 a.toNat)]) (wo:=[]) (rd:=rdK x++(rdK hi++[Key.o gi])) ?_ ?_ trivial h
 ·simp only[evalOp,R.run_bind,AD,aAB,hx,hy,strip,Br,R.AM,R.run_pure,Bf,fits,R.Bm,Be,ho,BQ,bound,Bu,Ad];simp_all
 simp_all[Br,fits]
theorem Agh {lo:Arg} (hq:q=l.length) (hg:gOn e g=true) (hx:Aa e x=some (.osl gi vi 0 q)) (hy:Aa e lo=some (.int k a)) (ho:lkO o gi=some (vi,⟨fz,var,s,ty,es⟩)) (hp:aAH 0 s=true) (hl:0<=a/\a<=l.length) (h:TrO Γ r (nv+1) ⟨(dst,.osl gi vi a.toNat (l.length-a.toNat))::e,o,n⟩ d (acc++[(gK g++(rdK x++(rdK lo++[.o gi])),[.e dst],af)]) K t) :
  TrO Γ (⟨some dst,.slc s x (some lo) none,g,af⟩::r) nv ⟨e,o,n⟩ d acc K t:=by
 subst hq;have hp':0<s:=by simp_all
 refine Al hg (c:=True) (we:=[(dst,.osl gi vi a.toNat (l.length-a.toNat))]) (wo:=[]) (rd:=rdK x++(rdK lo++[Key.o gi])) ?_ ?_ trivial h
 ·simp only[evalOp,R.run_bind,AD,aAB,hx,hy,strip,Br,R.AM,R.run_pure,Bf,fits,R.Bm,Be,ho,BQ,bound,Bu,Ad];simp_all
 simp_all[Br,fits]
theorem Hy {lo hi:Arg} {k2:IntKind} (hg:gOn e g=true) (hx:Aa e x=some (.sl (l.map en))) (hy:Aa e lo=some (.int k a)) (hz:Aa e hi=some (.int k2 b)) (hs:∀ q,(cells (en q)).length=s) (hp:aAH 0 s=true) (hl:0<=a/\a<=b/\b<=l.length)
  (h:TrO Γ r (nv+1) ⟨(dst,.sl (((l.drop a.toNat).take (b.toNat-a.toNat)).map en))::e,o,n⟩ d (acc++[(gK g++(rdK x++(rdK lo++rdK hi)),[.e dst],af)]) K t) :
  TrO Γ (⟨some dst,.slc s x (some lo) (some hi),g,af⟩::r) nv ⟨e,o,n⟩ d acc K t:=by
 have hp':0<s:=by simp_all
 refine Al hg (c:=True) (we:=[(dst,.sl (((l.drop a.toNat).take (b.toNat-a.toNat)).map en))]) (wo:=[]) (rd:=rdK x++(rdK lo++rdK hi)) ?_ ?_ trivial h
 ·simp only[evalOp,R.run_bind,AD,aAB,hx,hy,hz,strip,Br,R.AM,R.run_pure,Bf,fits,BQ,bound,Bu,Ad];simp_all
 simp_all[Br,fits]
end
section
variable {A B:Type}
def OY (ptr:List (Nat×(Nat×Nat))) (kind:Kind) (enc:A->List D) (dec:List D->A) (f:A->Option B) (encR:B->D) (encE:B->List D):Spec where
 ptr:=ptr
 kind:=kind
 pre:=λds=>∃ a b,ds=enc a/\f a=some b
 res:=λds=>match f (dec ds)with|some b=>encR b|none=>.top
 eff:=λds=>match f (dec ds)with|some b=>encE b|none=>[]
variable {ptr:List (Nat×(Nat×Nat))} {kind:Kind} {enc:A->List D} {dec:List D->A} {f:A->Option B} {encR:B->D} {encE:B->List D} {a:A} {b:B}
theorem Cb (hde:∀ a,dec (enc a)=a) (hf:f a=some b):(OY ptr kind enc dec f encR encE).res (enc a)=encR b:=by grind [OY]
theorem DX (hde:∀ a,dec (enc a)=a) (hf:f a=some b):(OY ptr kind enc dec f encR encE).eff (enc a)=encE b:=by grind [OY]
def Bx (ptr:List (Nat×(Nat×Nat))) (kind:Kind) (rs:List AQ) (encR:B->D) (encE:B->List D):B->Au->S->Prop:=λb e τ =>
 match e with
 | .exit _=>False
 | _=>Wk (Ck ⟨ptr,kind,λ_=>True,λ_=>encR b,λ_=>encE b⟩ rs []) τ
theorem OD {P:Program} (hΓ:∀ k sp,Γ k=some sp->OW P (k % 4096) sp) (hf:P.funcs[k]? =some fn) (hname:(fn.name == "runtime.NumGoroutine")=false) (hc:(fn.body.bind (PY P fn.ntmps))=some dc) (hr:fn.results.toList.mapM (Ug P)=some rs) (hnp:np<=fn.ntmps) (hde:∀ a,dec (enc a)=a) (hlen:∀ a,(enc a).length=np) (hkeys:∀ a,BF ptr 0 (enc a)=ptr.map Prod.fst) (hptr:EK ptr=true) (hT:∀ a,TrE Γ dc (Bx ptr kind rs encR encE) ⟨Dq ptr 0 (enc a),CC ptr 0 (enc a),262144⟩ (f a)) (hni:BI kind=none:=by rfl) (hno:DZ kind=none:=by rfl):OW P k (OY ptr kind enc dec f encR encE):=by
 refine Nu hΓ hf hname hc hr hnp (by rintro ds ⟨a,b,rfl,_⟩;exact⟨hlen a,hkeys a⟩) hptr ?_ hni hno
 rintro ds ⟨a,b,rfl,hb⟩ _;have h:=hT a b hb;refine h.mono λτ0 h=>Bn _ _ _ _ (λe τ hq=>?_) h
 have key:∀ τ,Ck ⟨ptr,kind,λ_=>True,λ_=>encR b,λ_=>encE b⟩ rs [] τ->Ck (OY ptr kind enc dec f encR encE) rs (enc a) τ:=by
  simp only[Ck,Cb hde hb,DX hde hb];exact λ_ h=>h
 cases e with
 | exit id=>exact hq.elim
 | normal=>exact hq.mono key
 | ret=>exact hq.mono key
end
def An (e:List (Nat×D)):List Arg->List D
 | []=>[]
 | x::r=>(Aa e x).getD .top::An e r
def Bl:List Arg->List Key
 | []=>[]
 | x::r=>rdK x++Bl r
section
variable {Γ:Aq} {X A B:Type} {K:KR X} {t:Option X} {e:List (Nat×D)} {o:List (Nat×Ab)} {n nv:Nat} {d:Bool} {acc:List Cn}
 {r:List As} {dst:Nat} {g:Option (Nat×Bool)} {af:List Nat} {α:Type}
 {ptr:List (Nat×(Nat×Nat))} {kind:Kind} {enc:A->List D} {dec:List D->A} {f:A->Option B} {encR:B->D} {encE:B->List D} {b:B}
 {fa:Arg} {args:List Arg} {caps:List D} {k:Nat} {c:Prop} {ds:List D} {w:List (Nat×Ab)} {ps:List (Nat×Nat×Own)} {rk:List Key} {s ty:Nat}
theorem Bj:∀ args:List Arg,(AJ args).run ⟨e,o,n⟩=An e args
 | []=>rfl
 | x::r=>by simp[AJ,An,Bj r]
theorem CP:∀ args:List Arg,(AJ args).rd ⟨e,o,n⟩=Bl args
 | []=>rfl
 | x::r=>by simp[AJ,Bl,CP r]
theorem DS {dst:Option Nat} {c2:Prop} (hg:gOn e g=true) (hf:Aa e fa=some (.clo k caps)) (hΓ:Γ (k+4096*AH (An e args))=some sp) (hr:(Af sp.ptr 0 (An e args++caps)).run ⟨e,o,n⟩=(c,ds,w,ps)) (hk:(Af sp.ptr 0 (An e args++caps)).rd ⟨e,o,n⟩=rk) (hco:AX dst nv sp c ds w ps=⟨c2,we,wo⟩) (hc:c2) (h:TrO Γ r (nv+1) ⟨we++e,wo++o,n⟩ d (acc++[(gK g++(rdK fa++(Bl args++rk)),we.map (λx=>.e x.1)++wo.map (λx=>.o x.1),af)]) K t) (hin:BI sp.kind=none:=by rfl) (hkb:aAH k 4096=true:=by rfl) :
  TrO Γ (⟨dst,.call fa args,g,af⟩::r) nv ⟨e,o,n⟩ d acc K t:=by
 refine Al hg (c:=c2) (we:=we) (wo:=wo) (rd:=rdK fa++(Bl args++rk)) ?_ ?_ hc h
 ·grind [evalOp,R.run_bind,Bf,Cx,Bj,R.run_pure]
 ·simp only[evalOp,R.BO,Bf,Eu,aAB,hf,Cx hkb,hkb,Bj,hΓ,hin,CP,hr,hk,R.Ew,aAx]
theorem Jm {vi gi m:Nat} {l l':List Int} (hg:gOn e g=true) (hf:Aa e fa=some (.clo k caps)) (hΓ:Γ (k+4096*AH (An e args))=some sp) (hin:BI sp.kind=some (inQ false fl fk)) (hr:An e args++caps=[.osl gi vi 0 m]) (hm:m=l.length) (ho:lkO o gi=some (vi,⟨false,false,1,ty',l.map (.int .i64)⟩)) (hl:l.length<4611686018427387904) (hfl:fl l=l') (h:TrO Γ r (nv+1) ⟨e,(gi,some (vi,⟨false,false,1,ty',l'.map (.int .i64)⟩))::o,n⟩ d (acc++[(gK g++(rdK fa++(Bl args++[.o gi])),[.o gi],af)]) K t) (hkb:aAH k 4096=true:=by rfl) :
  TrO Γ (⟨none,.call fa args,g,af⟩::r) nv ⟨e,o,n⟩ d acc K t:=by
 subst hm hfl;have hd:(l.map (D.int .i64)).map Bg=l:=by simp[aAe,Bg]
 refine Al hg (c:=True) (we:=[]) (wo:=[(gi,some (vi,⟨false,false,1,ty',(fl l).map (.int .i64)⟩))]) (rd:=rdK fa++(Bl args++[Key.o gi])) ?_ ?_ trivial ?_
 ·simp only[evalOp,R.run_bind,Bf,aAB,hf,Cx hkb,hkb,Bj,hΓ,hin,hr,Cc,R.Bm,Be,ho,R.AM];simp_all[Ad,aAE,Az,cells,plain,inQ]
 ·simp only[evalOp,R.BO,Bf,Eu,aAB,hf,Cx hkb,hkb,Bj,hΓ,hin,CP,hr,Cc,R.EN,Be,ho,R.Fw]
 ·exact h
theorem Hw {vi gi m:Nat} {l l':List Int} (hg:gOn e g=true) (hf:Aa e fa=some (.clo k caps)) (hΓ:Γ (k+4096*AH (An e args))=some sp) (hin:BI sp.kind=some (inQ false fl fk)) (hr:An e args++caps=[.osl gi vi 0 m]) (hm:m=l.length) (ho:lkO o gi=some (vi,⟨false,false,1,ty',l.map (.int .i64)⟩)) (hl:l.length<4611686018427387904) (hfl:fl l=l') (h:TrO Γ r (nv+1) ⟨(dst,.top)::e,(gi,some (vi,⟨false,false,1,ty',l'.map (.int .i64)⟩))::o,n⟩ d (acc++[(gK g++(rdK fa++(Bl args++[.o gi])),[.e dst,.o gi],af)]) K t) (hkb:aAH k 4096=true:=by rfl) :
  TrO Γ (⟨some dst,.call fa args,g,af⟩::r) nv ⟨e,o,n⟩ d acc K t:=by
 subst hm hfl;have hd:(l.map (D.int .i64)).map Bg=l:=by simp[aAe,Bg]
 refine Al hg (c:=True) (we:=[(dst,.top)]) (wo:=[(gi,some (vi,⟨false,false,1,ty',(fl l).map (.int .i64)⟩))]) (rd:=rdK fa++(Bl args++[Key.o gi])) ?_ ?_ trivial ?_
 ·simp only[evalOp,R.run_bind,Bf,aAB,hf,Cx hkb,hkb,Bj,hΓ,hin,hr,Cc,R.Bm,Be,ho,R.AM];simp_all[Ad,aAE,Az,cells,plain,inQ,Co.GG]
 ·simp only[evalOp,R.BO,Bf,Eu,aAB,hf,Cx hkb,hkb,Bj,hΓ,hin,CP,hr,Cc,R.EN,Be,ho,R.Fw]
 ·exact h
theorem FG {vi gi m:Nat} {l l':List Int} (hg:gOn e g=true) (hf:Aa e fa=some (.clo k caps)) (hΓ:Γ (k+4096*AH (An e args))=some sp) (hin:BI sp.kind=some (inQ true fl fk)) (hr:An e args++caps=[.osl gi vi 0 m]) (hm:m=l.length) (ho:lkO o gi=some (vi,⟨false,false,1,ty',l.map (.int .i64)⟩)) (hl:l.length<4611686018427387904) (hfl:(fl l).take (fk l)=l') (hfk:fk l=l'.length) (h:TrO Γ r (nv+1) ⟨(dst,.osl gi vi 0 l'.length)::e,(gi,some (vi,⟨false,false,1,ty',l'.map (.int .i64)⟩))::o,n⟩ d (acc++[(gK g++(rdK fa++(Bl args++[.o gi])),[.e dst,.o gi],af)]) K t) (hkb:aAH k 4096=true:=by rfl) :
  TrO Γ (⟨some dst,.call fa args,g,af⟩::r) nv ⟨e,o,n⟩ d acc K t:=by
 subst hm hfl;have hd:(l.map (D.int .i64)).map Bg=l:=by simp[aAe,Bg]
 refine Al hg (c:=True) (we:=[(dst,.osl gi vi 0 ((fl l).take (fk l)).length)]) (wo:=[(gi,some (vi,⟨false,false,1,ty',((fl l).take (fk l)).map (.int .i64)⟩))]) (rd:=rdK fa++(Bl args++[Key.o gi])) ?_ ?_ trivial ?_
 ·simp only[evalOp,R.run_bind,Bf,aAB,hf,Cx hkb,hkb,Bj,hΓ,hin,hr,Cc,R.Bm,Be,ho,R.AM];simp[Ad,hd,hl,aAE,Az,cells,plain,inQ]
  grind
 ·simp only[evalOp,R.BO,Bf,Eu,aAB,hf,Cx hkb,hkb,Bj,hΓ,hin,CP,hr,Cc,R.EN,Be,ho,R.Fw]
 ·exact h
theorem AdP {vi gi m:Nat} {l:List Int} {x:Int} {b:List Int×Int} {f:List Int->Int->Option (List Int×Int)} (hg:gOn e g=true) (hf:Aa e fa=some (.clo k caps)) (hΓ:Γ (k+4096*AH (An e args))=some sp) (hin:BI sp.kind=some (fiQ f)) (hr:An e args++caps=[.osl gi vi 0 m,.int .i64 x]) (hm:m=l.length) (ho:lkO o gi=some (vi,⟨false,false,1,ty',l.map (.int .i64)⟩)) (hl:l.length<4611686018427387904) (hn:∀ zs k r,f zs k=some r->r.1.length=zs.length) (hb:f l x=some b) (h:TrO Γ r (nv+1) ⟨(dst,.int .i64 b.2)::e,(gi,some (vi,⟨false,false,1,ty',b.1.map (.int .i64)⟩))::o,n⟩ d (acc++[(gK g++(rdK fa++(Bl args++[.o gi])),[.e dst,.o gi],af)]) K t) (hkb:aAH k 4096=true:=by rfl) :
  TrO Γ (⟨some dst,.call fa args,g,af⟩::r) nv ⟨e,o,n⟩ d acc K t:=by
 subst hm;have hd:(l.map (D.int .i64)).map Bg=l:=by simp[aAe,Bg]
 have hlb:=hn _ _ _ hb;refine Al hg (c:=True) (we:=[(dst,.int .i64 b.2)]) (wo:=[(gi,some (vi,⟨false,false,1,ty',b.1.map (.int .i64)⟩))]) (rd:=rdK fa++(Bl args++[Key.o gi])) ?_ ?_ trivial ?_
 ·simp only[evalOp,R.run_bind,Bf,aAB,hf,Cx hkb,hkb,Bj,hΓ,hin,hr,Cc,R.Bm,Be,ho,R.AM];simp[Ad,hd,hl,aAE,Az,cells,plain,fiQ,Co.GG,Bg,hb]
  grind
 ·simp only[evalOp,R.BO,Bf,Eu,aAB,hf,Cx hkb,hkb,Bj,hΓ,hin,CP,hr,Cc,R.EN,Be,ho,R.Fw]
 ·exact h
theorem Abo (a:A) (hg:gOn e g=true) (hf:Aa e fa=some (.clo k caps)) (hΓ:Γ (k+4096*AH (An e args))=some (OY ptr .val enc dec f encR encE)) (hde:∀ a,dec (enc a)=a) (hr:(Af ptr 0 (An e args++caps)).run ⟨e,o,n⟩=(c,ds,w,ps))
  (hk:(Af ptr 0 (An e args++caps)).rd ⟨e,o,n⟩=rk) (hc:c) (hds:ds=enc a) (hb:f a=some b)
  (h:TrO Γ r (nv+1) ⟨(dst,encR b)::e,(Ak ps (encE b)++w)++o,n⟩ d (acc++[(gK g++(rdK fa++(Bl args++rk)),.e dst::(Ak ps (encE b)++w).map (λx=>.o x.1),af)]) K t) (hkb:aAH k 4096=true:=by rfl) :
  TrO Γ (⟨some dst,.call fa args,g,af⟩::r) nv ⟨e,o,n⟩ d acc K t:=by
 subst hds;refine DS (hkb:=hkb) hg hf hΓ (sp:=OY ptr .val enc dec f encR encE) hr hk (c2:=c/\∃ a' b',enc a=enc a'/\f a'=some b') (we:=[(dst,encR b)]) (wo:=Ak ps (encE b)++w) ?_ ⟨hc,a,b,rfl,hb⟩ h;simp only[AX,Cb hde hb,DX hde hb,Ad];rfl
theorem Ff (a:A) (hg:gOn e g=true) (hf:Aa e fa=some (.clo k caps)) (hΓ:Γ (k+4096*AH (An e args))=some (OY ptr .val enc dec f encR encE)) (hde:∀ a,dec (enc a)=a) (hr:(Af ptr 0 (An e args++caps)).run ⟨e,o,n⟩=(c,ds,w,ps))
  (hk:(Af ptr 0 (An e args++caps)).rd ⟨e,o,n⟩=rk) (hc:c) (hds:ds=enc a) (hb:f a=some b)
  (h:TrO Γ r (nv+1) ⟨e,(Ak ps (encE b)++w)++o,n⟩ d (acc++[(gK g++(rdK fa++(Bl args++rk)),(Ak ps (encE b)++w).map (λx=>.o x.1),af)]) K t) (hkb:aAH k 4096=true:=by rfl) :
  TrO Γ (⟨none,.call fa args,g,af⟩::r) nv ⟨e,o,n⟩ d acc K t:=by
 subst hds;refine DS (hkb:=hkb) hg hf hΓ (sp:=OY ptr .val enc dec f encR encE) hr hk (c2:=c/\∃ a' b',enc a=enc a'/\f a'=some b') (we:=[]) (wo:=Ak ps (encE b)++w) ?_ ⟨hc,a,b,rfl,hb⟩ h;simp only[AX,Cb hde hb,DX hde hb,Ad];rfl
theorem AaF (a:A) (hg:gOn e g=true) (hf:Aa e fa=some (.clo k caps)) (hΓ:Γ (k+4096*AH (An e args))=some (OY [] .ground enc dec f encR encE)) (hde:∀ a,dec (enc a)=a) (hr:(Af [] 0 (An e args++caps)).run ⟨e,o,n⟩=(c,ds,w,ps))
  (hk:(Af [] 0 (An e args++caps)).rd ⟨e,o,n⟩=rk) (hc:c) (hds:ds=enc a) (hb:f a=some b) (hgr:isGround (encR b)=true)
  (h:TrO Γ r (nv+1) ⟨(dst,encR b)::e,o,n⟩ d (acc++[(gK g++(rdK fa++(Bl args++rk)),[.e dst],af)]) K t) (hkb:aAH k 4096=true:=by rfl) :
  TrO Γ (⟨some dst,.call fa args,g,af⟩::r) nv ⟨e,o,n⟩ d acc K t:=by
 subst hds;refine DS (hkb:=hkb) hg hf hΓ (sp:=OY [] .ground enc dec f encR encE) hr hk (c2:=c/\(∃ a' b',enc a=enc a'/\f a'=some b')/\isGround (encR b)=true/\([]:List (Nat×(Nat×Nat)))=[]) (we:=[(dst,encR b)]) (wo:=[]) ?_ ⟨hc,⟨a,b,rfl,hb⟩,hgr,rfl⟩ h;simp_all[AX,Ad,OY]
theorem FF (a:A) {l:List α} {en:α->D} (hg:gOn e g=true) (hf:Aa e fa=some (.clo k caps)) (hΓ:Γ (k+4096*AH (An e args))=some (OY ptr (.row s ty) enc dec f encR encE)) (hde:∀ a,dec (enc a)=a) (hr:(Af ptr 0 (An e args++caps)).run ⟨e,o,n⟩=(c,ds,w,ps))
  (hk:(Af ptr 0 (An e args++caps)).rd ⟨e,o,n⟩=rk) (hc:c) (hds:ds=enc a) (hb:f a=some b) (hl:encR b= .sl (l.map en))
  (h:TrO Γ r (nv+1) ⟨(dst,.osl dst nv 0 l.length)::e,((dst,some (nv,⟨false,false,s,ty,l.map en⟩))::(Ak ps (encE b)++w))++o,n⟩ d (acc++[(gK g++(rdK fa++(Bl args++rk)),.e dst:: .o dst::(Ak ps (encE b)++w).map (λx=>.o x.1),af)]) K t) (hkb:aAH k 4096=true:=by rfl) :
  TrO Γ (⟨some dst,.call fa args,g,af⟩::r) nv ⟨e,o,n⟩ d acc K t:=by
 subst hds;refine DS (hkb:=hkb) hg hf hΓ (sp:=OY ptr (.row s ty) enc dec f encR encE) hr hk (c2:=c/\(∃ a' b',enc a=enc a'/\f a'=some b')/\(some dst).isSome=true) (we:=[(dst,.osl dst nv 0 l.length)]) (wo:=(dst,some (nv,⟨false,false,s,ty,l.map en⟩))::(Ak ps (encE b)++w)) ?_ ⟨hc,⟨a,b,rfl,hb⟩,rfl⟩ h;simp_all[AX,Ad,AB,OY]
theorem Afg (a:A) (hg:gOn e g=true) (hf:Aa e fa=some (.clo k caps)) (hΓ:Γ (k+4096*AH (An e args))=some (OY ptr (.ptr s ty) enc dec f encR encE)) (hde:∀ a,dec (enc a)=a) (hr:(Af ptr 0 (An e args++caps)).run ⟨e,o,n⟩=(c,ds,w,ps))
  (hk:(Af ptr 0 (An e args++caps)).rd ⟨e,o,n⟩=rk) (hc:c) (hds:ds=enc a) (hb:f a=some b)
  (h:TrO Γ r (nv+1) ⟨(dst,.optr dst nv 0 0)::e,((dst,some (nv,⟨false,true,s,ty,[encR b]⟩))::(Ak ps (encE b)++w))++o,n⟩ d (acc++[(gK g++(rdK fa++(Bl args++rk)),.e dst:: .o dst::(Ak ps (encE b)++w).map (λx=>.o x.1),af)]) K t) (hkb:aAH k 4096=true:=by rfl) :
  TrO Γ (⟨some dst,.call fa args,g,af⟩::r) nv ⟨e,o,n⟩ d acc K t:=by
 subst hds;refine DS (hkb:=hkb) hg hf hΓ (sp:=OY ptr (.ptr s ty) enc dec f encR encE) hr hk (c2:=c/\(∃ a' b',enc a=enc a'/\f a'=some b')/\(some dst).isSome=true) (we:=[(dst,.optr dst nv 0 0)]) (wo:=(dst,some (nv,⟨false,true,s,ty,[encR b]⟩))::(Ak ps (encE b)++w)) ?_ ⟨hc,⟨a,b,rfl,hb⟩,rfl⟩ h;simp_all[AX,Ad,AB,OY]
theorem Akr (hg:gOn e g=true) (hx:An e args=caps) (hc:∀ d∈caps,VF d=true) (h:TrO Γ r (nv+1) ⟨(dst,.clo q caps)::e,o,n⟩ d (acc++[(gK g++Bl args,[.e dst],af)]) K t):TrO Γ (⟨some dst,.mkf q args,g,af⟩::r) nv ⟨e,o,n⟩ d acc K t :=
 Al hg (c:=∀ d∈caps,VF d=true) (we:=[(dst,.clo q caps)]) (wo:=[]) (rd:=Bl args) (by simp[evalOp,Bj,hx,Ad]) (by simp[evalOp,CP]) hc h
end
@[simp] theorem KL (g:Nat):(Ac g=false)↔g<4096:=by
 simp only[Ac];cases hb:aAO 4096 g
 ·simp only[true_iff];by_cases h:g<4096
  ·exact h
  ·rw[aAN (by omega)]at hb;cases hb
 ·have:=aAF hb;simp;omega
@[simp] theorem OM (g:Nat):(Ac g=true)↔4096<=g:=by
 have:=KL g;cases hb:Ac g<;>simp_all<;>omega
section
variable {B α:Type} {e:List (Nat×D)} {o:List (Nat×Ab)} {n np:Nat} {ptr:List (Nat×(Nat×Nat))} {encR:B->D} {encE:B->List D} {b:B} {r0:AQ} {rs:List AQ}
 {ce c c1:Prop} {effs ds:List D} {we w:List (Nat×Ab)} {d0 d1:D} {s ty g:Nat}
theorem Aeg (he:(BH ptr).run ⟨e,o,n⟩=(ce,effs,we)) (hce:ce) (heff:effs=encE b) (hr:(Ef r0).run ⟨e,o,n⟩=(c,d0,w)) (hc:c) (hd:d0=encR b):TrX .ret (Bx ptr .val [r0] encR encE) ⟨e,o,n⟩ (some b):=by
 rintro _ ⟨⟩;refine⟨_,.refl _,?_⟩;simp_all[Ck]
theorem KI (he:(BH ptr).run ⟨e,o,n⟩=(ce,effs,we)) (hce:ce) (heff:effs=encE b) (hr:(Ef r0).run ⟨e,o,n⟩=(c,d0,w)) (hc:c) (hd:d0=encR b):TrX .ret (Bx ptr .ground [r0] encR encE) ⟨e,o,n⟩ (some b):=by
 rintro _ ⟨⟩;refine⟨_,.refl _,?_⟩;simp_all[Ck]
theorem Fe {_q:D->Prop} (h:rs.length≠1) (hk:ce/\effs=encE b/\c/\ .tup ds=encR b/\rs.length≠1) (he:(BH ptr).run ⟨e,o,n⟩=(ce,effs,we)) (hr:(AN rs).run ⟨e,o,n⟩=(c,ds,w)) (kind:Kind) (hkind:kind= .val\/kind= .ground) :
  Ck ⟨ptr,kind,λ_=>True,λ_=>encR b,λ_=>encE b⟩ rs [] ⟨e,o,n⟩:=by
 rcases hkind with rfl|rfl<;>(
  simp only[Ck,he]
  grind)
theorem Sq (he:(BH ptr).run ⟨e,o,n⟩=(ce,effs,we)) (hce:ce) (heff:effs=encE b) (hr:(AN rs).run ⟨e,o,n⟩=(c,ds,w)) (hc:c) (hd: .tup ds=encR b) (hl:rs.length≠1):TrX .ret (Bx ptr .val rs encR encE) ⟨e,o,n⟩ (some b):=by
 rintro _ ⟨⟩;refine⟨_,.refl _,?_⟩;exact Fe (_q:=λ_=>True) hl ⟨hce,heff,hc,hd,hl⟩ he hr _ (.inl rfl)
theorem HM (he:(BH ptr).run ⟨e,o,n⟩=(ce,effs,we)) (hce:ce) (heff:effs=encE b) (hr:(AN rs).run ⟨e,o,n⟩=(c,ds,w)) (hc:c) (hd: .tup ds=encR b) (hl:rs.length≠1):TrX .ret (Bx ptr .ground rs encR encE) ⟨e,o,n⟩ (some b):=by
 rintro _ ⟨⟩;refine⟨_,.refl _,?_⟩;exact Fe (_q:=λ_=>True) hl ⟨hce,heff,hc,hd,hl⟩ he hr _ (.inr rfl)
theorem NF (he:(BH ptr).run ⟨e,o,n⟩=(ce,effs,we)) (hce:ce) (heff:effs=encE b) (hr:(PC r0).run ⟨e,o,n⟩=(c,d0)) (hc:c) (hs:(Ee false s ty d0).run ⟨e,o,n⟩=(c1,d1,g)) (hc1:c1) (hd:d1=encR b) (hw:we.all (λx=>x.1 != g)=true) :
  TrX .ret (Bx ptr (.row s ty) [r0] encR encE) ⟨e,o,n⟩ (some b):=by
 rintro _ ⟨⟩;refine⟨_,.refl _,?_⟩;simp only[Ck,he,hr,hs]
 grind
theorem ND (hr:(PC r0).run ⟨e,o,n⟩=(c,d0)) (hc:c) (hs:(Cw s ty d0).run ⟨e,o,n⟩=(c1,d1,w,g)) (hc1:c1) (hd:d1=encR b) (he:(BH ptr).run ⟨e,o,n⟩=(ce,effs,we)) (hce:ce) (heff:effs=encE b) (hrg:Ac g=false:=by rfl) :
  TrX .ret (Bx ptr (.ptr s ty) [r0] encR encE) ⟨e,o,n⟩ (some b):=by
 rintro _ ⟨⟩;refine⟨_,.refl _,?_⟩;simp_all[Ck]
theorem KJ {cA cB cP:Prop} {dA dB:List D} {dP dq:D} {wA wB wP:List (Nat×Ab)} (hq:q<rs.length) (hl:rs.length≠1) (hA:(AN (rs.take q)).run ⟨e,o,n⟩=(cA,dA,wA)) (hcA:cA) (hB:(AN (rs.drop (q+1))).run ⟨e,o,n⟩=(cB,dB,wB)) (hcB:cB) (hr:(PC (rs.getD q (.t 0))).run ⟨e,o,n⟩=(c,dq)) (hc:c) (hP:(Cw s ty dq).run ⟨e,o,n⟩=(cP,dP,wP,g)) (hcP:cP) (hd: .tup (dA++dP::dB)=encR b) (he:(BH []).run ⟨e,o,n⟩=(ce,effs,we)) (hce:ce) (heff:effs=encE b) :
  TrX .ret (Bx [] (.tupPtr q s ty) rs encR encE) ⟨e,o,n⟩ (some b):=by
 rintro _ ⟨⟩;refine⟨_,.refl _,?_⟩;simp_all[Ck]
end
@[simp] theorem OL (cs:List D):cells (.agg cs)=cs:=rfl
def Gv (e:List (Nat×D)):List (Nat×D)->Prop
 | []=>True
 | (t,d)::r=>(AR e t).getD .top=d/\Gv e r
def Gw (o:List (Nat×Ab)):List (Nat×Ab)->Prop
 | []=>True
 | (g,x)::r=>lkO o g=x/\Gw o r
theorem Gv.get {e:List (Nat×D)}:∀ {E:List (Nat×D)},Gv e E->∀ p∈E,(AR e p.1).getD .top=p.2
 | [],_,p,hp=>by cases hp
 | q::r,h,p,hp=>by
  cases hp with
  | head=>exact h.1
  | tail _ hp=>exact Gv.get h.2 p hp
theorem Gw.get {o:List (Nat×Ab)}:∀ {O:List (Nat×Ab)},Gw o O->∀ p∈O,lkO o p.1=p.2
 | [],_,p,hp=>by cases hp
 | q::r,h,p,hp=>by
  cases hp with
  | head=>exact h.1
  | tail _ hp=>exact Gw.get h.2 p hp
theorem AsV {B:Type} {kind:Kind} {encR:B->D} {encE:B->List D} {t:Option B} {x:Au} (hh:Has τ E O) (hx:∀ id,x≠ .exit id) (h:∀ n,TrX .ret (Bx ptr kind rs encR encE) ⟨E,O,n⟩ t):TrX x (Bx ptr kind rs encR encE) τ t:=λr hr=>by
 obtain⟨n,hh⟩:=hh;obtain⟨τ',h1,h2⟩:=h n r hr;cases x with
 | exit id=>simp_all
 | normal=>exact⟨τ',hh.trans h1,h2⟩
 | ret=>exact⟨τ',hh.trans h1,h2⟩
theorem YX {o:List (Nat×Ab)} {n:Nat} (hE:Gv e E) (hO:Gw o O):Has ⟨e,o,n⟩ E O:=by
 refine⟨n,?_⟩;refine Chg.DB (τ:=⟨E,O,n⟩) [] ⟨?_,?_,?_,aAP _⟩ (.refl _)
 ·intro p hp;cases hp
 ·intro p hp;refine .inl (.inl ?_);have:=hE.get p hp;rw[BJ]at this;exact this
 ·intro p hp;refine .inl ?_;have:=hO.get p hp
  grind [S.gof,Be]
theorem QV {g v q':Nat} (h1:x= .osl g v 0 q) (h2:q=q'):x= .osl g v 0 q':=h2▸h1
section
variable {e E:List (Nat×D)} {o O:List (Nat×Ab)} {n:Nat} {ws:List (Nat×Ab)} {α:Type}
def Iv (e:List (Nat×D)) (o:List (Nat×Ab)) (n:Nat) (ws:List (Nat×Ab)):List (Nat×D)->Prop
 | []=>True
 | (t,d)::r=>Conv ⟨e,o,n⟩ ws ((AR e t).getD .top) d/\Iv e o n ws r
def Iw (e:List (Nat×D)) (o:List (Nat×Ab)) (n:Nat) (ws:List (Nat×Ab)):List (Nat×Ab)->Prop
 | []=>True
 | (g,x)::r=>(lkO (ws++o) g=x\/∃ v p z z',lkO (ws++o) g=some (v,p)/\p.var=true/\p.es=[z]/\x=some (v,{ p with es:=[z'] })/\Conv ⟨e,o,n⟩ ws z z')/\Iw e o n ws r
def FzB (o:List (Nat×Ab)):List (Nat×Ab)->Prop
 | []=>True
 | (g,x)::r=>(∃ v p,lkO o g=some (v,p)/\p.var=false/\x=some (v,{ p with fz:=true }))/\FzB o r
theorem Adz (ws:List (Nat×Ab)) (hw:FzB o ws) (hE:Iv e o n ws E) (hO:Iw e o n ws O):Has ⟨e,o,n⟩ E O:=by
 refine⟨n,?_⟩;refine Chg.DB (τ:=⟨E,O,n⟩) ws ⟨?_,?_,?_,aAP _⟩ (.refl _)
 ·clear hE hO
  induction ws with
  | nil=>intro p hp;cases hp
  | cons q r ih =>
   intro p hp;cases hp with
   | head =>
    obtain⟨v,p,h1,h2,h3⟩:=hw.1
    grind [Be]
   | tail _ hp=>exact ih hw.2 p hp
 ·clear hw hO
  induction E with
  | nil=>simp_all
  | cons q r ih =>
   intro p hp;cases hp with
   | head =>
    have:=hE.1;rw[BJ]at this;exact this
   | tail _ hp=>exact ih hE.2 p hp
 ·clear hw hE
  induction O with
  | nil=>simp_all
  | cons q r ih =>
   intro p hp;cases hp with
   | head =>
    simp only[S.gof,Be];exact hO.1
   | tail _ hp=>exact ih hO.2 p hp
theorem PL (h:x=d):Conv ⟨e,o,n⟩ ws x d:=.inl (.inl h)
theorem Xa (h:x=d):Dk ⟨e,o,n⟩ ws x d:=.inl h
theorem AaM (en:α->D) (h:x= .nils):Dk ⟨e,o,n⟩ ws x (.sl (([]:List α).map en)):=by
 subst h;exact .inr ⟨trivial,rfl,λp hp=>by cases hp⟩
theorem YW {g v s ty:Nat} {fz:Bool} {l:List α} {en:α->D} (h:x= .osl g v 0 q) (hq:q=l.length) (ho:lkO o g=some (v,⟨fz,false,s,ty,l.map en⟩)) (hw:(g,some (v,(⟨true,false,s,ty,l.map en⟩:Own)))∈ws):Dk ⟨e,o,n⟩ ws x (.sl (l.map en)):=by
 subst h;subst hq;refine .inr ⟨?_,?_,?_⟩
 all_goals simp_all[AK,aAE]
theorem Fs {g v s ty:Nat} {fz:Bool} {l:List α} {en:α->D} (h:x= .osl g v i (l.length-i)) (hi:i<=l.length) (ho:lkO o g=some (v,⟨fz,false,s,ty,l.map en⟩)) (hw:(g,some (v,(⟨true,false,s,ty,l.map en⟩:Own)))∈ws):Dk ⟨e,o,n⟩ ws x (.sl ((l.drop i).map en)):=by
 subst h;refine .inr ⟨?_,?_,?_⟩
 all_goals simp_all[AK,aAE]
theorem AaN (h:Dk ⟨e,o,n⟩ ws x d):Conv ⟨e,o,n⟩ ws x d:=.inl h
theorem Adw {cs:List D} (h:x= .agg cs) (hc:Eg ⟨e,o,n⟩ ws cs cs'):Conv ⟨e,o,n⟩ ws x (.agg cs'):=.inr ⟨cs,cs',h,rfl,hc⟩
end
@[simp] theorem Df (en:α->D) (l:List α):aAY l.length (l.map en)=l.map en:=aAE (by simp)
@[simp] theorem OQ (en:α->D) (l:List α) (i:Nat):aAY (l.length-i) (aAw i (l.map en))=(l.drop i).map en:=by
 rw[<- List.map_drop];exact aAE (by simp)
@[simp] theorem Ox (en:α->D) (l:List α) (i:Nat) (y:D):aAY l.length ((l.map en).set i y)=(l.map en).set i y:=aAE (by simp)
theorem Lo (en:α->D) (l:List α):aAY l.length (aAw 0 (l.map en))=l.map en:=Df en l
theorem SP (en:α->D) (l:List α) (h:q=l.length):aAY q (aAw 0 (l.map en))=l.map en:=h▸Df en l
theorem QO (en:α->D) (l:List α) (h:q=l.length):aAY q (l.map en)=l.map en:=h▸Df en l
@[simp] theorem Ow (en:α->D) (l l':List α):aAY (l.length+l'.length) (l.map en++l'.map en)=l.map en++l'.map en:=aAE (by simp)
def cel (d:D) (i:Nat):D:=match d with| .agg cs=>cs.getD i .top| .tup cs=>cs.getD i .top|_=>.top
def uI:D->Int| .int _ n=>n|_=>0
def uBo:D->Bool| .bool b=>b|_=>false
def uL {α:Type} (u:D->α):D->List α| .sl es=>es.map u|_=>[]
abbrev eL {α:Type} (en:α->D) (l:List α):D:=.sl (l.map en)
@[simp] theorem Qb {u:D->α} {en:α->D} (h:∀ a,u (en a)=a) (l:List α):uL u (.sl (l.map en))=l:=by
 simp only[uL,aAt]
 conv=>rhs;rw[<- List.map_id l]
 exact aAb λa _=>h a
open Go.ChangeShapes Go.WideShapes Go.ChangeAt Go.RowKit Go.Deep
def Aaj (W:World):Fz:=λb i=>W.cell? ⟨b,i,none⟩
def Rep (W:World) (ds:List D) (cs:List Value):Prop:=ds.length=cs.length/\(∀ v∈cs,v.oneCell'=true)/\∀ (j:Nat) c v,ds[j]? =some c->cs[j]? =some v->Fro (Aaj W) c v
def Wt {H:Type} (P:Program) (t:TypeId) (d:DataW H):Prop:=∀ w∈d.weights P t,w<=reachBytes
theorem Wt.all {H:Type} {P:Program} {e:TypeId}:∀ {l:List (DataW H)} {i:Nat} {d:DataW H},l[i]? =some d->∀ w∈d.weights P e,w∈aAu P e l
 | x::l,0,d,h,w,hw=>by
  grind [aAu]
 | x::l,i+1,d,h,w,hw=>by
  simp only[aAR]at h;simp only[aAu,aAV];exact .inr (Wt.all h w hw)
theorem Wt.part {P:Program} {t:TypeId} {fs:Array Field} {parts:List (DataW H)} (ht:P.underlying t=some (.struct fs)) (h:Wt P t (.agg parts)) {f:Field} {d:DataW H} (hf:fs[j]? =some f) (hd:parts[j]? =some d):Wt P f.type d:=by
 intro w hw;refine h w ?_;simp only[aAn,ht];exact aAz (j:=j) (by simp[hf]) hd w hw
theorem Wt.arg {P:Program} {ts us:List TypeId} {ds gs:List (DataW H)} (h:(DataW.weightsEach P (ts++us) (ds++gs)).all (· <=reachBytes)=true) {t:TypeId} {d:DataW H} (ht:ts[j]? =some t) (hd:ds[j]? =some d):Wt P t d:=by
 intro w hw;have h1:=(aAA.1 ht).1;have h2:=(aAA.1 hd).1;have:=aAU.1 h w (aAz (j:=j) (by grind) (by grind) w hw)
 simp_all
structure Rd (P:Program) (W:World) {T:Type} (t:TypeId) (en:T->D) (Q:T->Prop):Prop where
 rd:∀ {H:Type} {enc:TypeId×Value->H} (n:Nat) (cs:List Value) (x:DataW H×List MemPlace),aAd enc P W 0 (λ_=>true) true n t cs=some x->Wt P t x.1->∃ a,Q a/\Rep W (cells (en a)) cs
def Sw (k:IntKind) (n:Int):Prop:=k.min<=n/\n<=k.max
def Ayw {T:Type} (_:T):Prop:=True
def qL {T:Type} (q:T->Prop) (l:List T):Prop:=l.length<=140737488355328/\∀ x∈l,q x
section
variable {P:Program} {W:World} {t e:TypeId}
theorem Rep.one (h1:v.oneCell'=true) (h:Fro (Aaj W) d v):Rep W [d] [v]:=by
 refine⟨rfl,λx hx=>?_,λj c x hc hx=>?_⟩
 all_goals grind
theorem Rd.int {k:IntKind} (ht:P.underlying t=some (.int k)):Rd P W t (D.int k) (λn=>k.min<=n/\n<=k.max):=by
 refine⟨λn cs x h hw=>?_⟩
 cases n with
 | zero=>simp[aAd]at h
 | succ n =>
  simp only[aAd,ht]at h;split at h<;>rename_i h1<;>try (cases h1;done)
  all_goals try (cases h;done)
  cases h1;split at h
  ·rename_i hc;obtain⟨rfl,hw⟩:=hc;exact⟨_,by grind [Lit.wf],Rep.one rfl (.int _ _)⟩
  ·cases h
theorem Rd.bool (ht:P.underlying t=some .bool):Rd P W t D.bool (λ_=>True):=by
 refine⟨λn cs x h hw=>?_⟩
 cases n with
 | zero=>simp[aAd]at h
 | succ n =>
  simp only[aAd,ht]at h;split at h<;>rename_i h1<;>try (cases h1;done)
  all_goals try (cases h;done)
  exact⟨_,trivial,Rep.one rfl (.bool _)⟩
theorem Rd.str (ht:P.underlying t=some .string):Rd P W t D.str (λs=>s.length<=140737488355328):=by
 refine⟨λn cs x h hw=>?_⟩
 cases n with
 | zero=>simp[aAd]at h
 | succ n =>
  simp only[aAd,ht]at h;split at h<;>rename_i h1<;>try (cases h1;done)
  all_goals try (cases h;done)
  rename_i s;split at h
  ·cases h;have:=hw s.data.toList.length (by simp[aAn])
   simp only[reachBytes]at this;exact⟨s.data.toList,aAr this (by decide),Rep.one rfl (by have:=Fro.str (F:=Aaj W) s.data.toList;omega)⟩
  ·cases h
theorem Ha {a:Addr} {n:Nat} {cs:List Value} (h:W.cells? 0 a n=some cs):cs.length=n/\∀ i,i<n->W.cell? (a.add i)=cs[i]?:=by
 unfold World.cells? at h;rw[if_pos (aAf _)]at h;have hl:=mapM_some_length h;simp only[List.length_range]at hl;exact⟨hl,λi hi=>mapM_some_get h i i (by simp[hi])⟩
theorem LI {a:Addr} (h:W.cell? a=some v):a=⟨a.block,a.off,none⟩:=by
 unfold World.cell? at h;split at h
 ·split at h
  ·cases h
  ·rename_i hs;obtain⟨b,o,s⟩:=a;simp_all
 ·cases h
theorem Rd.slice {T:Type} [Inhabited T] {en:T->D} {Q:T->Prop} (ht:P.underlying t=some (.slice e)) (hs:0<P.cellsOf e) (hb:aAH 0 (P.bytesOf e)=true) (hc:∀ a,(cells (en a)).length=P.cellsOf e) (he:Rd P W e en Q) :
  Rd P W t (eL en) (λl=>l.length<=140737488355328/\∀ x∈l,Q x):=by
 refine⟨λn cs x h hw=>?_⟩
 rcases DataW.trod_slice ht h with⟨rfl,_⟩|⟨a,len,cap,elems,rest,m,_,rfl,rfl,_,hl,hm,hlen,hel,_,_⟩
 ·exact⟨[],⟨aAf _,λx hx=>by cases hx⟩,Rep.one rfl (.sl0 none 0)⟩
 ·have each:∀ i,∃ p:T×List Value,i<len->W.cells? 0 (a.add (i*P.cellsOf e)) (P.cellsOf e)=some p.2/\Q p.1/\Rep W (cells (en p.1)) p.2:=by
   intro i
   by_cases hi:i<len
   ·have h1:=hel i hi;have h2:i<elems.length:=by omega
    rw[aAC h2,aA]at h1;obtain⟨cs,h3,h4⟩:=h1
    obtain⟨q,hq,hr⟩:=he.rd m cs _ h4 λw hw'=>hw w (by
     simp only[aAn,ht,aAm,aAV]
     exact .inr (.inl (Wt.all (i:=i) (by simp_all) w hw')))
    exact⟨(q,cs),λ_=>⟨h3,hq,hr⟩⟩
   ·exact⟨(default,[]),λh=>absurd h hi⟩
  obtain⟨f,hf⟩:=Classical.axiomOfChoice each;have hes:((aAh len).map λi=>(f i).1).length=len:=by simp
  have hreach:len<=140737488355328:=by
   have h1:=hw ((elems.length+rest.length)*P.bytesOf e) (by grind [aAn])
   have h2:0<P.bytesOf e:=by simp_all
   have h3:elems.length+rest.length<=(elems.length+rest.length)*P.bytesOf e:=Nat.le_mul_of_pos_right _ h2;simp only[reachBytes]at h1;omega
  refine⟨(aAh len).map λi=>(f i).1,⟨by omega,λx hx=>?_⟩,Rep.one rfl ?_⟩
  ·grind
  ·by_cases h0:len=0
   ·subst h0;exact .sl0 _ _
   ·have hget:∀ (i j:Nat),i<len->j<P.cellsOf e->W.cell? ((a.add (i*P.cellsOf e)).add j)=(f i).2[j]?:=λi j hi hj=>(Ha (hf i hi).1).2 j hj
    have hlenc:∀ i,i<len->(f i).2.length=P.cellsOf e:=λi hi=>(Ha (hf i hi).1).1
    have ha:a=⟨a.block,a.off,none⟩:=by
     have h1:=hget 0 0 (by omega) hs
     have h2:0<(f 0).2.length:=by grind
     rw[aAC h2]at h1;simp only[Nat.zero_mul,Addr.add,if_true]at h1;exact LI h1
    generalize a.block=b at ha;generalize a.off=o at ha;subst ha;have hidx:∀ (i:Nat) x,(((aAh len).map λi=>(f i).1).map en)[i]? =some x->i<len/\x=en (f i).1:=by
     grind
    have key:∀ (i j:Nat) x c,(((aAh len).map λi=>(f i).1).map en)[i]? =some x->(cells x)[j]? =some c->i<len/\∃ v,(f i).2[j]? =some v/\Aaj W b (o+i*P.cellsOf e+j)=some v/\v.oneCell'=true/\Fro (Aaj W) c v:=by
     intro i j x c hx hj;obtain⟨hi,rfl⟩:=hidx i x hx;obtain⟨_,_,r1,r2,r3⟩:=hf i hi;have hjl:j<(cells (en (f i).1)).length:=(aAA.1 hj).1;have hjl':j<(f i).2.length:=by omega
     have hv:=aAC hjl';refine⟨hi,_,hv,?_,r2 _ (List.getElem_mem hjl'),r3 j c _ hj hv⟩;have:=hget i j hi (by grind)
     rw[Bv,Bv,hv]at this;exact this
    have:=Fro.sl (F:=Aaj W) (((aAh len).map λi=>(f i).1).map en) b o cap (P.cellsOf e) (λi j=>(f i).2.getD j undef) (by grind)
     (λx hx=>by
      grind)
     (λi j x c hx hj=>by
      grind)
     (λi j x c hx hj=>by
      obtain⟨_,v,h1,_,h3,_⟩:=key i j x c hx hj
      rw[aAa,h1];exact h3)
     (λi j x c hx hj=>by
      obtain⟨_,v,h1,_,_,h4⟩:=key i j x c hx hj
      rw[aAa,h1];exact h4)
    grind
theorem Rep.append {ds':List D} {cs cs':List Value} (h:Rep W ds cs) (h':Rep W ds' cs'):Rep W (ds++ds') (cs++cs'):=by
 obtain⟨h1,h2,h3⟩:=h;obtain⟨k1,k2,k3⟩:=h';refine⟨by simp_all,λv hv=>(aAV.1 hv).elim (h2 v) (k2 v),λj c v hc hv=>?_⟩
 grind
theorem Rd.arg {T:Type} {en:T->D} {Q:T->Prop} (h:Rd P W t en Q) (hagg:∀ a,(match P.underlying t with|some (.struct _)|some (.array _ _)=>True|_=>False)->∃ cs,en a= .agg cs) (hone:∀ a,¬ (match P.underlying t with|some (.struct _)|some (.array _ _)=>True|_=>False)->cells (en a)=[en a]) {enc:TypeId×Value->H} {b0:Nat} {d:DataW H} {p:List MemPlace} (hv:aAv P W .any b0 t v) (hr:DataW.Trod enc P W 0 (λ_=>true) true t v d p) (hw:Wt P t d):∃ a,Q a/\Fro (Aaj W) (en a) v:=by
 obtain⟨n,hn⟩:=hr;obtain⟨a,hq,r1,r2,r3⟩:=h.rd n _ _ hn hw;refine⟨a,hq,?_⟩
 by_cases hs:(match P.underlying t with|some (.struct _)|some (.array _ _)=>True|_=>False)
 ·obtain⟨cs,hcs⟩:=hagg a hs;have hva:∃ C,v= .agg C:=by
   grind [aAv]
  obtain⟨C,rfl⟩:=hva;rw[hcs]at r1 r3 ⊢;simp only[Value.cells]at r1 r2 r3;have:=Fro.agg (F:=Aaj W) cs C.toList r1 r2 r3;omega
 ·have h1:=hone a hs;have hva:∃ x,v.cells.toList=[x]/\v=x:=by
   have hl:v.cells.toList.length=1:=by simp_all
   cases v with
   | agg C =>
    exfalso;unfold aAv at hv;split at hv
    all_goals simp_all[Cell.okWide,Cell.ok]
   | _=>exact⟨_,rfl,rfl⟩
  obtain⟨x,hx,rfl⟩:=hva;rw[h1]at r3;exact r3 0 _ _ rfl (by rw[hx];rfl)
end
open Go.ChangeShapes Go.WideShapes Go.ChangeAt Go.RowKit
section
variable {H:Type} {enc:TypeId×Value->H} {P:Program} {W W':World}
theorem Mc (hb:∀ b,b<W.heap.size->W'.heap[b]? =W.heap[b]?) {a:Addr} (h:a.block<W.heap.size):W'.cell? a=W.cell? a:=by
 grind [World.cell?]
theorem Ky (hb:∀ b,b<W.heap.size->W'.heap[b]? =W.heap[b]?) {a:Addr} (h:a.block<W.heap.size):W'.frozen? a=W.frozen? a:=by
 grind [World.frozen?]
theorem Mr (hb:∀ b,b<W.heap.size->W'.heap[b]? =W.heap[b]?) {p:MemPlace} (h:p.block<W.heap.size):W.sameAt W' p:=by
 cases p with
 | cell b off=>exact Mc hb h
 | map b=>exact hb b h
theorem Fm {sp:Nat->Bool} (K:Kids P (· <P.types.size)) (hz:∀ t e,t<P.types.size->P.underlying t=some (.slice e)->0<P.cellsOf e):∀ {ts:List TypeId} {vs:List Value} {ds:List (DataW H)} {ps:List MemPlace},(∀ t∈ts,t<P.types.size) ->
  aAo enc P W 0 (λ_=>true) true ts vs ds ps->(∀ p∈ps,W.sameAt W' p)->(∀ p∈ps,sp p.block=true)->aAo enc P W' 0 sp true ts vs ds ps
 | [],[],[],_,_,h,_,_=>h
 | _::_,_::_,_::_,_,hT,⟨p,q,⟨n,h1⟩,h2,e⟩,hs,hsp=>by
  subst e
  exact⟨p,q,⟨n,DataW.trod_respare K hz n _ _ _ (hT _ (aAm.2 (Or.inl rfl))) (DataW.trod_carry n _ _ _ h1 (λx hx=>hs x (List.mem_append_left _ hx))) (λx hx=>hsp x (List.mem_append_left _ hx))⟩,
   Fm K hz (λt ht=>hT t (aAm.2 (Or.inr ht))) h2 (λx hx=>hs x (aBA _ hx)) (λx hx=>hsp x (aBA _ hx)),rfl⟩
 | [],[],_::_,_,_,h,_,_=>h.elim
 | [],_::_,_,_,_,h,_,_=>h.elim
 | _::_,[],_,_,_,h,_,_=>h.elim
 | _::_,_::_,[],_,_,h,_,_=>h.elim
theorem It {f:Func} {apart fresh handsOn again:Bool} {args:Array Value} {ds gs:List (DataW H)} (hW:DataW.Whole enc P f.params.toList s.vars apart W args.toList ds gs before) (hvs:s.vars=[]) (K:Kids P (· <P.types.size)) (hz:∀ t e,t<P.types.size->P.underlying t=some (.slice e)->0<P.cellsOf e) (hts:∀ t∈f.params.toList,t<P.types.size) (hres:∀ (b:Nat) (sp:Nat->Bool) (hd:Bool),aAo enc P W' b sp hd f.resultTypes.toList (v.resultList f.resultTypes.size) (s.fn H (ds++gs)).results []) (hargs:(s.fn H (ds++gs)).args=ds) (hvars:(s.fn H (ds++gs)).vars=[]) (hos:W'.os=W.os) (hout:W'.output=W.output) (hb:∀ b,b<W.heap.size->W'.heap[b]? =W.heap[b]?) (hok:∀ (j:Nat) (t:TypeId) (r:Value),f.resultTypes[j]? =some t->(v.resultList f.resultTypes.size)[j]? =some r->aAv P W' .any 0 t r) :
  s.post enc P f apart fresh handsOn again W args v W':=by
 have hW':=hW;obtain⟨p,q,hA,hV,e,hzz,hn⟩:=hW;rw[hvs]at hV;obtain⟨rfl,rfl⟩:=trodVars_none hV;subst e;simp only[aAx]at hW' hn hzz;have hlt:∀ x∈p,x.block<W.heap.size:=hW'.lt;have hargs':∀ sp:Nat->Bool,(∀ x∈p,sp x.block=true)->aAo enc P W' 0 sp true f.params.toList args.toList (s.fn H (ds++[])).args p:=by
  grind [Fm,Mr]
 have hvars':∀ sp:Nat->Bool,DataW.TrodVars enc P W' sp s.vars (s.fn H (ds++[])).vars []:=by
  intro sp;rw[hvs,hvars];exact(rfl:([]:List MemPlace)=[])
 have hold:∀ x∈p,(λb=>decide (b<W.heap.size)) x.block=true:=λx hx=>by simp_all
 refine⟨ds,[],p,[],p,[],hW',hres _ _ _,hargs' _ hold,hvars' _,⟨hos,hout,λi hi=>?_⟩,λ_=>?_⟩
 ·grind
 ·refine⟨hok,_,_,([]++p)++[],⟨[]++p,[],trodAll_append (hargs' _ (λ_ _=>rfl)) (hres _ _ _),hvars' _,rfl,?_,?_⟩,?_⟩
  ·intro b off hp;have hp':MemPlace.cell b off∈p:=by simp_all
   rw[Ky hb (hlt _ hp')];exact hzz b off hp'
  all_goals simp_all
theorem ArL {A:Type} {enc0:A->List D} {dec0:List D->A} {f:A->Option Bool} {encR:Bool->D} {encE:Bool->List D} (hspec:OW P k (OY [] .ground enc0 dec0 f encR encE)) (hde:∀ a,dec0 (enc0 a)=a) (hR:encR true= .bool true) {apart fresh handsOn again:Bool} {args:Array Value} {ds gs:List (DataW H)} (hW:DataW.Whole enc P fn.params.toList s.vars apart W args.toList ds gs before) (hvs:s.vars=[]) (hl:laidOutB P=true) (hm:mapsRowed P=true) (hz:((aAh P.types.size).all λt=>match P.underlying t with|some (.slice e)=>decide (0<P.cellsOf e)|_=>true)=true) (hts:fn.params.toList.all (λt=>decide (t<P.types.size))=true) {tb:TypeId} (hrt:fn.resultTypes= #[tb]) (htb:P.underlying tb=some .bool) (hfn:∀ ds:List (DataW H),ds.length=fn.params.size->s.fn H ds={ results:=[.lit (.bool true)],args:=ds,vars:=[] }) (hlen:ds.length=fn.params.size) (hglob:Afr P (Aaj W)) (hread:∃ a,BX (Aaj W) W [] 0 (enc0 a) args.toList []/\f a=some true) :
  Calls P k args W λe W'=>∃ v,e= .returned v/\s.post enc P fn apart fresh handsOn again W args v W':=by
 obtain⟨a,hA,hfa⟩:=hread;have hgs:gs=[]:=by
  obtain⟨p,q,_,hV,_⟩:=hW
  grind [trodVars_none]
 subst hgs;have hF:Fok (Aaj W) W:=λb i x h=>h
 have hfin:∀ b i x,Aaj W b i=some x->b<W.heap.size:=by
  grind [Aaj,World.cell?]
 have h:=(hspec (Aaj W) hglob).2.2.1 rfl rfl W (Aaj W) (enc0 a) args.toList [] (Ag.refl _) hF hfin hA ⟨a,true,rfl,hfa⟩;have e0:args.toList.toArray=args:=by simp
 rw[e0]at h;refine h.mono λe W' hq=>?_
 obtain⟨v,F',_,_,rfl,_,_,hst,hres,_⟩:=hq;have hv:v= .bool true:=by
  have h1:Fro F' ((OY [] .ground enc0 dec0 f encR encE).res (enc0 a)) v:=hres;rw[Cb hde hfa,hR]at h1;cases h1;rfl
 subst hv;refine⟨_,rfl,It hW hvs (kids_rows hl hm) (slices_full_of P hz) (λt ht=>by grind) ?_ ?_ ?_ hst.os hst.output (λb hb=>hst.block b hb (λ⟨_,hm,_⟩=>by cases hm)) ?_⟩
 ·intro b sp hd;rw[aAx,hfn ds hlen,hrt];exact trodAll_cons_mk (p:=[]) (p':=[]) (shut_bool htb true) trodAll_mk0
 ·simp_all
 ·simp_all
 ·exact ok_one hrt rfl (okWide_bool_mk htb true)
end
abbrev eR {α:Type} (s ty:Nat) (en:α->D) (l:List α):D:=.row s ty (l.map en)
def uR {α:Type} (u:D->α):D->List α| .row _ _ es=>es.map u|_=>[]
@[simp] theorem OO {u:D->α} {en:α->D} (h:∀ a,u (en a)=a) (s ty:Nat) (l:List α):uR u (.row s ty (l.map en))=l:=by
 simp only[uR,aAt]
 conv=>rhs;rw[<- List.map_id l]
 exact aAb λa _=>h a
theorem Abf {l:List α} {en:α->D} (h:∀ q,Az (en q)=true):∀ e∈l.map en,Az e=true:=λe he=>by
 grind
section
variable {Γ:Aq} {X:Type} {K:KR X} {t:Option X} {e:List (Nat×D)} {o:List (Nat×Ab)} {n nv:Nat} {d:Bool} {acc:List Cn}
 {r:List As} {dst:Nat} {g:Option (Nat×Bool)} {af:List Nat} {α:Type}
variable {x y:Arg} {v w:D} {k k':IntKind} {a b:Int} {s ty gi vi ii off m:Nat} {fz var:Bool} {es es':List D} {z z':D} {l l':List α} {en:α->D}
theorem TD (hg:gOn e g=true) (hx:Aa e x=some (.optr gi vi i off)) (hy:Aa e y=some v) (hw:strip v=(true,v)) (ho:lkO o gi=some (vi,⟨false,var,s,ty,es⟩)) (hr:(AF var (cells v)).run ⟨e,o,n⟩=(c,cs',wo)) (hrd:(AF var (cells v)).rd ⟨e,o,n⟩=rk) (hc:c) (hz:es[i]? =some z) (hk:known v=true) (hl:(cells v).length=m) (hb:aAO (off+m) (cells z).length=true) (hes:es.set i (Qu z off cs')=es') (hwo:wo.all (λx=>x.1 != gi)=true) (h:TrO Γ r (nv+1) ⟨e,(gi,some (vi,⟨false,var,s,ty,es'⟩))::(wo++o),n⟩ d (acc++[(gK g++(rdK x++(rdK y++(.o gi::rk))),.o gi::wo.map (λx=>.o x.1),af)]) K t) (hrg:Ac gi=true:=by rfl) :
  TrO Γ (⟨none,.st m x y,g,af⟩::r) nv ⟨e,o,n⟩ d acc K t:=by
 have hb':=aAF hb;obtain⟨hi',rfl⟩:=aAA.1 hz;have hgd:es.getD i .top=es[i]:=by simp[hi']
 refine Al hg (c:=True) (we:=[]) (wo:=(gi,some (vi,⟨false,var,s,ty,es'⟩))::wo) (rd:=rdK x++(rdK y++(Key.o gi::rk))) ?_ ?_ trivial (by simp_all)
 ·simp only[evalOp,R.run_bind,AD,aAB,hx,hy,hw,EP,R.Bm,Be,ho,hrg,if_true,R.AM,hr,hgd,hes]
  grind
 simp_all[evalOp,EP]
theorem My {s0 ty0:Nat} {es0 es0':List D} (l:List α) (en:α->D) (hg:gOn e g=true) (hx:Aa e x=some (.optr gi vi i off)) (ho:lkO o gi=some (vi,⟨false,var,s0,ty0,es0⟩)) (hz:es0[i]? =some z) (hb:aAO (off+1) (cells z).length=true) (hv:PD (cells z) off 1 false= .row s ty (l.map en)) (hes:es0.set i (Qu z off [.hole (4096+dst) nv l.length])=es0') (h:TrO Γ r (nv+1) ⟨(dst,.osl (4096+dst) nv 0 l.length)::e,(4096+dst,some (nv,⟨false,false,s,ty,l.map en⟩))::(gi,some (vi,⟨false,var,s0,ty0,es0'⟩))::o,n⟩ d (acc++[(gK g++(rdK x++[.o gi]),[.e dst,.o (4096+dst),.o gi],af)]) K t) (hrg:Ac gi=true:=by rfl) (hne:aAM gi (4096+dst)=false:=by rfl) :
  TrO Γ (⟨some dst,.ld 1 false x,g,af⟩::r) nv ⟨e,o,n⟩ d acc K t:=by
 obtain⟨hi,rfl⟩:=aAA.1 hz;have hb':=aAF hb;have hgd:es0.getD i .top=es0[i]:=by simp[hi]
 have hne':gi≠4096+dst:=λe=>by simp_all
 refine Al hg (c:=True) (we:=[(dst,.osl (4096+dst) nv 0 l.length)]) (wo:=[(4096+dst,some (nv,⟨false,false,s,ty,l.map en⟩)),(gi,some (vi,⟨false,var,s0,ty0,es0'⟩))]) (rd:=rdK x++[Key.o gi]) ?_ ?_ trivial h
 ·simp only[evalOp,R.run_bind,AD,aAB,hx,strip,R.Bm,Be,ho,Ad,hgd,hv,hrg];simp_all
 ·simp only[evalOp,R.BO,AD,Ev,aAB,hx,strip,R.EN,Be,ho,hgd,hv,hrg];simp
theorem Agt {nm u s0 ty0:Nat} {es0:List D} (hg:gOn e g=true) (hx:Aa e x=some (.optr gi vi i 0)) (ho:lkO o gi=some (vi,⟨false,var,s0,ty0,es0⟩)) (hz:es0[i]? =some (.hole nm u q)) (h:TrO Γ r (nv+1) ⟨(dst,.osl nm u 0 q)::e,o,n⟩ d (acc++[(gK g++(rdK x++[.o gi]),[.e dst],af)]) K t) (hrg:Ac gi=true:=by rfl) :
  TrO Γ (⟨some dst,.ld 1 false x,g,af⟩::r) nv ⟨e,o,n⟩ d acc K t:=by
 obtain⟨hi,he⟩:=aAA.1 hz;have hgd:es0.getD i .top= .hole nm u q:=by simp_all
 refine Al hg (c:=True) (we:=[(dst,.osl nm u 0 q)]) (wo:=[]) (rd:=rdK x++[Key.o gi]) ?_ ?_ trivial h
 ·simp only[evalOp,R.run_bind,AD,aAB,hx,strip,R.Bm,Be,ho,Ad,hgd,hrg];simp[hi,cells,PD]
 ·simp only[evalOp,R.BO,AD,Ev,aAB,hx,strip,R.EN,Be,ho,hgd,hrg];simp[cells,PD]
theorem Aqn {s0 ty0:Nat} {l:List (List α)} {q:List α} (en:α->D) (hg:gOn e g=true) (hx:Aa e x=some (.optr gi vi i 0)) (ho:lkO o gi=some (vi,⟨false,false,s0,ty0,l.map (eR s ty en)⟩)) (hi:l[i]? =some q) (h:TrO Γ r (nv+1) ⟨(dst,.osl (4096+dst) nv 0 q.length)::e,(4096+dst,some (nv,⟨false,false,s,ty,q.map en⟩))::(gi,some (vi,⟨false,false,s0,ty0,(l.map (eR s ty en)).set i (.hole (4096+dst) nv q.length)⟩))::o,n⟩ d (acc++[(gK g++(rdK x++[.o gi]),[.e dst,.o (4096+dst),.o gi],af)]) K t) (hrg:Ac gi=true:=by rfl) (hne:aAM gi (4096+dst)=false:=by rfl) :
  TrO Γ (⟨some dst,.ld 1 false x,g,af⟩::r) nv ⟨e,o,n⟩ d acc K t :=
 My (i:=i) (z:=eR s ty en q) q en hg hx ho (by simp[hi]) rfl rfl rfl h hrg hne
theorem ZQ {es:List D} (hq:es.length=q) (hg:gOn e g=true) (hx:Aa e x=some (.osl gi vi 0 q)) (hy:Aa e y=some (.int k a)) (ho:lkO o gi=some (vi,⟨fz,false,s,ty,es⟩)) (hi:0<=a/\a<q) (h:TrO Γ r (nv+1) ⟨(dst,.optr gi vi a.toNat 0)::e,o,n⟩ d (acc++[(gK g++(rdK x++(rdK y++[.o gi])),[.e dst],af)]) K t) :
  TrO Γ (⟨some dst,.ixA s x y,g,af⟩::r) nv ⟨e,o,n⟩ d acc K t:=by
 subst hq;refine Al hg (c:=True) (we:=[(dst,.optr gi vi a.toNat 0)]) (wo:=[]) (rd:=rdK x++(rdK y++[Key.o gi])) ?_ (by simp_all[evalOp,strip]) trivial h
 simp only[evalOp,R.run_bind,AD,aAB,hx,hy,strip,R.Bm,Be,ho,R.AM,Ad];simp_all
theorem Agu {g' v' m s0 ty0:Nat} {l:List (List α)} {q q':List α} {es:List D} (en:α->D) (hg:gOn e g=true) (hx:Aa e x=some (.optr gi vi i 0)) (hy:Aa e y=some (.osl g' v' 0 m)) (ho:lkO o gi=some (vi,⟨false,false,s0,ty0,es⟩)) (hes:es=l.map (eR s ty en)\/∃ p u w,es=(l.map (eR s ty en)).set i (.hole p u w)) (hi:l[i]? =some q) (hr:(AF false [.osl g' v' 0 m]).run ⟨e,o,n⟩=(c,cs',wo)) (hrd:(AF false [.osl g' v' 0 m]).rd ⟨e,o,n⟩=rk) (hc:c) (hcs:cs'=[eR s ty en q']) (hwo:wo.all (λx=>x.1 != gi)=true) (h:TrO Γ r (nv+1) ⟨e,(gi,some (vi,⟨false,false,s0,ty0,(l.set i q').map (eR s ty en)⟩))::(wo++o),n⟩ d (acc++[(gK g++(rdK x++(rdK y++(.o gi::rk))),.o gi::wo.map (λx=>.o x.1),af)]) K t) (hrg:Ac gi=true:=by rfl) :
  TrO Γ (⟨none,.st 1 x y,g,af⟩::r) nv ⟨e,o,n⟩ d acc K t:=by
 subst hcs;obtain⟨hl,_⟩:=aAA.1 hi;have hlen:i<es.length:=by grind
 have hset:es.set i (eR s ty en q')=(l.set i q').map (eR s ty en):=by
  rcases hes with rfl|⟨p,u,w,rfl⟩<;>simp[aAg]
 have hz:es[i]? =some es[i]:=by simp[hlen]
 have hc1:(cells es[i]).length=1/\Qu es[i] 0 [eR s ty en q']=eR s ty en q':=by
  grind [cells,Qu]
 exact TD (i:=i) (off:=0) (m:=1) (z:=es[i]) hg hx hy rfl ho hr hrd hc hz rfl rfl (by simp_all) (by simp_all) hwo h hrg
theorem Aqm {c':Prop} {new old:List D} {rk':List Key} (l l':List α) (en:α->D) (hg:gOn e g=true) (hx:Aa e x=some v) (hy:Aa e y=some w) (hvw:strip v=(true,v)) (hww:strip w=(true,w)) (hv:(view w).run ⟨e,o,n⟩=(c,new)) (hvr:(view w).rd ⟨e,o,n⟩=rk) (hc:c) (hn:new=l'.map en) (ht:(target s ty v).run ⟨e,o,n⟩=(c',old,wo,true)) (htr:(target s ty v).rd ⟨e,o,n⟩=rk') (hc':c') (ho:old=l.map en) (hs:∀ q,(cells (en q)).length=s) (hby:aAO bytes 65536=true) (hl:l.length+l'.length<=16777216) (hpl:∀ q,Az (en q)=true) (h:TrO Γ r (nv+1) ⟨(dst,.osl (4096+dst) nv 0 (l++l').length)::e,(4096+dst,some (nv,⟨false,false,s,ty,(l++l').map en⟩))::(wo++o),n⟩ d (acc++[(gK g++(rdK x++(rdK y++(rk++rk'))),[.e dst,.o (4096+dst)]++wo.map (λx=>.o x.1),af)]) K t) :
  TrO Γ (⟨some dst,.app s ty bytes x y,g,af⟩::r) nv ⟨e,o,n⟩ d acc K t:=by
 have hb':=aAF hby;subst hn;subst ho;refine Al hg (c:=True) (we:=[(dst,.osl (4096+dst) nv 0 (l++l').length)]) (wo:=(4096+dst,some (nv,⟨false,false,s,ty,(l++l').map en⟩))::wo) (rd:=rdK x++(rdK y++(rk++rk'))) ?_ ?_ trivial (by simp_all)
 ·simp only[evalOp,R.run_bind,AD,aAB,hx,hy,hvw,hww,source,hv,ht,R.run_pure,Ad,CH,nmR,cond_true];have hall:∀ q∈l.map en++l'.map en,Az q=true:=by
   grind
  simp_all
 grind [evalOp,R.BO,AD,Ev,source,R.Ew]
theorem FE (hg:gOn e g=true) (hx:Aa e x=some (.osl gi vi 0 q)) (ho:lkO o gi=some (ii,⟨false,var,s,ty,es⟩)) (h:TrO Γ r (nv+1) ⟨(dst,.osl gi vi 0 q)::e,o,n⟩ d (acc++[(gK g++(rdK x++[.o gi]),[.e dst],af)]) K t) (hrg:Ac gi=true:=by rfl) :
  TrO Γ (⟨some dst,.asg x (some (s',ty')),g,af⟩::r) nv ⟨e,o,n⟩ d acc K t:=by
 refine Al hg (c:=True) (we:=[(dst,.osl gi vi 0 q)]) (wo:=[]) (rd:=rdK x++[Key.o gi]) ?_ ?_ trivial h
 ·simp only[evalOp,R.run_bind,Bf,aAB,hx,R.Bm,Be,ho,aAj,if_false,R.AM,hrg,if_true,Ad]
 simp_all[evalOp]
theorem Vz (hg:gOn e g=true) (hx:Aa e x=some (.int k a)) (hy:Aa e y=some (.int k' a)) (hl:0<=a/\a<=16777216) (hby:aAO bytes 65536=true) (h:TrO Γ r (nv+1) ⟨(dst,.osl dst nv 0 (aAL a.toNat ([]:List α)).length)::e,(dst,some (nv,⟨false,false,s,ty,(aAL a.toNat ([]:List α)).map (λ_=>.nils)⟩))::o,n⟩ d (acc++[(gK g++(rdK x++rdK y),[.e dst,.o dst],af)]) K t) :
  TrO Γ (⟨some dst,.mkS s ty bytes .nils x y,g,af⟩::r) nv ⟨e,o,n⟩ d acc K t:=by
 have:=aAF hby;exact Al hg (c:=True) (we:=[(dst,.osl dst nv 0 (aAL a.toNat ([]:List α)).length)]) (wo:=[(dst,some (nv,⟨false,false,s,ty,(aAL a.toNat ([]:List α)).map (λ_=>.nils)⟩))]) (rd:=rdK x++rdK y) (by simp_all[evalOp,Ad,AB,strip]) (by simp_all[evalOp,strip]) trivial h
end
section
variable {e E:List (Nat×D)} {o O:List (Nat×Ab)} {n:Nat} {α:Type} {g v s ty:Nat} {var:Bool} {es es':List D} {z:D}
theorem CZ (hw:Rw ⟨e,o,n⟩ τ) (h:Has τ E O):Has ⟨e,o,n⟩ E O:=h.imp λ_ h=>.rw hw h
theorem HY {off g' v' m:Nat} {l:List α} {en:α->D} {c:D} (ho:lkO o g=some (v,⟨false,var,s,ty,es⟩)) (hz:es[i]? =some z) (hc:(cells z)[off]? =some c) (hh:c= .hole g' v' m\/(c= .osl g' v' 0 m/\var=true)) (ho':lkO o g'=some (v',⟨false,false,s',ty',l.map en⟩)) (hm:m=l.length) (hp:∀ q,Az (en q)=true) (hes:es.set i (Qu z off [.row s' ty' (l.map en)])=es') (h:Has ⟨e,(g,some (v,⟨false,var,s,ty,es'⟩))::(g',none)::o,n⟩ E O) (hrg:Ac g=true:=by rfl) (hne:aAM g g'=false:=by rfl):Has ⟨e,o,n⟩ E O:=by
 obtain⟨hi,rfl⟩:=aAA.1 hz;have hgd:es.getD i .top=es[i]:=by simp[hi]
 have hne':g≠g':=λe=>by simp_all
 subst hm
 have:=Rw.close (σ:=⟨e,o,n⟩) g v i off g' v' l.length ⟨false,var,s,ty,es⟩ ⟨false,false,s',ty',l.map en⟩ c (by simp_all) hrg rfl hi (by simp_all) hh (by simp_all) rfl rfl (by simp) (.inr λe he=>by
  grind) hne'
 grind [CZ,Df]
theorem IL {q:List α} (t:Nat) (en:α->D) (ho:lkO o g=some (v,⟨false,false,s,ty,es⟩)) (hz:es[i]? =some (eR s' ty' en q)) (h:Has ⟨e,(4096+t,some (n,⟨false,false,s',ty',q.map en⟩))::(g,some (v,⟨false,false,s,ty,es.set i (.hole (4096+t) n q.length)⟩))::o,n+1⟩ E O) (hrg:Ac g=true:=by rfl) (hne:aAM g (4096+t)=false:=by rfl):Has ⟨e,o,n⟩ E O:=by
 have hne':g≠4096+t:=λe=>by simp_all
 obtain⟨hi,he⟩:=aAA.1 hz;have hgd:es.getD i .top=eR s' ty' en q:=by simp_all
 have:=Rw.opnr (σ:=⟨e,o,n⟩) g v i 0 t s' ty' (q.map en) ⟨false,false,s,ty,es⟩ (by simp_all) hrg rfl rfl hi (by simp only[hgd];rfl) hne'
 refine CZ this ?_;simp only[aAc,hgd];exact h
theorem Aqb {t1 t2:Nat} {l:List (List α)} {q1 q2:List α} (en:α->D) (ho:lkO o g=some (v,⟨false,false,s,ty,l.map (eR s' ty' en)⟩)) (h1:l[i]? =some q1) (h2:l[j]? =some q2) (hij:i≠j) (h:Has ⟨e,(4096+t2,some (n+1,⟨false,false,s',ty',q2.map en⟩))::(g,some (v,⟨false,false,s,ty,((l.map (eR s' ty' en)).set i (.hole (4096+t1) n q1.length)).set j (.hole (4096+t2) (n+1) q2.length)⟩))::(4096+t1,some (n,⟨false,false,s',ty',q1.map en⟩))::(g,some (v,⟨false,false,s,ty,(l.map (eR s' ty' en)).set i (.hole (4096+t1) n q1.length)⟩))::o,n+1+1⟩ E O) (hrg:Ac g=true:=by rfl) (hne1:aAM g (4096+t1)=false:=by rfl) (hne2:aAM g (4096+t2)=false:=by rfl):Has ⟨e,o,n⟩ E O:=by
 refine IL (s':=s') (ty':=ty') (i:=i) (q:=q1) t1 en ho (by simp[h1]) ?_ hrg hne1
 have hg1:g≠4096+t1:=λe=>by simp_all
 refine IL (s':=s') (ty':=ty') (i:=j) (q:=q2) t2 en (v:=v) (s:=s) (ty:=ty) (es:=(l.map (eR s' ty' en)).set i (.hole (4096+t1) n q1.length)) ?_ ?_ h hrg hne2
 all_goals simp_all[lkO,AR]
theorem AoT {g1 g2 u1 u2 m1 m2:Nat} {l:List (List α)} {q1 q2 q1' q2':List α} {en:α->D} (h1:l[i]? =some q1) (h2:l[j]? =some q2) (hij:i≠j) (ho:lkO o g=some (v,⟨false,false,s,ty,((l.map (eR s' ty' en)).set i (.hole g1 u1 m1)).set j (.hole g2 u2 m2)⟩)) (ho1:lkO o g1=some (u1,⟨false,false,s',ty',q1'.map en⟩)) (ho2:lkO o g2=some (u2,⟨false,false,s',ty',q2'.map en⟩)) (hm1:m1=q1'.length) (hm2:m2=q2'.length) (hp:∀ q,Az (en q)=true) (h:Has ⟨e,(g,some (v,⟨false,false,s,ty,((l.set i q1').set j q2').map (eR s' ty' en)⟩))::(g1,none)::(g,some (v,⟨false,false,s,ty,((l.map (eR s' ty' en)).set i (.hole g1 u1 m1)).set j (eR s' ty' en q2')⟩))::(g2,none)::o,n⟩ E O) (hrg:Ac g=true:=by rfl) (hne1:aAM g g1=false:=by rfl) (hne2:aAM g g2=false:=by rfl) (hne:aAM g1 g2=false:=by rfl):Has ⟨e,o,n⟩ E O:=by
 obtain⟨hi,_⟩:=aAA.1 h1;obtain⟨hj,_⟩:=aAA.1 h2;have hb1:aAM g1 g=false:=by
  grind [aAX]
 refine HY (s':=s') (ty':=ty') (i:=j) (off:=0) (z:=.hole g2 u2 m2) (c:=.hole g2 u2 m2) (es':=((l.map (eR s' ty' en)).set i (.hole g1 u1 m1)).set j (eR s' ty' en q2')) ho (by simp[hj]) rfl (.inl rfl) ho2 hm2 hp (by simp[Qu]) ?_ hrg hne2
 refine HY (s':=s') (ty':=ty') (i:=i) (off:=0) (z:=.hole g1 u1 m1) (c:=.hole g1 u1 m1) (v:=v) (s:=s) (ty:=ty) (es:=((l.map (eR s' ty' en)).set i (.hole g1 u1 m1)).set j (eR s' ty' en q2')) (l:=q1') (en:=en) ?_ ?_ rfl (.inl rfl) ?_ hm1 hp ?_ h hrg hne1
 ·simp[lkO,AR]
 ·grind
 ·simp_all[lkO,AR]
 grind [List.set_comm,List.set_set,Qu,aAg]
theorem AhD {g2:Nat} (ho:lkO o g=some (v,⟨false,var,s,ty,es⟩)) (hrg:Ac g=false) (hg2:g2=4096+g) (he:Each (Enr false) es es')
  (h:Has ⟨e.map (λp=>(p.1,ren g g2 p.2)),(g2,some (v,⟨false,var,s,ty,es'⟩))::(g,none)::o,n⟩ E O):Has ⟨e,o,n⟩ E O:=by
 have:=Rw.enrich (σ:=⟨e,o,n⟩) g g2 v ⟨false,var,s,ty,es⟩ es' (by simp_all) rfl (.inr ⟨hrg,hg2⟩) (by grind)
 grind [CZ,aAX]
theorem AkP {l:List (List α)} (en:α->D) (hs:0<s') (hl:∀ q∈l,q=[]):Each (Enr false) (l.map λ_=>.nils) (l.map (eR s' ty' en)):=by
 refine⟨by simp,λi e e' h1 h2=>?_⟩
 rw[List.getElem?_map,aAW]at h1 h2;obtain⟨q,hq,rfl⟩:=h1;obtain⟨q',hq',rfl⟩:=h2;rw[hq]at hq';cases hq';have:=hl q (aAJ hq);subst this;refine⟨rfl,λj c c' h1 h2=>?_⟩
 grind [cells]
theorem Aeb (ho:lkO o g=some (v,⟨false,var,s,ty,es⟩)) (he:Each Frr es es') (h:Has ⟨e,(g,some (v,⟨false,var,s,ty,es'⟩))::o,n⟩ E O) (hrg:Ac g=true:=by rfl):Has ⟨e,o,n⟩ E O:=by
 have:=Rw.frows (σ:=⟨e,o,n⟩) g v ⟨false,var,s,ty,es⟩ es' (by simp_all) hrg rfl he
 grind [CZ]
theorem AkQ {l:List (List α)} (en:α->D) (hp:∀ q,Az (en q)=true):Each Frr (l.map (eR s' ty' en)) (l.map (eL en)):=by
 refine⟨by simp,λi e e' h1 h2=>?_⟩
 rw[List.getElem?_map,aAW]at h1 h2;obtain⟨q,hq,rfl⟩:=h1;obtain⟨q',hq',rfl⟩:=h2;rw[hq]at hq';cases hq';refine⟨rfl,λj c c' h1 h2=>?_⟩
 grind [cells]
theorem AiX (ho:lkO o g=some (v,⟨false,false,s,ty,es⟩)) (he:es.map nrm=es') (h:Has ⟨e,(g,some (v,⟨false,false,s,ty,es'⟩))::o,n⟩ E O) (hrg:Ac g=false:=by rfl):Has ⟨e,o,n⟩ E O:=by
 subst he;have:=Rw.nilsl (σ:=⟨e,o,n⟩) g v ⟨false,false,s,ty,es⟩ (by simp_all) hrg rfl rfl
 grind [CZ]
theorem AkX {l:List (List α)} (en:α->D) (hl:∀ q∈l,q=[]):(l.map λ_=>D.nils).map nrm=l.map (eL en):=by
 rw[aAt];refine aAb λq hq=>?_
 rw[hl q hq];rfl
theorem Mf (ho:lkO o g=some (v,⟨false,true,s,ty,[z]⟩)) (hc:(cells z).all Qr=true) (h:Has ⟨e.map (λp=>(p.1,frp g v z p.2)),(g,none)::o.map (λp=>(p.1,frO g v z p.2)),n⟩ E O):Has ⟨e,o,n⟩ E O:=by
 have:=Rw.fvar (σ:=⟨e,o,n⟩) g v ⟨false,true,s,ty,[z]⟩ z (by simp_all) rfl rfl rfl hc
 grind [CZ]
end
def uA {α:Type} (u:D->α):D->List α| .agg cs=>cs.map u|_=>[]
@[simp] theorem ON {u:D->α} {en:α->D} (h:∀ a,u (en a)=a) (l:List α):uA u (.agg (l.map en))=l:=by
 simp only[uA,aAt]
 conv=>rhs;rw[<- List.map_id l]
 exact aAb λa _=>h a
def fpD:D->D| .fptr e _=>e|_=>.top
def AnU:D->Nat->D| .clo _ caps,j=>caps.getD j .top|_,_=>.top
theorem Ik (cs:List D) (off:Nat) (d:D):setAt cs off [d]=cs.set off d:=rfl
section
variable {Γ:Aq} {X:Type} {K:KR X} {t:Option X} {e:List (Nat×D)} {o:List (Nat×Ab)} {n nv:Nat} {d:Bool} {acc:List Cn}
 {r:List As} {dst:Nat} {g:Option (Nat×Bool)} {af:List Nat} {α:Type}
variable {x y:Arg} {v w:D} {k k':IntKind} {a b:Int} {s ty gi vi ii off m:Nat} {fz var:Bool} {l:List α} {en:α->D}
theorem TT {len:Nat} (hg:gOn e g=true) (hx:Aa e x=some (.optr gi vi i off)) (hy:Aa e y=some (.int k a)) (hi:0<=a/\a<len) (h:TrO Γ r (nv+1) ⟨(dst,.optr gi vi i (off+a.toNat*s))::e,o,n⟩ d (acc++[(gK g++(rdK x++rdK y),[.e dst],af)]) K t) :
  TrO Γ (⟨some dst,.ixP s len x y,g,af⟩::r) nv ⟨e,o,n⟩ d acc K t :=
 Al hg (c:=True) (we:=[(dst,.optr gi vi i (off+a.toNat*s))]) (wo:=[]) (rd:=rdK x++rdK y) (by simp[evalOp,Ad,strip,hx,hy,hi.1,hi.2]) (by simp[evalOp,strip,hx,hy]) trivial h
theorem XD {q:α} (hj:off=j) (hg:gOn e g=true) (hx:Aa e x=some (.optr gi vi 0 off)) (ho:lkO o gi=some (vi,⟨fz,var,s,ty,[.agg (l.map en)]⟩)) (hi:l[j]? =some q) (hpl:plain (en q)=true) (_hc:∀ q,cells (en q)=[en q]) (h:TrO Γ r (nv+1) ⟨(dst,en q)::e,o,n⟩ d (acc++[(gK g++(rdK x++[.o gi]),[.e dst],af)]) K t) :
  TrO Γ (⟨some dst,.ld 1 false x,g,af⟩::r) nv ⟨e,o,n⟩ d acc K t:=by
 subst hj;have hl:=(aAA.1 hi).1;refine ER (i:=0) (m:=1) (agg:=false) (off:=off) (z:=.agg (l.map en)) (v:=en q) hg hx ho rfl ?_ ?_ h (by simp[hpl])
 ·simp only[cells,aAc];exact aAN (by omega)
 ·simp only[PD,cells,aAj,if_false];simp[hi]
theorem Apm {q q':α} (hj:off=j) (hg:gOn e g=true) (hx:Aa e x=some (.optr gi vi 0 off)) (hy:Aa e y=some (en q')) (hw:strip (en q')=(true,en q')) (ho:lkO o gi=some (vi,⟨false,true,s,ty,[.agg (l.map en)]⟩)) (hi:l[j]? =some q) (hk:known (en q')=true) (hc:cells (en q')=[en q']) (hz:D.agg ((l.set j q').map en)=z') (h:TrO Γ r (nv+1) ⟨e,(gi,some (vi,⟨false,true,s,ty,[z']⟩))::o,n⟩ d (acc++[(gK g++(rdK x++(rdK y++[.o gi])),[.o gi],af)]) K t) (hrg:Ac gi=false:=by rfl) :
  TrO Γ (⟨none,.st 1 x y,g,af⟩::r) nv ⟨e,o,n⟩ d acc K t:=by
 subst hj;subst hz;have hl:=(aAA.1 hi).1;refine ET (z:=.agg (l.map en)) (z':=.agg ((l.set off q').map en)) hg hx hy hw ho hk (by rw[hc];rfl) ?_ ?_ h hrg
 ·simp only[cells,aAc];exact aAN (by omega)
 ·simp only[Qu,hc,Ik,aAg]
theorem Ajn {q q':α} (hj:off=j) (hg:gOn e g=true) (hx:Aa e x=some (.optr gi vi 0 off)) (hy:Aa e y=some (en q')) (hw:strip (en q')=(true,en q')) (ho:lkO o gi=some (vi,⟨false,true,s,ty,[.agg (l.map en)]⟩)) (hi:l[j]? =some q) (hk:known (en q')=true) (hc:cells (en q')=[en q']) (hz:D.agg ((l.set j q').map en)=z') (hcl:(AF true [en q']).run ⟨e,o,n⟩=(True/\True/\([]:List (Nat×Ab)).all (λ_=>([]:List (Nat×Ab)).all λ_=>true)=true,[en q'],[])) (hrd:(AF true [en q']).rd ⟨e,o,n⟩=[]) (h:TrO Γ r (nv+1) ⟨e,(gi,some (vi,⟨false,true,s,ty,[z']⟩))::o,n⟩ d (acc++[(gK g++(rdK x++(rdK y++[.o gi])),[.o gi],af)]) K t) (hrg:Ac gi=true:=by rfl) :
  TrO Γ (⟨none,.st 1 x y,g,af⟩::r) nv ⟨e,o,n⟩ d acc K t:=by
 subst hj;subst hz;have hl:=(aAA.1 hi).1;refine TD (i:=0) (c:=True/\True/\([]:List (Nat×Ab)).all (λ_=>([]:List (Nat×Ab)).all λ_=>true)=true) (z:=.agg (l.map en)) (es':=[.agg ((l.set off q').map en)]) (cs':=[en q']) (wo:=[]) (rk:=[]) hg hx hy hw ho (by rw[hc];exact hcl) (by rw[hc];exact hrd) ⟨trivial,trivial,rfl⟩ rfl hk (by rw[hc];rfl) ?_ ?_ rfl h hrg
 ·simp only[cells,aAc];exact aAN (by omega)
 ·simp only[Qu,Ik,aAg,List.set_cons_zero]
end
section
variable {Γ Γ':Aq} {X ι γ:Type} {K:X->Au->S->Prop} {t:Option X} {e E:List (Nat×D)} {o O:List (Nat×Ab)} {n nv N:Nat} {acc:List Cn}
 {r:List As} {dst:Option Nat} {g:Option (Nat×Bool)} {af:List Nat}
theorem Qt {E1:List (Nat×D)} {O1:List (Nat×Ab)} (h:Has σ E1 O1) (k:∀ n,Has ⟨E1,O1,n⟩ E O):Has σ E O :=
 h.elim λn h=>(k n).imp λ_ k=>h.trans k
theorem PA (rn:Nat->Nat) (hn:DM rn (o.map Prod.fst)=true) (h:Has ⟨e.map (λp=>(p.1,rnm rn p.2)),o.map (λp=>(rn p.1,rnO rn p.2)),n⟩ E O):Has ⟨e,o,n⟩ E O :=
 CZ (Rw.nams (σ:=⟨e,o,n⟩) rn hn) h
def TrC (Γ:Aq) (op:As) (r:List As) (K:X->Au->S->Prop) (σ:S) (t:Option X):Prop:=∀ x,t=some x->HA Γ op σ (Wk (λτ=>wpS Γ r τ.n τ (K x .normal)))
theorem RV {op:As} {E:γ->List (Nat×D)} {O:γ->List (Nat×Ab)} (g0:γ) (hh:Has ⟨e,o,nv⟩ (E g0) (O g0)) (h:∀ g nn,TrC Γ op r K ⟨E g,O g,nn⟩ t):TrO Γ (op::r) nv ⟨e,o,n⟩ false acc (Eb N K) t:=by
 intro x hx;refine⟨λ_=>.inr (.inl ?_),λhd=>by cases hd⟩
 obtain⟨m,hm⟩:=hh;exact⟨_,hm,h g0 m x hx⟩
def KC (Γ:Aq) (r:List As) (dst:Option Nat) (rs:List AQ) (e:List (Nat×D)) (K:X->Au->S->Prop):X->Au->S->Prop:=λx =>
 IZ rs e (λd τ=>Wk (λτ=>wpS Γ r τ.n τ (K x .normal)) ⟨Ad dst d++τ.e,τ.o,τ.n⟩)
def Hi (dst:Option Nat) (rs:List AQ) (e:List (Nat×D)) (E:ι->γ->List (Nat×D)) (O:ι->γ->List (Nat×Ab)) (j:ι->Option X):X->Au->S->Prop:=λx =>
 IZ rs e (λd τ=>∃ s g,j s=some x/\Has ⟨Ad dst d++τ.e,τ.o,τ.n⟩ (E s g) (O s g))
theorem GP {args:List Arg} {caps:List D} {KK:X->Au->S->Prop} (hg:gOn e g=true) (hf:Aa e fa=some (.clo k caps)) (hds:An e args=ds) (hw:ds.all (λd=>(match d with| .when ..=>false|_=>true))=true) (hkb:aAH k 4096=true) (hΓ:Γ (k+4096*AH ds)=some (VV Γ' np rs dc)) (hnp:(ds++caps).length=np) (hE:Dz 0 (ds++caps)=E) (hK:∀ x ex τ,KK x ex τ->KC Γ r dst rs e K x ex τ) (h:Tr Γ' dc KK ⟨E,o,n⟩ t) :
  TrC Γ ⟨dst,.call fa args,g,af⟩ r K ⟨e,o,n⟩ t:=by
 intro x hx;have hrd:(AJ args).run ⟨e,o,n⟩=ds:=by grind [Bj]
 have hraw:(raw fa).run ⟨e,o,n⟩= .clo k caps:=by simp[hf]
 have hon:onG g ⟨e,o,n⟩:=by
  cases g with
  | none=>trivial
  | some p =>
   obtain⟨tt,want⟩:=p;show(guardOf ((S.mk e o n).ge tt) want).1/\(guardOf ((S.mk e o n).ge tt) want).2=true
   grind [gOn,BJ,S.ge,guardOf]
 refine⟨hon,fa,args,k,caps,VV Γ' np rs dc,Mj Γ' np rs dc,Wk (λτ=>wpS Γ r τ.n τ (K x .normal)),λτ hτ=>hτ,rfl,hraw,hkb,?_,rfl,?_,?_⟩
 ·simp_all
 ·grind
 ·show Mj Γ' np rs dc ((AJ args).run ⟨e,o,n⟩++caps) ⟨e,o,n⟩ _;rw[hrd];refine⟨hnp,_,.refl _,?_⟩;show DWp Γ' dc _ ⟨Dz 0 (ds++caps),o,n⟩;rw[hE];exact Bn dc _ _ _ (λex τ hq=>hK x ex τ hq) (h x hx)
theorem Agg {args:List Arg} {caps:List D} (hg:gOn e g=true) (hf:Aa e fa=some (.clo k caps)) (hds:An e args=ds) (hw:ds.all (λd=>(match d with| .when ..=>false|_=>true))=true) (hkb:aAH k 4096=true) (hΓ:Γ (k+4096*AH ds)=some (VV Γ' np rs dc)) (hnp:(ds++caps).length=np) (hE:Dz 0 (ds++caps)=E) (h:Tr Γ' dc (KC Γ r dst rs e K) ⟨E,o,n⟩ t) :
  TrC Γ ⟨dst,.call fa args,g,af⟩ r K ⟨e,o,n⟩ t:=GP hg hf hds hw hkb hΓ hnp hE (λ_ _ _ h=>h) h
theorem Ii {K1 K2:D->S->Prop} (h:∀ d τ,K1 d τ->K2 d τ) (hq:IZ rs e K1 ex τ):IZ rs e K2 ex τ:=by
 cases ex with
 | exit id=>exact hq
 | normal=>exact Wk.mono (λτ h'=>⟨h'.1,h _ _ h'.2⟩) hq
 | ret=>exact Wk.mono (λτ h'=>⟨h'.1,h _ _ h'.2⟩) hq
theorem ZP {args:List Arg} {caps:List D} {ES:ι->γ->List (Nat×D)} {OS:ι->γ->List (Nat×Ab)} {j:ι->Option X} (hg:gOn e g=true) (hf:Aa e fa=some (.clo k caps)) (hds:An e args=ds) (hw:ds.all (λd=>(match d with| .when ..=>false|_=>true))=true) (hkb:aAH k 4096=true) (hΓ:Γ (k+4096*AH ds)=some (VV Γ' np rs dc)) (hnp:(ds++caps).length=np) (hE:Dz 0 (ds++caps)=E) (h:Tr Γ' dc (Hi dst rs e ES OS j) ⟨E,o,n⟩ t) (h2:∀ s g nn,TrO Γ r nn ⟨ES s g,OS s g,nn⟩ false [] (Eb 0 K) (j s)) :
  TrC Γ ⟨dst,.call fa args,g,af⟩ r K ⟨e,o,n⟩ t:=by
 refine GP (KK:=Hi dst rs e ES OS j) hg hf hds hw hkb hΓ hnp hE (λx ex τ hq=>?_) h
 refine Ii (λd τ hq=>?_) hq
 obtain⟨s,g,hj,m,hm⟩:=hq;exact⟨_,hm,(h2 s g m x hj).1 rfl⟩
theorem Anf (hex:(match ex with| .exit _=>false|_=>true)=true) (hr:(Pz rs ⟨e',o',n'⟩).1) (hd:(Pz rs ⟨e',o',n'⟩).2=d) (hh:Has ⟨Ad dst d++e,o',n'⟩ E O) (h:∀ nn,TrO Γ r nn ⟨E,O,nn⟩ false [] (Eb 0 K) t):TrX ex (KC Γ r dst rs e K) ⟨e',o',n'⟩ t:=by
 intro x hx;subst hd;have key:Wk (λτ=>(Pz rs τ).1/\(λ(d:D) (τ:S)=>Wk (λτ=>wpS Γ r τ.n τ (K x .normal)) ⟨Ad dst d++τ.e,τ.o,τ.n⟩) (Pz rs τ).2 ⟨e,τ.o,τ.n⟩) ⟨e',o',n'⟩:=by
  refine⟨_,.refl _,?_⟩;obtain⟨m,hm⟩:=hh;exact⟨hr,_,hm,(h m x hx).1 rfl⟩
 cases ex with
 | exit id=>cases hex
 | normal=>exact key
 | ret=>exact key
theorem RS {ES:ι->γ->List (Nat×D)} {OS:ι->γ->List (Nat×Ab)} {j:ι->Option X} {s:ι} (g:γ) (hex:(match ex with| .exit _=>false|_=>true)=true) (hr:(Pz rs ⟨e',o',n'⟩).1) (hd:(Pz rs ⟨e',o',n'⟩).2=d) (hh:Has ⟨Ad dst d++e,o',n'⟩ (ES s g) (OS s g)):TrX ex (Hi dst rs e ES OS j) ⟨e',o',n'⟩ (j s):=by
 intro x hx;subst hd;have key:Wk (λτ=>(Pz rs τ).1/\(λ(d:D) (τ:S)=>∃ s g,j s=some x/\Has ⟨Ad dst d++τ.e,τ.o,τ.n⟩ (ES s g) (OS s g)) (Pz rs τ).2 ⟨e,τ.o,τ.n⟩) ⟨e',o',n'⟩:=by
  refine⟨_,.refl _,hr,s,g,hx,hh⟩
 cases ex with
 | exit id=>cases hex
 | normal=>exact key
 | ret=>exact key
def TrW (Γ:Aq) (r:List As) (K:X->Au->S->Prop) (σ:S) (t:Option X):Prop:=∀ x,t=some x->Wk (λτ=>wpS Γ r τ.n τ (K x .normal)) σ
theorem AhN [Decidable p] (h:p->TrW Γ r K σ t):TrW Γ r K σ (chk p t):=by
 intro x hx;obtain⟨hp,ht⟩:=Gy hx;exact h hp x ht
theorem AhO {E:γ->List (Nat×D)} {O:γ->List (Nat×Ab)} (g0:γ) (hh:Has ⟨e,o,nv⟩ (E g0) (O g0)) (h:∀ g nn,TrO Γ r nn ⟨E g,O g,nn⟩ false [] (Eb 0 K) t):TrW Γ r K ⟨e,o,nv⟩ t:=by
 intro x hx;obtain⟨m,hm⟩:=hh;exact⟨_,hm,(h g0 m x hx).1 rfl⟩
theorem Nd {f:S->Prop} (h:Chg σ τ) (k:Wk f τ):Wk f σ:=k.elim λ_ k=>⟨_,h.trans k.1,k.2⟩
theorem Alh {args:List Arg} {caps:List D} {ES:ι->γ->List (Nat×D)} {OS:ι->γ->List (Nat×Ab)} {j:ι->Option X} (hg:gOn e g=true) (hf:Aa e fa=some (.clo k caps)) (hds:An e args=ds) (hw:ds.all (λd=>(match d with| .when ..=>false|_=>true))=true) (hkb:aAH k 4096=true) (hΓ:Γ (k+4096*AH ds)=some (VV Γ' np rs dc)) (hnp:(ds++caps).length=np) (hE:Dz 0 (ds++caps)=E) (h:Tr Γ' dc (Hi dst rs e ES OS j) ⟨E,o,n⟩ t) (h2:∀ s g nn,TrW Γ r K ⟨ES s g,OS s g,nn⟩ (j s)) :
  TrC Γ ⟨dst,.call fa args,g,af⟩ r K ⟨e,o,n⟩ t:=by
 refine GP (KK:=Hi dst rs e ES OS j) hg hf hds hw hkb hΓ hnp hE (λx ex τ hq=>?_) h
 refine Ii (λd τ hq=>?_) hq
 obtain⟨s,g,hj,m,hm⟩:=hq;exact Nd hm (h2 s g m x hj)
theorem Asr (hex:(match ex with| .exit _=>false|_=>true)=true) (hr:(Pz rs ⟨e',o',n'⟩).1) (hd:(Pz rs ⟨e',o',n'⟩).2=d) (hh:Has ⟨Ad dst d++e,o',n'⟩ E O) (h:∀ nn,TrW Γ r K ⟨E,O,nn⟩ t):TrX ex (KC Γ r dst rs e K) ⟨e',o',n'⟩ t:=by
 intro x hx;subst hd;have key:Wk (λτ=>(Pz rs τ).1/\(λ(d:D) (τ:S)=>Wk (λτ=>wpS Γ r τ.n τ (K x .normal)) ⟨Ad dst d++τ.e,τ.o,τ.n⟩) (Pz rs τ).2 ⟨e,τ.o,τ.n⟩) ⟨e',o',n'⟩:=by
  refine⟨_,.refl _,?_⟩;obtain⟨m,hm⟩:=hh;exact⟨hr,Nd hm (h m x hx)⟩
 cases ex with
 | exit id=>cases hex
 | normal=>exact key
 | ret=>exact key
theorem Ang {c:Qi} {m:Option α} {k:α->Option X} (h:∀ x,m=some x->Tr Γ c K σ (k x)):Tr Γ c K σ (m.bind k):=by
 intro r hr;obtain⟨x,hx,hk⟩:=aA.1 hr;exact h x hx r hk
theorem Avn {c:Qi} [Decidable p] (h:p->Tr Γ c K σ t):Tr Γ c K σ (chk p t):=by
 intro r hr;obtain⟨hp,ht⟩:=Gy hr;exact h hp r ht
theorem Atc {l:List α} {f:α->D} {q:α} {u v:D} (h:l[i]? =some q) (hij:i≠j):(((l.map f).set i u).set j v)[i]? =some u:=by
 grind
theorem Atd {l:List α} {f:α->D} {q:α} {u v:D} (h:l[j]? =some q):(((l.map f).set i u).set j v)[j]? =some v:=by
 grind
theorem Adj {KK:KR X} {d:Bool} {x y:Arg} {s ty gi vi:Nat} {l:List α} {en:α->D} {q q':α} (hg:gOn e g=true) (hx:Aa e x=some (.optr gi vi i 0)) (hy:Aa e y=some (en q')) (hw:strip (en q')=(true,en q')) (ho:lkO o gi=some (vi,⟨false,false,s,ty,l.map en⟩)) (hi:l[i]? =some q) (hk:known (en q')=true) (hc:∀ q,cells (en q)=[en q]) (hz:Qu (en q) 0 [en q']=en q') (hcl:(AF false [en q']).run ⟨e,o,n⟩=(c,[en q'],[])) (hrd:(AF false [en q']).rd ⟨e,o,n⟩=rk) (hcc:c) (h:TrO Γ r (nv+1) ⟨e,(gi,some (vi,⟨false,false,s,ty,(l.set i q').map en⟩))::o,n⟩ d (acc++[(gK g++(rdK x++(rdK y++(.o gi::rk))),[.o gi],af)]) KK t) (hrg:Ac gi=true:=by rfl) :
  TrO Γ (⟨none,.st 1 x y,g,af⟩::r) nv ⟨e,o,n⟩ d acc KK t:=by
 have hl:=(aAA.1 hi).1;refine TD (i:=i) (off:=0) (m:=1) (z:=en q) (es':=(l.set i q').map en) (cs':=[en q']) (wo:=[]) (rk:=rk) hg hx hy hw ho (by simp_all) (by simp_all) hcc (by simp[hi]) hk (by rw[hc];rfl) (by rw[hc];rfl) ?_ rfl h hrg
 simp_all
end
def QL {α:Type} (z:α) (n:Int):List (Int×α)->α
 | []=>z
 | (k,u)::r=>if k=n then u else QL z n r
def RT {α:Type} (n:Int) (u:α):List (Int×α)->List (Int×α)
 | []=>[(n,u)]
 | (k,u')::r=>if k=n then(k,u)::r else(k,u')::RT n u r
def Sf {α:Type} (n:Int):List (Int×α)->List (Int×α)
 | []=>[]
 | (k,u)::r=>if k=n then r else(k,u)::Sf n r
def Qj {α:Type} (en:α->D) (p:Int×α):D:=.agg [.int .i64 p.1,en p.2]
theorem Ie {α:Type} (en:α->D) (z:α) (n:Int):∀ l:List (Int×α),Dd (en z) n (l.map (Qj en))=en (QL z n l)
 | []=>rfl
 | (k,u)::r=>by
  simp only[aBB,Qj,Dd,QL];split
  ·rfl
  ·exact Ie en z n r
theorem Ig {α:Type} (en:α->D) (u:α) (n:Int):∀ l:List (Int×α),De n (en u) (l.map (Qj en))=(RT n u l).map (Qj en)
 | []=>rfl
 | (k,u')::r=>by
  simp only[aBB,Qj,De,RT];split
  ·rfl
  ·have:=Ig en u n r
   grind [Qj]
theorem Ic {α:Type} (en:α->D) (n:Int):∀ l:List (Int×α),Dc n (l.map (Qj en))=(Sf n l).map (Qj en)
 | []=>rfl
 | (k,u')::r=>by
  simp only[aBB,Qj,Dc,Sf];split
  ·rfl
  ·have:=Ic en n r
   grind [Qj]
theorem AiK (l:List α) (en:α->D) (k:Nat):aAY (l.length-k) (aAw k (l.map en))=(l.drop k).map en:=by
 simp_all
section
variable {Γ:Aq} {X α:Type} {K:KR X} {t:Option X} {e E:List (Nat×D)} {o O:List (Nat×Ab)} {n nv:Nat} {acc:List Cn} {d:Bool}
 {r:List As} {dst:Nat} {g:Option (Nat×Bool)} {af:List Nat} {x y i:Arg} {gi vi ty:Nat} {m:Int} {en:α->D} {l:List (Int×α)} {z:D}
theorem CE (g v:Nat):strip (.mref g v)=(true,.mref g v):=rfl
theorem CD (k:IntKind) (n:Int):strip (.int k n)=(true,.int k n):=rfl
theorem Atl {K:X->Au->S->Prop} {N:Nat} 
  (h:∀ nn,TrO Γ r (nn+1) ⟨(dst,.mref dst nn)::e,(dst,some (nn,⟨true,false,0,0,[]⟩))::o,nn+1⟩ false [] (Eb N K) t) :
  TrO Γ (⟨some dst,.mkm,none,af⟩::r) nv ⟨e,o,n⟩ false acc (Eb N K) t:=by
 intro q hq;refine⟨λ_=>.inr (.inr ?_),λhd=>by cases hd⟩
 exact⟨_,.refl _,rfl,dst,rfl,0,[],⟨rfl,rfl⟩,_,.refl _,(h nv q hq).1 rfl⟩
theorem Aog {v gg off tt s tyy ss:Nat} {zz:D} (ho:lkO o gg=some (v,⟨false,true,ss,ty,[zz]⟩)) (hc:(cells zz)[off]? =some .nils) (hs:aAH 0 s=true) (hz:Qu zz off [.osl tt n 0 0]=z') (h:Has ⟨e,(gg,some (v,⟨false,true,ss,ty,[z']⟩))::(tt,some (n,⟨false,false,s,tyy,[]⟩))::o,n+1⟩ E O) (hr:Ac gg=false:=by rfl) (hne:aAM gg tt=false:=by rfl):Has ⟨e,o,n⟩ E O:=by
 subst hz;have hs':0<s:=by simp_all
 have hne':gg≠tt:=λe=>by simp_all
 have:=Rw.nilv (σ:=⟨e,o,n⟩) gg v 0 off tt s tyy ⟨false,true,ss,ty,[zz]⟩ (by simp_all) hr rfl rfl (by simp) hc hs' hne'
 grind [CZ]
theorem AtV {v vw gw off gg s tyy ss tw:Nat} {β:Type} {l:List β} {en:β->D} {zz:D} (how:lkO o gw=some (vw,⟨false,true,ss,tw,[zz]⟩)) (hc:(cells zz)[off]? =some (.osl gg v 0 k)) (ho:lkO o gg=some (v,⟨false,false,s,tyy,l.map en⟩)) (hk:k<=l.length) (hz:Qu zz off [.osl gg v 0 (l.take k).length]=z') (h:Has ⟨e,(gw,some (vw,⟨false,true,ss,tw,[z']⟩))::(gg,some (v,⟨false,false,s,tyy,(l.take k).map en⟩))::o,n⟩ E O) (hrw:Ac gw=false:=by rfl) (hr:Ac gg=false:=by rfl) (_hne:aAM gw gg=false:=by rfl):Has ⟨e,o,n⟩ E O:=by
 subst hz;have hne':gw≠gg:=λe=>by simp_all
 have:=Rw.shrink (σ:=⟨e,o,n⟩) gw vw 0 off gg v k ⟨false,true,ss,tw,[zz]⟩ ⟨false,false,s,tyy,l.map en⟩ (by simp_all) hrw rfl rfl (by simp) hc (by simp_all) hr rfl rfl (by simp_all) hne'
 refine CZ this ?_;simp_all
theorem Aoz (hg:gOn e g=true) (hx:Aa e x=some (.mref gi vi)) (hi:Aa e i=some (.int .i64 m)) (ho:lkO o gi=some (vi,⟨true,false,0,0,l.map (Qj en)⟩)) (zz:α) (hz:z=en zz)
  (h:TrO Γ r (nv+1) ⟨(dst,en (QL zz m l))::e,o,n⟩ d (acc++[(gK g++(rdK x++(rdK i++[.o gi])),[.e dst],af)]) K t) :
  TrO Γ (⟨some dst,.mget z x i,g,af⟩::r) nv ⟨e,o,n⟩ d acc K t:=by
 subst hz;refine Al hg (c:=True) (we:=[(dst,en (QL zz m l))]) (wo:=[]) (rd:=rdK x++(rdK i++[Key.o gi])) ?_ ?_ trivial h
 ·simp only[evalOp,R.run_bind,AD,aAB,hx,hi,CE,CD,BW,R.Bm,Be,ho,R.AM,R.run_pure,Ad,Ie];simp
 simp_all[evalOp,CE,CD,BW]
theorem AoA (hg:gOn e g=true) (hx:Aa e x=some (.mref gi vi)) (hi:Aa e i=some (.int .i64 m)) (u:α) (hy:Aa e y=some (en u)) (hw:strip (en u)=(true,en u)) (hgr:AW (en u)=true) (ho:lkO o gi=some (vi,⟨true,false,0,0,l.map (Qj en)⟩))
  (h:TrO Γ r (nv+1) ⟨e,(gi,some (vi,⟨true,false,0,0,(RT m u l).map (Qj en)⟩))::o,n⟩ d (acc++[(gK g++(rdK x++(rdK i++(rdK y++[.o gi]))),[.o gi],af)]) K t) :
  TrO Γ (⟨none,.mset x i y,g,af⟩::r) nv ⟨e,o,n⟩ d acc K t:=by
 refine Al hg (c:=True) (we:=[]) (wo:=[(gi,some (vi,⟨true,false,0,0,(RT m u l).map (Qj en)⟩))]) (rd:=rdK x++(rdK i++(rdK y++[Key.o gi]))) ?_ ?_ trivial h
 ·simp only[evalOp,R.run_bind,AD,aAB,hx,hi,hy,hw,CE,CD,BW,R.Bm,Be,ho,R.AM,R.run_pure,Ig,hgr];simp
 simp_all[evalOp,CE,CD,BW]
theorem Avm (hg:gOn e g=true) (hx:Aa e x=some (.mref gi vi)) (hi:Aa e i=some (.int .i64 m)) (ho:lkO o gi=some (vi,⟨true,false,0,0,l.map (Qj en)⟩))
  (h:TrO Γ r (nv+1) ⟨e,(gi,some (vi,⟨true,false,0,0,(Sf m l).map (Qj en)⟩))::o,n⟩ d (acc++[(gK g++(rdK x++(rdK i++[.o gi])),[.o gi],af)]) K t) :
  TrO Γ (⟨none,.mdel x i,g,af⟩::r) nv ⟨e,o,n⟩ d acc K t:=by
 refine Al hg (c:=True) (we:=[]) (wo:=[(gi,some (vi,⟨true,false,0,0,(Sf m l).map (Qj en)⟩))]) (rd:=rdK x++(rdK i++[Key.o gi])) ?_ ?_ trivial h
 ·simp only[evalOp,R.run_bind,AD,aAB,hx,hi,CE,CD,BW,R.Bm,Be,ho,R.AM,R.run_pure,Ad,Ic];simp
 simp_all[evalOp,CE,CD,BW]
end
theorem nbq (a b:Nat):aAM a b=decide (a=b):=by
 by_cases h:a=b
 all_goals simp_all[Bool.eq_false_iff]
class TyE (ty:Nat) {α:outParam Type} (en:outParam (α->D)):Prop
def noE {B:Type} (_:B):List D:=[]
class Py {A:Type} (enc:A->List D) (dec:outParam (List D->A)):Prop where
 ok:∀ a,dec (enc a)=a
def EvL (l l':List D):Prop:=l=l'
theorem EvL.nil {l:List D} (h:l=[]):EvL l []:=h
theorem EvL.cons {l t t':List D} {a:D} (h:l=a::t) (ht:EvL t t'):EvL l (a::t'):=by
 cases ht;exact h
def EvP (l l':List (Nat×Nat×D)):Prop:=l=l'
theorem EvP.nil {l:List (Nat×Nat×D)} (h:l=[]):EvP l []:=h
theorem EvP.cons {a b:Nat} {x:Arg} {r:List (Nat×Nat×Arg)} {r':List (Nat×Nat×D)} (h:Aa e x=some d) (ht:EvP (Ce e r) r'):EvP (Ce e ((a,b,x)::r)) ((a,b,d)::r'):=by
 grind [EvP,Ce]
section
variable {Γ:Aq} {X:Type} {K:KR X} {t:Option X} {e:List (Nat×D)} {o:List (Nat×Ab)} {n nv:Nat} {d:Bool} {acc:List Cn}
 {r:List As} {dst:Nat} {g:Option (Nat×Bool)} {af:List Nat} {α:Type}
 {x y:Arg} {v v' w:D} {k k':IntKind} {a b:Int} {s ty gi vi ii off m:Nat} {fz var:Bool} {es cs:List D} {z z':D} {l l':List α} {en:α->D}
theorem FP (hg:gOn e g=true) (hx:Aa e x=some (.optr gi vi i off)) (ho:lkO o gi=some (vi,⟨fz,var,s,ty,es⟩)) (hz:es[i]? =some z) (hv:(cells z)[off]? =some v) (h:TrO Γ r (nv+1) ⟨(dst,v)::e,o,n⟩ d (acc++[(gK g++(rdK x++[.o gi]),[.e dst],af)]) K t) (hpl:(plain v|| !Ac gi)=true:=by rfl) :
  TrO Γ (⟨some dst,.ld 1 false x,g,af⟩::r) nv ⟨e,o,n⟩ d acc K t :=
 ER hg hx ho hz (aAN (aAA.1 hv).1) (by grind [PD]) h hpl
theorem FQ (hg:gOn e g=true) (hx:Aa e x=some (.optr gi vi i off)) (ho:lkO o gi=some (vi,⟨fz,var,s,ty,es⟩)) (hz:es[i]? =some z) (hb:aAO (off+m) (cells z).length=true) (hv:EvL (((cells z).drop off).take m) cs) (h:TrO Γ r (nv+1) ⟨(dst,.agg cs)::e,o,n⟩ d (acc++[(gK g++(rdK x++[.o gi]),[.e dst],af)]) K t) :
  TrO Γ (⟨some dst,.ld m true x,g,af⟩::r) nv ⟨e,o,n⟩ d acc K t :=
 ER hg hx ho hz hb (by cases hv;rfl) h (by rfl)
theorem JA (hg:gOn e g=true) (hx:Aa e x=some (.fptr z off)) (hv:(cells z)[off]? =some v)
  (h:TrO Γ r (nv+1) ⟨(dst,v)::e,o,n⟩ d (acc++[(gK g++rdK x,[.e dst],af)]) K t) :
  TrO Γ (⟨some dst,.ld 1 false x,g,af⟩::r) nv ⟨e,o,n⟩ d acc K t :=
 Jn hg hx (aAN (aAA.1 hv).1) (by grind [PD]) h
theorem JB (hg:gOn e g=true) (hx:Aa e x=some (.fptr z off)) (hb:aAO (off+m) (cells z).length=true) (hv:EvL (((cells z).drop off).take m) cs)
  (h:TrO Γ r (nv+1) ⟨(dst,.agg cs)::e,o,n⟩ d (acc++[(gK g++rdK x,[.e dst],af)]) K t) :
  TrO Γ (⟨some dst,.ld m true x,g,af⟩::r) nv ⟨e,o,n⟩ d acc K t :=
 Jn hg hx hb (by cases hv;rfl) h
theorem MF (hg:gOn e g=true) (hx:Aa e x=some (.optr gi vi 0 0)) (hy:Aa e y=some v) (hw:strip v=(true,v)) (ho:lkO o gi=some (vi,⟨false,true,s,ty,[z]⟩)) (hk:known v=true) (hl:cells v=[v'])
  (hb:aAO 1 (cells z).length=true) (hz:(match z with| .agg _=>false|_=>true)=true)
  (h:TrO Γ r (nv+1) ⟨e,(gi,some (vi,⟨false,true,s,ty,[v']⟩))::o,n⟩ d (acc++[(gK g++(rdK x++(rdK y++[.o gi])),[.o gi],af)]) K t) (hrg:Ac gi=false:=by rfl) :
  TrO Γ (⟨none,.st 1 x y,g,af⟩::r) nv ⟨e,o,n⟩ d acc K t :=
 ET hg hx hy hw ho hk (by rw[hl];rfl) hb (by rw[hl];cases z<;>first|rfl|cases hz) h hrg
theorem MG (hg:gOn e g=true) (hx:Aa e x=some (.optr gi vi 0 off)) (hy:Aa e y=some v) (hw:strip v=(true,v)) (ho:lkO o gi=some (vi,⟨false,true,s,ty,[z]⟩)) (hk:known v=true) (hl:(cells v).length=m) (hzz:z= .agg zs) (hb:aAO (off+m) zs.length=true) (hz:EvL (setAt zs off (cells v)) cs) (h:TrO Γ r (nv+1) ⟨e,(gi,some (vi,⟨false,true,s,ty,[.agg cs]⟩))::o,n⟩ d (acc++[(gK g++(rdK x++(rdK y++[.o gi])),[.o gi],af)]) K t) (hrg:Ac gi=false:=by rfl) :
  TrO Γ (⟨none,.st m x y,g,af⟩::r) nv ⟨e,o,n⟩ d acc K t:=by
 subst hzz;cases hz;exact ET hg hx hy hw ho hk hl hb rfl h hrg
theorem MD (hg:gOn e g=true) (hp:EvP (Ce e parts) ps) (hf:DL zs.length ps=true) (hz:EvL (Dn zs ps) cs) (h:TrO Γ r (nv+1) ⟨(dst,.agg cs)::e,o,n⟩ d (acc++[(gK g++Cv parts,[.e dst],af)]) K t) :
  TrO Γ (⟨some dst,.bld zs parts,g,af⟩::r) nv ⟨e,o,n⟩ d acc K t:=NP hg hp hf hz h
theorem KV (hg:gOn e g=true) (hx:Aa e x=some (.agg cs)) (hv:cs[off]? =some v)
  (h:TrO Γ r (nv+1) ⟨(dst,v)::e,o,n⟩ d (acc++[(gK g++rdK x,[.e dst],af)]) K t) :
  TrO Γ (⟨some dst,.fld off 1 false x,g,af⟩::r) nv ⟨e,o,n⟩ d acc K t :=
 Kf hg hx (aAN (aAA.1 hv).1) (by grind [PD]) h
theorem KW (hg:gOn e g=true) (hx:Aa e x=some (.agg cs)) (hb:aAO (off+m) cs.length=true) (hv:EvL ((cs.drop off).take m) cs') (h:TrO Γ r (nv+1) ⟨(dst,.agg cs')::e,o,n⟩ d (acc++[(gK g++rdK x,[.e dst],af)]) K t) :
  TrO Γ (⟨some dst,.fld off m true x,g,af⟩::r) nv ⟨e,o,n⟩ d acc K t :=
 Kf hg hx hb (by cases hv;rfl) h
theorem HQ (_:TyE ty en) (hg:gOn e g=true) (hx:Aa e x=some .nils) (h:TrO Γ r (nv+1) ⟨(dst,.osl dst nv 0 ([]:List α).length)::e,(dst,some (nv,⟨false,false,s,ty,([]:List α).map en⟩))::o,n⟩ d (acc++[(gK g++rdK x,[.e dst,.o dst],af)]) K t) :
  TrO Γ (⟨some dst,.asg x (some (s,ty)),g,af⟩::r) nv ⟨e,o,n⟩ d acc K t:=Jv hg en hx h
theorem ME {q:α} (_:TyE ty en) (hz:z=en q) (hg:gOn e g=true) (hx:Aa e x=some (.int k a)) (hy:Aa e y=some (.int k' a)) (hl:0<=a/\a<=16777216) (hby:aAO bytes 65536=true) (h:TrO Γ r (nv+1) ⟨(dst,.osl dst nv 0 (aAL a.toNat q).length)::e,(dst,some (nv,⟨false,false,s,ty,(aAL a.toNat q).map en⟩))::o,n⟩ d (acc++[(gK g++(rdK x++rdK y),[.e dst,.o dst],af)]) K t) :
  TrO Γ (⟨some dst,.mkS s ty bytes z x y,g,af⟩::r) nv ⟨e,o,n⟩ d acc K t:=NQ en hg hx hy hz hl hby h
theorem Jx {parts:List (Nat×Arg)} {p:D} {q:α} (_:TyE ty en) (hg:gOn e g=true) (hr:(AV parts).run ⟨e,o,n⟩=(c,[(i,p)],[])) (hk:(AV parts).rd ⟨e,o,n⟩=rk) (hc:c) (hq:p=en q) (hp:II s 1 [(i,p)]=true) (hes:Aav [z] [(i,en q)]=[en q]) (h:TrO Γ r (nv+1) ⟨(dst,.osl dst nv 0 [q].length)::e,(dst,some (nv,⟨false,false,s,ty,[q].map en⟩))::o,n⟩ d (acc++[(gK g++rk,[.e dst,.o dst],af)]) K t) :
  TrO Γ (⟨some dst,.bldS s ty z 1 parts,g,af⟩::r) nv ⟨e,o,n⟩ d acc K t:=by
 grind [Abn]
theorem Jz {p q:Bool} (hg:gOn e g=true) (hx:Aa e x=some (.bool p)) (hy:Aa e y=some (.bool q))
  (h:TrO Γ r (nv+1) ⟨(dst,.bool (!(p==q)))::e,o,n⟩ d (acc++[(gK g++(rdK x++rdK y),[.e dst],af)]) K t) :
  TrO Γ (⟨some dst,.eqB true x y,g,af⟩::r) nv ⟨e,o,n⟩ d acc K t:=Kd hg hx hy h
theorem Jy {p q:Bool} (hg:gOn e g=true) (hx:Aa e x=some (.bool p)) (hy:Aa e y=some (.bool q))
  (h:TrO Γ r (nv+1) ⟨(dst,.bool (p==q))::e,o,n⟩ d (acc++[(gK g++(rdK x++rdK y),[.e dst],af)]) K t) :
  TrO Γ (⟨some dst,.eqB false x y,g,af⟩::r) nv ⟨e,o,n⟩ d acc K t:=Kd hg hx hy h
theorem Pj {x:Nat} {wt:Bool} {b:Bool} {dt:Option Nat} {t1 t2:Option X} (hx:AR e x=some (.bool b)) (h1:TrO Γ (⟨dt,op,some (x,wt),af⟩::ops) nv ⟨DR e x (.bool true),o,n⟩ d acc K t1) (h2:TrO Γ (⟨dt,op,some (x,wt),af⟩::ops) nv ⟨DR e x (.bool false),o,n⟩ d acc K t2) :
  TrO Γ (⟨dt,op,some (x,wt),af⟩::ops) nv ⟨e,o,n⟩ d acc K (bif b then t1 else t2):=LN x hx h1 h2
end
section
variable {Γ:Aq} {X A B:Type} {K:KR X} {e:List (Nat×D)} {o:List (Nat×Ab)} {n nv:Nat} {d:Bool} {acc:List Cn}
 {r:List As} {dst:Nat} {g:Option (Nat×Bool)} {af:List Nat} {α:Type}
 {ptr:List (Nat×(Nat×Nat))} {kind:Kind} {enc:A->List D} {dec:List D->A} {f:A->Option B} {encR:B->D} {encE:B->List D} {m:Option B} {kt:B->Option X}
 {fa:Arg} {args:List Arg} {caps:List D} {k:Nat} {c:Prop} {ds:List D} {w:List (Nat×Ab)} {ps:List (Nat×Nat×Own)} {rk:List Key} {s ty:Nat}
theorem GU (hg:gOn e g=true) (hf:Aa e fa=some (.clo k caps)) (hΓ:Γ (k+4096*AH (An e args))=some (OY ptr .val enc dec f encR encE)) [hde:Py enc dec] (hr:(Af ptr 0 (An e args++caps)).run ⟨e,o,n⟩=(c,ds,w,ps))
  (hk:(Af ptr 0 (An e args++caps)).rd ⟨e,o,n⟩=rk) (hc:c) (ha:∃ a,f a=m/\ds=enc a)
  (h:∀ b,m=some b->TrO Γ r (nv+1) ⟨(dst,encR b)::e,(Ak ps (encE b)++w)++o,n⟩ d (acc++[(gK g++(rdK fa++(Bl args++rk)),.e dst::(Ak ps (encE b)++w).map (λx=>.o x.1),af)]) K (kt b)) (hkb:aAH k 4096=true:=by rfl) :
  TrO Γ (⟨some dst,.call fa args,g,af⟩::r) nv ⟨e,o,n⟩ d acc K (m.bind kt) :=
 Ra λb hb=>ha.elim λa ha=>Abo a hg hf hΓ hde.ok hr hk hc ha.2 (ha.1.trans hb) (h b hb) hkb
theorem FW (hg:gOn e g=true) (hf:Aa e fa=some (.clo k caps)) (hΓ:Γ (k+4096*AH (An e args))=some (OY ptr .val enc dec f encR encE)) [hde:Py enc dec] (hr:(Af ptr 0 (An e args++caps)).run ⟨e,o,n⟩=(c,ds,w,ps))
  (hk:(Af ptr 0 (An e args++caps)).rd ⟨e,o,n⟩=rk) (hc:c) (ha:∃ a,f a=m/\ds=enc a)
  (h:∀ b,m=some b->TrO Γ r (nv+1) ⟨e,(Ak ps (encE b)++w)++o,n⟩ d (acc++[(gK g++(rdK fa++(Bl args++rk)),(Ak ps (encE b)++w).map (λx=>.o x.1),af)]) K (kt b)) (hkb:aAH k 4096=true:=by rfl) :
  TrO Γ (⟨none,.call fa args,g,af⟩::r) nv ⟨e,o,n⟩ d acc K (m.bind kt) :=
 Ra λb hb=>ha.elim λa ha=>Ff a hg hf hΓ hde.ok hr hk hc ha.2 (ha.1.trans hb) (h b hb) hkb
theorem EX (hg:gOn e g=true) (hf:Aa e fa=some (.clo k caps)) (hΓ:Γ (k+4096*AH (An e args))=some (OY [] .ground enc dec f encR encE)) [hde:Py enc dec] (hr:(Af [] 0 (An e args++caps)).run ⟨e,o,n⟩=(c,ds,w,ps))
  (hk:(Af [] 0 (An e args++caps)).rd ⟨e,o,n⟩=rk) (hc:c) (ha:∃ a,f a=m/\ds=enc a) (hgr:∀ b,isGround (encR b)=true)
  (h:∀ b,m=some b->TrO Γ r (nv+1) ⟨(dst,encR b)::e,o,n⟩ d (acc++[(gK g++(rdK fa++(Bl args++rk)),[.e dst],af)]) K (kt b)) (hkb:aAH k 4096=true:=by rfl) :
  TrO Γ (⟨some dst,.call fa args,g,af⟩::r) nv ⟨e,o,n⟩ d acc K (m.bind kt) :=
 Ra λb hb=>ha.elim λa ha=>AaF a hg hf hΓ hde.ok hr hk hc ha.2 (ha.1.trans hb) (hgr b) (h b hb) hkb
theorem GS {lf:B->List α} {en:α->D} (hg:gOn e g=true) (hf:Aa e fa=some (.clo k caps)) (hΓ:Γ (k+4096*AH (An e args))=some (OY ptr (.row s ty) enc dec f encR encE)) [hde:Py enc dec] (hr:(Af ptr 0 (An e args++caps)).run ⟨e,o,n⟩=(c,ds,w,ps))
  (hk:(Af ptr 0 (An e args++caps)).rd ⟨e,o,n⟩=rk) (hc:c) (ha:∃ a,f a=m/\ds=enc a) (hl:∀ b,encR b= .sl ((lf b).map en))
  (h:∀ b,m=some b->TrO Γ r (nv+1) ⟨(dst,.osl dst nv 0 (lf b).length)::e,((dst,some (nv,⟨false,false,s,ty,(lf b).map en⟩))::(Ak ps (encE b)++w))++o,n⟩ d (acc++[(gK g++(rdK fa++(Bl args++rk)),.e dst:: .o dst::(Ak ps (encE b)++w).map (λx=>.o x.1),af)]) K (kt b)) (hkb:aAH k 4096=true:=by rfl) :
  TrO Γ (⟨some dst,.call fa args,g,af⟩::r) nv ⟨e,o,n⟩ d acc K (m.bind kt) :=
 Ra λb hb=>ha.elim λa ha=>FF a hg hf hΓ hde.ok hr hk hc ha.2 (ha.1.trans hb) (hl b) (h b hb) hkb
theorem GR (hg:gOn e g=true) (hf:Aa e fa=some (.clo k caps)) (hΓ:Γ (k+4096*AH (An e args))=some (OY ptr (.ptr s ty) enc dec f encR encE)) [hde:Py enc dec] (hr:(Af ptr 0 (An e args++caps)).run ⟨e,o,n⟩=(c,ds,w,ps))
  (hk:(Af ptr 0 (An e args++caps)).rd ⟨e,o,n⟩=rk) (hc:c) (ha:∃ a,f a=m/\ds=enc a)
  (h:∀ b,m=some b->TrO Γ r (nv+1) ⟨(dst,.optr dst nv 0 0)::e,((dst,some (nv,⟨false,true,s,ty,[encR b]⟩))::(Ak ps (encE b)++w))++o,n⟩ d (acc++[(gK g++(rdK fa++(Bl args++rk)),.e dst:: .o dst::(Ak ps (encE b)++w).map (λx=>.o x.1),af)]) K (kt b)) (hkb:aAH k 4096=true:=by rfl) :
  TrO Γ (⟨some dst,.call fa args,g,af⟩::r) nv ⟨e,o,n⟩ d acc K (m.bind kt) :=
 Ra λb hb=>ha.elim λa ha=>Afg a hg hf hΓ hde.ok hr hk hc ha.2 (ha.1.trans hb) (h b hb) hkb
variable {b:B} {t:Option X}
theorem GX (hg:gOn e g=true) (hf:Aa e fa=some (.clo k caps)) (hΓ:Γ (k+4096*AH (An e args))=some (OY ptr .val enc dec f encR encE)) [hde:Py enc dec] (hr:(Af ptr 0 (An e args++caps)).run ⟨e,o,n⟩=(c,ds,w,ps))
  (hk:(Af ptr 0 (An e args++caps)).rd ⟨e,o,n⟩=rk) (hm:m=some b) (hc:c) (ha:∃ a,f a=m/\ds=enc a)
  (h:TrO Γ r (nv+1) ⟨(dst,encR b)::e,(Ak ps (encE b)++w)++o,n⟩ d (acc++[(gK g++(rdK fa++(Bl args++rk)),.e dst::(Ak ps (encE b)++w).map (λx=>.o x.1),af)]) K t) (hkb:aAH k 4096=true:=by rfl) :
  TrO Γ (⟨some dst,.call fa args,g,af⟩::r) nv ⟨e,o,n⟩ d acc K t :=
 ha.elim λa ha=>Abo a hg hf hΓ hde.ok hr hk hc ha.2 (ha.1.trans hm) h hkb
theorem FX (hg:gOn e g=true) (hf:Aa e fa=some (.clo k caps)) (hΓ:Γ (k+4096*AH (An e args))=some (OY ptr .val enc dec f encR encE)) [hde:Py enc dec] (hr:(Af ptr 0 (An e args++caps)).run ⟨e,o,n⟩=(c,ds,w,ps))
  (hk:(Af ptr 0 (An e args++caps)).rd ⟨e,o,n⟩=rk) (hm:m=some b) (hc:c) (ha:∃ a,f a=m/\ds=enc a)
  (h:TrO Γ r (nv+1) ⟨e,(Ak ps (encE b)++w)++o,n⟩ d (acc++[(gK g++(rdK fa++(Bl args++rk)),(Ak ps (encE b)++w).map (λx=>.o x.1),af)]) K t) (hkb:aAH k 4096=true:=by rfl) :
  TrO Γ (⟨none,.call fa args,g,af⟩::r) nv ⟨e,o,n⟩ d acc K t :=
 ha.elim λa ha=>Ff a hg hf hΓ hde.ok hr hk hc ha.2 (ha.1.trans hm) h hkb
theorem EY (hg:gOn e g=true) (hf:Aa e fa=some (.clo k caps)) (hΓ:Γ (k+4096*AH (An e args))=some (OY [] .ground enc dec f encR encE)) [hde:Py enc dec] (hr:(Af [] 0 (An e args++caps)).run ⟨e,o,n⟩=(c,ds,w,ps))
  (hk:(Af [] 0 (An e args++caps)).rd ⟨e,o,n⟩=rk) (hm:m=some b) (hc:c) (ha:∃ a,f a=m/\ds=enc a) (hgr:isGround (encR b)=true)
  (h:TrO Γ r (nv+1) ⟨(dst,encR b)::e,o,n⟩ d (acc++[(gK g++(rdK fa++(Bl args++rk)),[.e dst],af)]) K t) (hkb:aAH k 4096=true:=by rfl) :
  TrO Γ (⟨some dst,.call fa args,g,af⟩::r) nv ⟨e,o,n⟩ d acc K t :=
 ha.elim λa ha=>AaF a hg hf hΓ hde.ok hr hk hc ha.2 (ha.1.trans hm) hgr h hkb
theorem GW {l:List α} {en:α->D} (hg:gOn e g=true) (hf:Aa e fa=some (.clo k caps)) (hΓ:Γ (k+4096*AH (An e args))=some (OY ptr (.row s ty) enc dec f encR encE)) [hde:Py enc dec] (hr:(Af ptr 0 (An e args++caps)).run ⟨e,o,n⟩=(c,ds,w,ps))
  (hk:(Af ptr 0 (An e args++caps)).rd ⟨e,o,n⟩=rk) (hm:m=some b) (hc:c) (ha:∃ a,f a=m/\ds=enc a) (hl:encR b= .sl (l.map en))
  (h:TrO Γ r (nv+1) ⟨(dst,.osl dst nv 0 l.length)::e,((dst,some (nv,⟨false,false,s,ty,l.map en⟩))::(Ak ps (encE b)++w))++o,n⟩ d (acc++[(gK g++(rdK fa++(Bl args++rk)),.e dst:: .o dst::(Ak ps (encE b)++w).map (λx=>.o x.1),af)]) K t) (hkb:aAH k 4096=true:=by rfl) :
  TrO Γ (⟨some dst,.call fa args,g,af⟩::r) nv ⟨e,o,n⟩ d acc K t :=
 ha.elim λa ha=>FF a hg hf hΓ hde.ok hr hk hc ha.2 (ha.1.trans hm) hl h hkb
theorem GV (hg:gOn e g=true) (hf:Aa e fa=some (.clo k caps)) (hΓ:Γ (k+4096*AH (An e args))=some (OY ptr (.ptr s ty) enc dec f encR encE)) [hde:Py enc dec] (hr:(Af ptr 0 (An e args++caps)).run ⟨e,o,n⟩=(c,ds,w,ps))
  (hk:(Af ptr 0 (An e args++caps)).rd ⟨e,o,n⟩=rk) (hm:m=some b) (hc:c) (ha:∃ a,f a=m/\ds=enc a)
  (h:TrO Γ r (nv+1) ⟨(dst,.optr dst nv 0 0)::e,((dst,some (nv,⟨false,true,s,ty,[encR b]⟩))::(Ak ps (encE b)++w))++o,n⟩ d (acc++[(gK g++(rdK fa++(Bl args++rk)),.e dst:: .o dst::(Ak ps (encE b)++w).map (λx=>.o x.1),af)]) K t) (hkb:aAH k 4096=true:=by rfl) :
  TrO Γ (⟨some dst,.call fa args,g,af⟩::r) nv ⟨e,o,n⟩ d acc K t :=
 ha.elim λa ha=>Afg a hg hf hΓ hde.ok hr hk hc ha.2 (ha.1.trans hm) h hkb
end
def HI (o:List (Nat×Ab)):List Nat->List (Nat×Ab)
 | []=>[]
 | g::r=>(g,(lkO o g).map λx=>(x.1,{ x.2 with fz:=true }))::HI o r
theorem Lf {o:List (Nat×Ab)}:∀ {gs:List Nat},(gs.all λg=>match lkO o g with|some (_,p)=>!p.var|none=>false)=true->FzB o (HI o gs)
 | [],_=>trivial
 | g::r,h=>by
  simp only[List.all_cons,aAS]at h;refine⟨?_,Lf h.2⟩
  grind
theorem NR {o:List (Nat×Ab)} {n:Nat} (gs:List Nat) (hw:(gs.all λg=>match lkO o g with|some (_,p)=>!p.var|none=>false)=true) (hE:Iv e o n (HI o gs) E) (hO:Iw e o n (HI o gs) O):Has ⟨e,o,n⟩ E O:=Adz _ (Lf hw) hE hO
section
variable {Γ:Aq} {R ι γ:Type} {K:R->Au->S->Prop} {τ:S} {t:Option R} {E:ι->γ->List (Nat×D)} {O:ι->γ->List (Nat×Ab)} {j:ι->Option R}
theorem OC (h:∃ s g,j s=t/\Has τ (E s g) (O s g)):TrX .normal (IQ E O j K) τ t:=by
 obtain⟨s,g,rfl,h⟩:=h;exact AbR g h
theorem Iq (h:∃ s g,j s=t/\Has τ (E s g) (O s g)):TrX .normal (Ds id E O j K) τ t:=by
 obtain⟨s,g,rfl,h⟩:=h;exact PS g h
theorem Jr (h:∃ s g,j s=t/\Has τ (E s g) (O s g)):TrX (.exit id) (Ds id E O j K) τ t:=by
 obtain⟨s,g,rfl,h⟩:=h;exact Tc g h
theorem NS {s:ι} (h:∃ g,Has τ (E s g) (O s g)):TrX .normal (Hj E O K) τ (cnt s):=by
 obtain⟨g,h⟩:=h;exact XW g h
theorem exU {p:Unit->Prop} (h:p ()):∃ s,p s:=⟨_,h⟩
theorem exP {β:Type} {p:α×β->Prop} (h:∃ a b,p (a,b)):∃ s,p s:=h.elim λa h=>h.elim λb h=>⟨(a,b),h⟩
end
section
variable {A B:Type} {ptr:List (Nat×(Nat×Nat))} {kind:Kind} {enc:A->List D} {dec:List D->A} {f:A->Option B} {encR:B->D} {encE:B->List D}
theorem fn2 {P:Program} [hde:Py enc dec] (np:Nat) (hΓ:∀ k sp,Γ k=some sp->OW P (k % 4096) sp) (hf:P.funcs[k]? =some fn) (hT:∀ a,Tr Γ dc (Bx ptr kind rs encR encE) ⟨Dq ptr 0 (enc a),CC ptr 0 (enc a),262144⟩ (f a)) (hc:(fn.body.bind (PY P fn.ntmps))=some dc:=by conv=>lhs;cbv) (hr:fn.results.toList.mapM (Ug P)=some rs:=by conv=>lhs;cbv) (hname:(fn.name == "runtime.NumGoroutine")=false:=by decide) (hnp:np<=fn.ntmps:=by decide) (hlen:∀ a,(enc a).length=np:=by exact λ_=>rfl) (hkeys:∀ a,BF ptr 0 (enc a)=ptr.map Prod.fst:=by exact λ_=>rfl) (hptr:EK ptr=true:=by decide) (hni:BI kind=none:=by rfl) (hno:DZ kind=none:=by rfl):OW P k (OY ptr kind enc dec f encR encE) :=
 OD hΓ hf hname hc hr hnp hde.ok hlen hkeys hptr (λa=>Oy (hT a)) hni hno
end
structure Ct (n:Nat):Prop
theorem Ct.dec {n:Nat} (_:Ct (n+1)):Ct n:=⟨⟩
end Go.Dw
