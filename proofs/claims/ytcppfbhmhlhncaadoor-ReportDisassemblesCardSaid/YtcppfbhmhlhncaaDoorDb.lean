/-
  THE LAYER: symbolic semantics of compiled code, and programs on typed data.
-/
import Derived.Test.YtcppfbhmhlhncaaDoorDa
import Derived.Laws.BytesString
open Array renaming getElem?_eq_getElem->aAD,getD_eq_getD_getElem?->aAE,ext'->aAT,getElem?_setIfInBounds->aAZ,getElem?_eq_some_iff->aAc,eq_empty_of_size_eq_zero->aAi,all_eq_true'->aAs,getElem?_push_lt->aAw,getElem?_toList->aAz,size_push->aBL
open Bool renaming and_eq_true->aAY,false_eq_true->aAj,and_eq_true_iff->aBA
open Go.Instr renaming sureAddr->aAt,findNow->aAy,mapUpdate->aBK,next->aBO,sameNow->aBQ,lookup->aBR
open List renaming mem_of_getElem?->aAB,getElem?_eq_some_iff->aAF,mem_append->aAG,getElem?_cons_zero->aAH,getElem?_cons_succ->aAI,getD_eq_getElem?_getD->aAJ,getElem?_map->aAK,getElem?_append_right->aAN,getElem?_append_left->aAP,getElem?_eq_getElem->aAQ,all_eq_true->aAS,mem_of_mem_take->aAU,getElem?_take->aAV,eq_nil_iff_forall_not_mem->aAW,mem_map->aAX,getElem?_set_ne->aAd,replicate->aAf,mem_range->aAg,map_cons->aAh,mem_filter->aAl,getElem?_set_self->aAm,length_replicate->aAn,mem_or_eq_of_mem_set->aAp,mem_singleton->aAr,append_assoc->aAu,mem_cons->aAx,mem_replicate->aBE,length_take->aBH,nil_append->aBJ,range->aBP
open Nat renaming le_refl->aAL,zero_add->aAa,le_trans->aAb,mul_le_mul_right->aAe,lt_of_lt_of_le->aAk,min->aAo,add_zero->aAq,mul_one->aAv,eq_of_beq_eq_true->aB,min_le_left->aBB,add_assoc->aBF,lt_trichotomy->aBG,min_le_right->aBI,blt_eq->aBM
open Option renaming bind_eq_some_iff->aA,bind_eq_bind->aAA,getD_some->aAC,map_eq_some_iff->aAM,isSome_iff_exists->aAO,map_some->aBC
open Go.Program renaming cellsOf->aAR
open UInt8 renaming ofNat->aBD
open Go.World renaming cell?_of_block->aBN
namespace Go.Dw
section
variable {N:Nat} {w0:World} {F0:Fz} {M:Nat->Prop} {B0:Bt} {σ:S} {F:Fz} {β:Bt} {a:Act} {w:World} {P:Program}
theorem DU (h:Sim N w0 F0 M B0 σ F β a w):∀ {xs:List Operand} {ys:List Arg},CX xs=some ys->((AL ys).run σ).length=xs.length/\∀ (q:Nat) d x,((AL ys).run σ)[q]? =some d->(xs.map a.eval)[q]? =some x->Env F β d x
 | [],ys,hy=>by
  simp[CX]at hy
  subst hy
  exact⟨rfl,λq d x hq=>by simp[AL]at hq⟩
 | x::xs,ys,hy=>by
  simp only[CX,List.mapM_cons,aAA,aA]at hy
  obtain⟨y,hy1,ys',hy2,hy3⟩:=hy
  cases hy3
  obtain⟨l,r⟩:=DU h (xs:=xs) (ys:=ys') hy2
  refine⟨by simp[AL,l],λq d x' hq hx=>?_⟩
  simp only[AL,R.run_bind,R.run_pure]at hq
  rcases q with _|q
  ·simp only[aAH,Option.some.injEq,aAh]at hq hx
   subst hq;subst hx
   exact CI h hy1
  ·simp only[aAI,aAh]at hq hx
   exact r q d x' hq hx
theorem PY (y:Arg) (σ:S):(rdA y).run σ=strip ((raw y).run σ):=by simp[rdA]
theorem HW {d:D} {x:Value} (h:Env F β d x) (hc:((res d).run σ).1):Val F β d x:=by
 cases d<;>first|exact h|exact hc.elim
theorem Hr {ptr:List (Nat×(Nat×Nat))} {d:D} {j:Nat} (hc:((BK ptr j d).run σ).1) {x:Value} (h:Env F β d x):Val F β d x:=by
 cases d<;>first|exact h|skip
 exfalso
 simp only[BK,AM]at hc
 split at hc
 ·exact hc
 ·exact hc.elim
theorem EC {ptr:List (Nat×(Nat×Nat))}:∀ (ds:List D) (j q:Nat) (d:D),((Ae ptr j ds).run σ).1->ds[q]? =some d->∀ x,Env F β d x->Val F β d x
 | [],_,q,d,_,hq,x,_=>by simp at hq
 | d0::ds,j,q,d,hc,hq,x,hx=>by
  unfold Ae at hc
  simp only[R.run_bind,R.run_pure]at hc
  rcases q with _|q
  ·simp only[aAH,Option.some.injEq]at hq
   subst hq
   exact Hr hc.1 hx
  ·exact EC ds (j+1) q d hc.2.1 (by simpa using hq) x hx
theorem Snd.false {o:Oper} {nv:Nat} {u:Out} (h:u.c->False) (hc:u.c):Snd P N w0 F0 M B0 σ β a w o nv u:=(h hc).elim
theorem MX {Γ:Ar} (hΓ:∀ k sp,Γ k=some sp->Bv P F0 (k % 4096) sp) (h:Sim N w0 F0 M B0 σ F β a w) {nv:Nat} (hnv:β nv=none) {o:Oper} (hd:∀ t,o.dst=some t->t<N) (htr:∀ t,o.dst=some t->Ab t=false)
  {f:Operand} {as:Array Operand} {ts:Array TypeId} (ho:o.op= .call { callee:=.value f,args:=as,argTypes:=ts }) {fa:Arg} {ys:List Arg} (hf:Ak f=some fa) (hy:CX as.toList=some ys)
  (hc:((evalOp Γ nv o.dst (.call fa ys)).run σ).c):Snd P N w0 F0 M B0 σ β a w o nv ((evalOp Γ nv o.dst (.call fa ys)).run σ):=by
 have hfe:=CI h hf
 simp only[evalOp,R.run_bind]at hc ⊢
 generalize(raw fa).run σ=fd at *
 cases fd<;>try exact hc.elim
 case clo k caps =>
  simp only[R.run_bind]at hc ⊢
  obtain⟨vs,hvs,hvl,hvr⟩:=hfe
  obtain⟨l,r⟩:=DU h hy
  generalize hke:unb ys k=k' at *
  cases hkb:Nat.blt k' 4096 with
  | false=>rw[hkb]at hc;exact hc.elim
  | true =>
  rw[hkb]at hc
  have hkm:(k'+4096*AN ((AL ys).run σ)) % 4096=k':=by
   have:k'<4096:=by simpa[aBM]using hkb
   omega
  cases hG:Γ (k'+4096*AN ((AL ys).run σ))with
  | none=>rw[hG]at hc;exact hc.elim
  | some sp =>
   rw[hG]at hc
   simp only at hc ⊢
   have hsp:=hΓ _ sp hG
   rw[hkm]at hsp
   obtain⟨fn,hfn,hnm,hbd⟩:=hsp.1
   have hrun:(execOp a.eval o).run P w= .ok (.enter k' (as.toList.map a.eval++vs).toArray) w:=by
    unfold execOp
    simp only[ho]
    have e1:(as.map a.eval++vs.toArray)=(as.toList.map a.eval++vs).toArray:=by
     apply aAT
     simp
    have hnm':¬ fn.name = "runtime.NumGoroutine":=by simpa using hnm
    have hbd':¬ fn.body=none:=by intro e;rw[e]at hbd;cases hbd
    cases hkk:Nat.blt k 4096 with
    | true =>
     have e2:k'=k:=by rw[<- hke];exact Dc hkk
     subst e2
     rw[Hv hkk]at hvs
     rw[<- e1]
     simp[resolve,Deferred.ofValue,hvs,invoke,callFunc,hfn,hnm',hbd']
    | false =>
     obtain⟨q,rfl⟩:∃ q,k=4096+q:=by
      refine⟨k-4096,?_⟩
      have:¬ k<4096:=λhlt=>by
       have:Nat.blt k 4096=true:=by simpa[aBM]using hlt
       rw[this]at hkk;cases hkk
      omega
     rw[Kc]at hvs
     cases hys:ys with
     | nil =>
      rw[hys,Ow]at hke
      subst hke
      have e3:as= #[]:=by
       apply aAT
       have:as.toList.length=0:=by rw[<- l,hys];rfl
       simpa using List.eq_nil_of_length_eq_zero this
      subst e3
      simp[resolve,Deferred.ofValue,hvs,invoke,callFunc,hfn,hnm',hbd']
     | cons y ys' =>
      rw[hys]at hke
      have hke':4096+q=k':=hke
      rw[<- hke',hkk]at hkb
      cases hkb
   cases hin:Cc sp.kind with
   | some q =>
    rw[hin]at hc
    simp only at hc ⊢
    have hall:∀ (j:Nat) d x,((AL ys).run σ++caps)[j]? =some d->(as.toList.map a.eval++vs)[j]? =some x->Env F β d x:=by
     intro j d x hq hx
     by_cases hlt:j<as.toList.length
     ·rw[aAP (by rw[l];exact hlt)]at hq
      rw[aAP (by simpa using hlt)]at hx
      exact r j d x hq hx
     ·rw[aAN (by rw[l];omega),l]at hq
      rw[aAN (by simp at hlt ⊢;omega)]at hx
      simp only[List.length_map]at hx
      exact Env.Ah (Val.Ap (Cel.CL (hvr _ d x hq hx)))
    have hcall:=Oa (hsp.2.1 q hin) h hd (ds:=(AL ys).run σ++caps) (xs:=as.toList.map a.eval++vs) (by simp[l,hvl]) hall hc
    intro K Q hK
    unfold Oper.wp
    rw[hrun]
    simp only[Oper.upon]
    refine hcall.mono ?_
    rintro e w' ⟨v,F',β',rfl,b1,b2,b3⟩
    exact hK _ _ _ _ b3 b1 λx _=>b2 x
   | none =>
   rw[hin]at hc
   simp only[R.run_bind,R.run_pure]at hc ⊢
   have hcargs:((Ae sp.ptr 0 ((AL ys).run σ++caps)).run σ).1:=by
    unfold Bg at hc
    split at hc
    ·exact hc.1
    ·exact hc.1
    ·split at hc
     ·exact hc.1
     ·exact hc.elim
    ·split at hc
     ·exact hc.1
     ·exact hc.elim
    ·exact hc.1
    ·split at hc
     ·exact hc.1
     ·exact hc.elim
    ·exact hc.elim
    ·exact hc.elim
   have hall:∀ (q:Nat) d x,((AL ys).run σ++caps)[q]? =some d->(as.toList.map a.eval++vs)[q]? =some x->Val F β d x:=by
    intro q d x hq hx
    refine EC _ 0 q d hcargs hq x ?_
    by_cases hlt:q<as.toList.length
    ·rw[aAP (by rw[l];exact hlt)]at hq
     rw[aAP (by simpa using hlt)]at hx
     exact r q d x hq hx
    ·rw[aAN (by rw[l];omega),l]at hq
     rw[aAN (by simp at hlt ⊢;omega)]at hx
     simp only[List.length_map]at hx
     exact Env.Ah (Val.Ap (Cel.CL (hvr _ d x hq hx)))
   have hcall:=NM hsp h hnv hd htr (ds:=(AL ys).run σ++caps) (xs:=as.toList.map a.eval++vs) (by simp[l,hvl]) hall rfl hc
   intro K Q hK
   unfold Oper.wp
   rw[hrun]
   simp only[Oper.upon]
   refine hcall.mono ?_
   rintro e w' ⟨v,F',β',rfl,b1,b2,b3⟩
   exact hK _ _ _ _ b3 b1 b2
theorem EX (h:Sim N w0 F0 M B0 σ F β a w) {places:Nat->Option (Nat×Nat)}:∀ (parts:List (Nat×Operand)) (ps:List (Nat×Nat×Arg)),CY places parts=some ps ->
  ((BL ps).run σ).length=parts.length/\∀ (q:Nat) i x off s d,(parts.map λp=>(p.1,a.eval p.2))[q]? =some (i,x)->((BL ps).run σ)[q]? =some (off,s,d)->places i=some (off,s)/\Env F β d x
 | [],ps,hp=>by
  simp only[CY,Option.some.injEq]at hp
  subst hp
  exact⟨rfl,λq i x off s d hq=>by simp at hq⟩
 | (i0,x0)::parts,ps,hp=>by
  simp only[CY,aAA,aA]at hp
  obtain⟨⟨off0,s0⟩,h1,y,h2,r',h3,h4⟩:=hp
  cases h4
  obtain⟨l,r⟩:=EX h parts r' h3
  refine⟨by simp[BL,l],λq i x off s d hq hd=>?_⟩
  simp only[BL,R.run_bind,R.run_pure]at hd
  rcases q with _|q
  ·simp only[aAh,aAH,Option.some.injEq,Prod.mk.injEq]at hq hd
   obtain⟨rfl,rfl⟩:=hq
   obtain⟨rfl,rfl,rfl⟩:=hd
   exact⟨h1,CI h h2⟩
  ·simp only[aAh,aAI]at hq hd
   exact r q i x off s d hq hd
theorem HB (h:Sim N w0 F0 M B0 σ F β a w):∀ (parts:List (Nat×Operand)) (ps:List (Nat×Arg)),Ev parts=some ps->((AX ps).run σ).1 ->
  Aq σ ((AX ps).run σ).2.2/\((AX ps).run σ).2.1.length=parts.length /\
   ∀ (ws:List (Nat×Ac)) F',Aq σ ws->(∀ p∈((AX ps).run σ).2.2,p∈ws)->Ag F F'->Sim N w0 F0 M B0 ⟨σ.e,ws++σ.o,σ.n⟩ F' β a w ->
    ∀ (q:Nat) i x i' d,(parts.map λp=>(p.1,a.eval p.2))[q]? =some (i,x)->((AX ps).run σ).2.1[q]? =some (i',d)->i=i'/\Fro F' d x
 | [],ps,hp,_=>by
  simp only[Ev,Option.some.injEq]at hp
  subst hp
  exact⟨Aq.nil σ,rfl,λ_ _ _ _ _ _ q i x i' d hq=>by simp at hq⟩
 | (i0,x0)::parts,ps,hp,hc=>by
  simp only[Ev,aAA,aA]at hp
  obtain⟨y,h2,r',h3,h4⟩:=hp
  cases h4
  simp only[AX,R.run_bind,R.run_pure]at hc ⊢
  obtain⟨hc1,hc2⟩:=hc
  obtain⟨f1,r1⟩:=FK h _ (HW (CI h h2) hc1) hc1
  obtain⟨f2,l2,r2⟩:=HB h parts r' h3 hc2
  refine⟨f1.append f2,by simp[l2],λws F' q1 q2 q3 q4 q i x i' d hq hd=>?_⟩
  rcases q with _|q
  ·simp only[aAh,aAH,Option.some.injEq,Prod.mk.injEq]at hq hd
   obtain⟨rfl,rfl⟩:=hq
   obtain⟨rfl,rfl⟩:=hd
   exact⟨rfl,r1 ws F' q1 (λp hp=>q2 p (by simp[hp])) q3 q4⟩
  ·simp only[aAh,aAI]at hq hd
   exact r2 ws F' q1 (λp hp=>q2 p (by simp[hp])) q3 q4 q i x i' d hq hd
theorem OX (h:Sim N w0 F0 M B0 σ F β a w) {x? :Option Operand} {y? :Option Arg} (hy:Fx x? =some y?) :
  (∀ d,(Bi y?).run σ=some d->∃ x,x?.map a.eval=some x/\Env F β d x)/\((Bi y?).run σ=none->x?.map a.eval=none):=by
 cases x? with
 | none =>
  simp only[Fx,Option.some.injEq]at hy
  subst hy
  exact⟨λd hd=>by simp[Bi]at hd,λ_=>rfl⟩
 | some x =>
  simp only[Fx,aAA,aA]at hy
  obtain⟨y,h1,h2⟩:=hy
  cases h2
  simp only[Bi,R.run_bind,R.run_pure,Option.some.injEq]
  exact⟨λd hd=>by subst hd;exact⟨_,rfl,CI h h1⟩,λe=>by cases e⟩
theorem LF {d:D} {n:Int} {x:Value} (h:Env F β d x) (hb:(bound (some d) n).1):Val F β d x:=by
 cases d<;>first|exact h|exact hb.elim
end
theorem JM {t:Nat} (h:Nat.blt t 4096=true):Ab t=false:=by
 have:t<4096:=by simpa[aBM]using h
 simp only[Ab]
 cases hb:Nat.ble 4096 t
 ·rfl
 ·have:=Nat.le_of_ble_eq_true hb;omega
theorem Cs {N:Nat} {dst:Option Nat} {op:DOp} (h:CO N dst op=true) (h1:∀ f as,op≠ .call f as) (h2:∀ n a x,op≠ .st n a x) (h3:Dt op=false:=by rfl) (h4:op≠ .fail:=by intro h;cases h):∃ t,dst=some t/\t<N:=by
 unfold CO at h
 cases dst with
 | some t =>
  refine⟨t,rfl,?_⟩
  cases op<;>first|(exfalso;exact h2 _ _ _ rfl)|(cases h3;done)|exact of_decide_eq_true (aBA.1 h).1
 | none=>cases op<;>first|(exfalso;exact h4 rfl)|(exfalso;exact h2 _ _ _ rfl)|(exfalso;exact h1 _ _ rfl)|(cases h3;done)|cases h
theorem DX {N:Nat} {dst:Option Nat} {op:DOp} (h:CO N dst op=true):∀ t,dst=some t->t<N:=by
 rintro t rfl
 unfold CO at h
 cases op<;>first|exact of_decide_eq_true (aBA.1 h).1|cases h
theorem MH {N:Nat} {dst:Option Nat} {op:DOp} (h:CO N dst op=true):∀ t,dst=some t->Ab t=false:=by
 rintro t rfl
 unfold CO at h
 cases op<;>first|exact JM (aBA.1 h).2|cases h
section
variable {N:Nat} {w0:World} {F0:Fz} {M:Nat->Prop} {B0:Bt} {σ:S} {F:Fz} {β:Bt} {a:Act} {w:World} {P:Program}
theorem Kv {Γ:Ar} (h:Sim N w0 F0 M B0 σ F β a w) {nv:Nat} (hnv:β nv=none) {o:Oper} {t:Nat} (hdst:o.dst=some t) (ht:t<N) (htr:Ab t=false) {x:Operand} (ho:o.op= .assign x) {y:Arg} (hy:Ak x=some y) {sl:Option (Nat×Nat)} (hsl:∀ s ty,sl=some (s,ty)->0<s)
  (hc:((evalOp Γ nv o.dst (.asg y sl)).run σ).c):Snd P N w0 F0 M B0 σ β a w o nv ((evalOp Γ nv o.dst (.asg y sl)).run σ):=by
 have he:=CI h hy
 have hrun:(execOp a.eval o).run P w= .ok (.value (a.eval x)) w:=by unfold execOp;rw[ho];rfl
 have hplain:Snd P N w0 F0 M B0 σ β a w o nv ⟨True,Ad o.dst ((raw y).run σ),[]⟩:=Snd.pure' h (λt' e=>by rw[hdst]at e;cases e;exact ht) hrun he
 simp only[evalOp,R.run_bind]at hc ⊢
 generalize(raw y).run σ=d at *
 split at hc
 ·
  rename_i s ty
  simp only[R.run_pure]at hc ⊢
  intro K Q hK
  unfold Oper.wp
  rw[hrun]
  simp only[Oper.upon,hdst]
  have hx:a.eval x= .slice none 0 0:=Fe (β:=β) he
  have hok:AA F (upB β nv ⟨none,0,s⟩) w ⟨none,0,s⟩ ⟨false,false,s,ty,[]⟩:=⟨rfl,hsl s ty rfl,by simp,by simp,λe he=>by simp at he,rfl,rfl⟩
  have hβ:=Ba (β:=β) (nv:=nv) ⟨none,0,s⟩ hnv
  have hgo:=λg=>S.DY (c:=True) (we:=Ad (some t) (.osl t nv 0 0)) (t:=t) (nv:=nv) (o:=⟨false,false,s,ty,[]⟩) σ g
  rw[hdst]at hK
  refine hK _ w F (upB β nv ⟨none,0,s⟩) ?_ hβ (λv hv=>Ce _ _ hv)
  refine h.change (row:=λ_=>False) rfl rfl rfl (aAL _) (λ_ _ _=>rfl) (λ_ hr=>hr.elim) (Ag.refl _) (λ_ _ _ _=>rfl) h.frz h.fin hβ (by rw[BW];exact h.size) (by rw[Bs];exact h.defers)
   (h.CB (Ag.refl _) hβ (λt' e=>by cases e;exact ht) ⟨_,none,An _ _ _,hx,aAL _,λ_=>rfl,λhp=>absurd hp (by omega)⟩) ?_ ?_ ?_
  ·intro g v o' hg
   simp only[aAC]at hg
   rw[hgo]at hg
   split at hg
   ·cases hg
    exact .inr ⟨_,An _ _ _,rfl,hok,λb hb=>by cases hb⟩
   ·exact .inl ⟨hg,λ_ _ _ _ _=>id⟩
  ·intro g1 g2 v1 v2 o1 o2 L1 L2 b hg1 hg2 hf1 hf2 hL1 hL2 hb1 hb2 hr
   simp only[aAC]at hg1 hg2
   rw[hgo]at hg1 hg2
   split at hg1
   ·cases hg1
    rw[An]at hL1;cases hL1;cases hb1
   ·split at hg2
    ·cases hg2
     rw[An]at hL2;cases hL2;cases hb2
    ·obtain⟨L1',e1,_⟩:=h.own _ _ _ hg1
     have:=hβ _ _ e1;rw[hL1]at this;cases this
     have:=(h.sep _ _ _ _ b hg1 hf1 e1 hb1).2.1
     rcases hr with hr|hr
     ·exact hr.elim
     ·omega
  ·intro φ hφ
   refine⟨φ,hφ.QA (Ag.refl _) hβ (aAL _) (λ_ _ _ _ _ _=>rfl) (λ_ _ _ _ _=>rfl) (λg v o hg=>?_) (λg v o hr hg hf=>?_) (λg i j b g' v' o' L' hb hg hf hL'=>?_)⟩
   ·obtain⟨L,hL,_⟩:=h.own g v o hg
    exact⟨L,hL⟩
   ·simp only[aAC]at hg
    rw[hgo]at hg
    split at hg
    ·cases hg;exact .inr (λe he=>by cases he)
    ·exact .inl ⟨o,hg,hf,rfl,rfl,λi j e c he hj _=>⟨⟨e,he,hj⟩,λL b C x _ _ hC hx=>⟨C,hC,hx⟩⟩⟩
   ·simp only[aAC]at hg
    rw[hgo]at hg
    split at hg
    ·cases hg
     rw[An]at hL';cases hL'
     exact λe=>by cases e
    ·obtain⟨L0,e0,_⟩:=h.own g' v' o' hg
     have:=hβ _ _ e0
     rw[hL']at this;cases this
     exact hφ.sep g i j b g' v' o' L' hb hg hf e0
 ·
  rename_i g v n st
  simp only[R.run]at hc ⊢
  cases hg:σ.go g with
  | none=>rw[hg]at hc;exact hc.elim
  | some p =>
   obtain⟨v',ow⟩:=p
   rw[hg]at hc
   simp only at hc ⊢
   by_cases hfz:ow.fz=true
   ·rw[if_pos hfz]at hc ⊢
    simp only[R.run]at hc ⊢
    obtain⟨rfl,hvar,hn⟩:=hc
    refine Snd.pure' h (λt' e=>by rw[hdst]at e;cases e;exact ht) hrun (Env.Af ?_)
    obtain⟨L,A,hL,hx,hcap,_,hpos⟩:=he
    obtain⟨L',hL',hz,_⟩:=h.own g v ow hg
    rw[hL]at hL';cases hL'
    rw[hx]
    have:=GO (hz hfz) (i:=0) (n:=n) (c:=L.cap-0) (a:=A) (by simpa using hn) (by simpa using hcap) (by simpa using hpos) (by omega)
    simpa using this
   ·have hfz':¬ (ow.fz=true):=hfz
    replace hfz:ow.fz=false:=by simpa using hfz
    rw[if_neg hfz']at hc ⊢
    by_cases hrch:Ab g=true
    ·rw[if_pos hrch];exact hplain
    rw[if_neg hrch]at hc ⊢
    simp only[R.run]at hc ⊢
    obtain⟨rfl,hvar,hn,hpl⟩:=hc
    obtain⟨L,A,hL,hx,hcap,ha0,hpos⟩:=he
    obtain⟨L',hL',_,hk⟩:=h.own g v ow hg
    rw[hL]at hL';cases hL'
    obtain⟨e1,e2,e3,e4,e5,e6⟩:=hk hfz
    have hβ:=Ba (β:=β) (nv:=nv) L hnv
    have hok:AA F (upB β nv L) w L { ow with es:=ow.es.take n }:=by
     refine⟨e1,e2,by simp;omega,e4,λe he=>e5 e (aAU he),?_⟩
     cases hb:L.b with
     | none=>rw[hb]at e6;exact e6
     | some b =>
      rw[hb]at e6
      obtain⟨C,hC,hCs,hcell⟩:=e6
      refine⟨C,hC,hCs,λi j e c he hj=>?_⟩
      simp only[aAV]at he
      split at he
      ·obtain⟨x,x1,x2,x3⟩:=hcell i j e c he hj
       rw[hvar]at x3
       exact⟨x,x1,x2,by simpa[hvar]using x3⟩
      ·cases he
    intro K Q hK
    unfold Oper.wp
    rw[hrun]
    simp only[Oper.upon,hdst]
    rw[hdst]at hK
    simp only[aAC]at hK
    obtain⟨tt,htt⟩:∃ tt,tt=nmR (Ab g) t:=⟨_,rfl⟩
    have hput:∀ q,CH (Ab g) (some t) q=AH (some tt) q:=λq=>by rw[htt];rfl
    rw[<- htt,hput]at hK
    have hgo:∀ (c:Prop) (we:List (Nat×D)) g' v' o',(σ.app ⟨c,we,AH (some tt) (some (nv,{ ow with es:=ow.es.take n }))++[(g,none)]⟩).go g'=some (v',o')->(g'=tt/\v'=nv/\o'={ ow with es:=ow.es.take n })\/(g'≠tt/\g'≠g/\σ.go g'=some (v',o')):=by
     intro c we g' v' o' hg'
     rw[S.Cu]at hg'
     simp only[AH,List.singleton_append,look]at hg'
     by_cases h2:g'=tt
     ·rw[if_pos h2]at hg'
      cases hg'
      exact .inl ⟨h2,rfl,rfl⟩
     ·rw[if_neg h2]at hg'
      by_cases h1:g'=g
      ·rw[if_pos h1]at hg';cases hg'
      ·rw[if_neg h1]at hg'
       exact .inr ⟨h2,h1,hg'⟩
    refine hK _ w F (upB β nv L) ?_ hβ (λv hv=>Ce _ _ hv)
    refine h.change (row:=λb=>L.b=some b) rfl rfl rfl (aAL _) (λ_ _ _=>rfl) ?_ (Ag.refl _) (λ_ _ _ _=>rfl) h.frz h.fin hβ (by rw[BW];exact h.size) (by rw[Bs];exact h.defers)
     (h.CB (Ag.refl _) hβ (λt' e=>by cases e;exact ht) ⟨L,A,An _ _ _,hx,hcap,ha0,hpos⟩) ?_ ?_ ?_
    ·intro b hb
     exact(h.sep g v ow L b hg hfz hL hb).2.2.imp id And.left
    ·intro g' v' o' hg'
     rcases hgo _ _ g' v' o' hg' with⟨h1,rfl,rfl⟩|⟨h1,h2,h3⟩
     ·refine .inr ⟨L,An _ _ _,hfz,hok,λb hb=>?_⟩
      obtain⟨s1,s2,s3⟩:=h.sep g v ow L b hg hfz hL hb
      refine⟨s1,s2,s3.imp id (λz=>⟨z.1,z.2.imp (λhr=>?_) id⟩),.inl hb⟩
      rw[h1,htt,hr];simp[nmR,Ab]
     ·refine .inl ⟨h3,λL' b hf hL' hb' hb=>?_⟩
      exact h2 (h.dist g' g v' v o' ow L' L b h3 hg hf hfz hL' hL hb' hb)
    ·intro g1 g2 v1 v2 o1 o2 L1 L2 b hg1 hg2 hf1 hf2 hL1 hL2 hb1 hb2 hr
     have key:∀ (c:Prop) (we:List (Nat×D)) g' v' o' L',(σ.app ⟨c,we,AH (some tt) (some (nv,{ ow with es:=ow.es.take n }))++[(g,none)]⟩).go g'=some (v',o')->o'.fz=false->upB β nv L v'=some L'->L'.b=some b->g'=tt:=by
      intro c we g' v' o' L' hg' hf' hL' hb'
      rcases hgo _ _ g' v' o' hg' with⟨h1,_⟩|⟨h1,h2,h3⟩
      ·exact h1
      ·exfalso
       obtain⟨L0,k0,_⟩:=h.own g' v' o' h3
       have:=hβ _ _ k0
       rw[hL']at this;cases this
       rcases hr with hr|hr
       ·exact h2 (h.dist g' g v' v o' ow _ L b h3 hg hf' hfz k0 hL hb' hr)
       ·have:=(h.sep g' v' o' _ b h3 hf' k0 hb').2.1
        omega
     rw[key _ _ g1 v1 o1 L1 hg1 hf1 hL1 hb1,key _ _ g2 v2 o2 L2 hg2 hf2 hL2 hb2]
    ·intro φ hφ
     refine⟨φ,hφ.QA (Ag.refl _) hβ (aAL _) (λ_ _ _ _ _ _=>rfl) (λ_ _ _ _ _=>rfl) (λg v o hg=>?_) (λg' v' o' hr hg' hf=>?_) (λg1 i j b g' v' o' L' hb hg' hf hL'=>?_)⟩
     ·obtain⟨L,hL,_⟩:=h.own g v o hg
      exact⟨L,hL⟩
     ·rcases hgo _ _ g' v' o' hg' with⟨h1,rfl,rfl⟩|⟨h1,h2,h3⟩
      ·refine .inr λe he=>hpl ?_ e (aAU he)
       cases hrg:Ab g with
       | true=>rfl
       | false =>
        rw[h1,htt,hrg]at hr
        simp only[nmR,cond_false]at hr
        rw[htr]at hr;cases hr
      ·exact .inl ⟨o',h3,hf,rfl,rfl,λi j e c he hj _=>⟨⟨e,he,hj⟩,λL b C x _ _ hC hx=>⟨C,hC,hx⟩⟩⟩
     ·rcases hgo _ _ g' v' o' hg' with⟨h1,rfl,rfl⟩|⟨h1,h2,h3⟩
      ·rw[An]at hL';cases hL'
       exact hφ.sep g1 i j b g v ow _ hb hg hfz hL
      ·obtain⟨L0,e0,_⟩:=h.own g' v' o' h3
       have:=hβ _ _ e0
       rw[hL']at this;cases this
       exact hφ.sep g1 i j b g' v' o' L' hb h3 hf e0
 ·exact hplain
end
section
variable {N:Nat} {w0:World} {F0:Fz} {M:Nat->Prop} {B0:Bt} {σ:S} {F:Fz} {β:Bt} {a:Act} {w:World} {P:Program}
theorem CD (e:List (Nat×D)) (o:List (Nat×Ac)) (n k g:Nat) (y:Ac):(S.mk e ((k,y)::o) n).go g=if g=k then y else(S.mk e o n).go g:=by
 simp only[S.go,look]
 split<;>simp
theorem BZ {e:D} {off:Nat} {d:D} (hle:off<(cells e).length) (h1:cells d=[d]) (q:Nat):(cells (QG e off [d])).length=(cells e).length/\(cells (QG e off [d]))[q]? =if q=off then some d else(cells e)[q]?:=by
 rw[EP (by simp;omega) (λc hc=>by simp at hc;subst hc;exact h1) (.inl (by simp))]
 obtain⟨h2,h3⟩:=Ek [d] (cells e) off
 refine⟨h2,?_⟩
 rw[h3]
 simp only[List.length_singleton]
 by_cases hq:q=off
 ·subst hq
  rw[if_pos ⟨aAL _,by omega,hle⟩,if_pos rfl]
  simp
 ·rw[if_neg (by omega),if_neg hq]
theorem Kk (h:Sim N w0 F0 M B0 σ F β a w) {nv t:Nat} (hnv:β nv=none) (ht:t<N) {g v i off s ty:Nat} {es:List D} {o:Own} (hg:σ.go g=some (v,o)) (hr:Ab g=true) (hfz:o.fz=false) (hi:i<o.es.length)
  (hrow:(cells (o.es.getD i .top))[off]? =some (.row s ty es)) (hne:g≠4096+t) {px:Value} (hpx:Val F β (.optr g v i off) px) (c:Prop) :
  ∃ b L x,px= .pointer (some ⟨b,i*o.s+off,none⟩)/\w.cell? ⟨b,i*o.s+off,none⟩=some x/\Sim N w0 F0 M B0 (σ.app ⟨c,Ad (some t) (.osl (4096+t) nv 0 es.length),
   [(4096+t,some (nv,⟨false,false,s,ty,es⟩)),(g,some (v,{ o with es:=o.es.set i (QG (o.es.getD i .top) off [.hole (4096+t) nv es.length]) }))]⟩) F (upB β nv L) (a.put (some t) x) w:=by
 obtain⟨Lg,bg,hLg,hbg,rfl⟩:=hpx
 obtain⟨Lg',hLg',_,hk⟩:=h.own g v o hg
 rw[hLg]at hLg';cases hLg'
 have hokg:=hk hfz
 obtain⟨e1,e2,e3,e4,e5,e6⟩:=hokg
 rw[hbg]at e6
 obtain⟨C,hC,hCs,hcell⟩:=e6
 have hget:o.es[i]? =some (o.es.getD i .top):=by simp[hi]
 obtain⟨x,x1,x2,_⟩:=hcell i off _ _ hget hrow
 obtain⟨φ,hφ⟩:=h.Ab
 have hrat:=hφ.row g v o Lg bg C i off _ x s ty es hr hg hfz hLg hbg hC hget hrow x1
 have hoff:off<(cells (o.es.getD i .top)).length:=(aAF.1 hrow).1
 obtain⟨s1,s2,s3⟩:=h.sep g v o Lg bg hg hfz hLg hbg
 have hloc:∃ (L:Loc) (fp:Nat->Nat->Nat->Prop),L.s=s/\x= .slice (L.b.map λb=>⟨b,0,none⟩) es.length L.cap/\AA F (upB β nv L) w L ⟨false,false,s,ty,es⟩/\(∀ b,L.b=some b->φ g i off b) /\
   (∀ i' j' b,fp i' j' b->φ g i off b/\L.b≠some b)/\(∀ i j i' j' b,fp i j b->fp i' j' b->i=i'/\j=j') /\
   (∀ b C (i' j':Nat) e y s' ty' es',L.b=some b->w.heap[b]? =some (.cells C ty (0,0))->es[i']? =some e->(cells e)[j']? =some (.row s' ty' es')->C[i'*s+j']? =some y->Br F w (fp i' j') s' ty' es' y) /\
   (∀ (i' j':Nat) e nm u n,es[i']? =some e->(cells e)[j']? ≠some (.hole nm u n)):=by
  cases hrat with
  | nil _ _ _ hs=>exact⟨⟨none,0,s⟩,λ_ _ _=>False,rfl,rfl,⟨rfl,hs,by simp,by simp,λe he=>(by cases he),rfl,rfl⟩,λb hb=>(by cases hb),λ_ _ _ h=>h.elim,λ_ _ _ _ _ h=>h.elim,λb C i' j' e y s' ty' es' hb=>(by cases hb),λi' j' e nm u n he=>by simp at he⟩
  | row _ _ _ _ b cap C1 fp xf hs hc hm hl hC1 hC1s hb hx hrr hh hfp hd =>
   refine⟨⟨some b,cap,s⟩,fp,rfl,rfl,⟨rfl,hs,hc,by simpa using hm,hl,C1,hC1,hC1s,λi' j' e d he hd'=>?_⟩,λb' hb'=>(by cases hb';exact hb),λi' j' b' hb'=>⟨(hfp i' j' b' hb').1,λe=>by cases e;exact(hfp i' j' _ hb').2 rfl⟩,hd,λb' C2 i' j' e y s' ty' es' hb' hC2 he hj hy=>?_,hh⟩
   ·obtain⟨y1,y2,y3⟩:=hx i' j' e d he hd'
    exact⟨_,y1,y2,by simpa using y3⟩
   ·cases hb'
    rw[hC1]at hC2;cases hC2
    obtain⟨y1,_,_⟩:=hx i' j' e _ he hj
    rw[y1]at hy;cases hy
    exact hrr i' j' e s' ty' es' he hj
 obtain⟨L,fp,l1,l2,l3,l4,l5,l6,l7,l8⟩:=hloc
 have hβ:=Ba (β:=β) (nv:=nv) L hnv
 refine⟨bg,L,x,by simp[e1],by simp[World.cell?,hC,x1],?_⟩
 obtain⟨og,hog⟩:∃ og:Own,og={ o with es:=o.es.set i (QG (o.es.getD i .top) off [.hole (4096+t) nv es.length]) }:=⟨_,rfl⟩
 obtain⟨og1,og2,og3,og4⟩:og.fz=false/\og.var=o.var/\og.s=o.s/\og.ty=o.ty:=by subst hog;exact⟨hfz,rfl,rfl,rfl⟩
 have hogc:∀ (i' j':Nat) e d,og.es[i']? =some e->(cells e)[j']? =some d->(i'=i/\j'=off/\d= .hole (4096+t) nv es.length)\/(¬ (i'=i/\j'=off)/\∃ e',o.es[i']? =some e'/\(cells e')[j']? =some d):=by
  intro i' j' e d he hd
  subst hog
  simp only at he
  by_cases hii:i'=i
  ·subst hii
   rw[aAm hi]at he
   cases he
   obtain⟨_,q2⟩:=BZ (d:=.hole (4096+t) nv es.length) hoff rfl j'
   rw[q2]at hd
   by_cases hj:j'=off
   ·rw[if_pos hj]at hd;cases hd
    exact .inl ⟨rfl,hj,rfl⟩
   ·rw[if_neg hj]at hd
    exact .inr ⟨λe=>hj e.2,_,hget,hd⟩
  ·rw[aAd (λe=>hii e.symm)]at he
   exact .inr ⟨λe=>hii e.1,e,he,hd⟩
 have hogok:AA F (upB β nv L) w Lg og:=by
  refine⟨by rw[og3];exact e1,by rw[og3];exact e2,by subst hog;simpa using e3,by rw[og2];exact e4,λe he=>?_,?_⟩
  ·subst hog
   simp only at he ⊢
   rcases aAp he with hm|hm
   ·exact e5 e hm
   ·subst hm
    rw[(BZ (d:=.hole (4096+t) nv es.length) hoff rfl 0).1]
    exact e5 _ (aAB hget)
  ·rw[hbg]
   refine⟨C,by rw[og4];exact hC,by rw[og3];exact hCs,λi' j' e d he hd=>?_⟩
   rw[og3,og2]
   rcases hogc i' j' e d he hd with⟨rfl,rfl,rfl⟩|⟨_,e',k1,k2⟩
   ·refine⟨x,x1,x2,?_⟩
    split
    ·exact Cel.Af (.hole _ _ _ _)
    ·exact .hole _ _ _ _
   ·obtain⟨y,y1,y2,y3⟩:=hcell i' j' e' d k1 k2
    refine⟨y,y1,y2,?_⟩
    split at y3
    ·rename_i hv;rw[if_pos hv];exact y3.mono (Ag.refl _) hβ
    ·rename_i hv;rw[if_neg hv];exact y3
 rw[<- hog]
 have hgo:∀ g' v' o',(σ.app ⟨c,Ad (some t) (.osl (4096+t) nv 0 es.length),[(4096+t,some (nv,⟨false,false,s,ty,es⟩)),(g,some (v,og))]⟩).go g'=some (v',o') ->
   (g'=4096+t/\v'=nv/\o'=⟨false,false,s,ty,es⟩)\/(g'=g/\v'=v/\o'=og)\/(g'≠4096+t/\g'≠g/\σ.go g'=some (v',o')):=by
  intro g' v' o' hg'
  rw[S.Cu]at hg'
  simp only[look]at hg'
  by_cases h1:g'=4096+t
  ·rw[if_pos h1]at hg';cases hg';exact .inl ⟨h1,rfl,rfl⟩
  ·rw[if_neg h1]at hg'
   by_cases h2:g'=g
   ·rw[if_pos h2]at hg';cases hg';exact .inr (.inl ⟨h2,rfl,rfl⟩)
   ·rw[if_neg h2]at hg';exact .inr (.inr ⟨h1,h2,hg'⟩)
 have hnb:∀ b,L.b=some b->b≠bg:=by
  rintro b hb rfl
  exact hφ.sep g i off b g v o Lg (l4 b hb) hg hfz hLg hbg
 have hother:∀ g' v' o' L' b,g'≠g->σ.go g'=some (v',o')->o'.fz=false->β v'=some L'->L'.b=some b->¬ (b=bg\/L.b=some b):=by
  rintro g' v' o' L' b hn hg' hf' hL' hb' (rfl|hb)
  ·exact hn (h.dist g' g v' v o' o L' Lg b hg' hg hf' hfz hL' hLg hb' hbg)
  ·exact hφ.sep g i off b g' v' o' L' (l4 b hb) hg' hf' hL' hb'
 refine h.change (row:=λb=>b=bg\/L.b=some b) rfl rfl rfl (aAL _) (λ_ _ _=>rfl) ?_ (Ag.refl _) (λ_ _ _ _=>rfl) h.frz h.fin hβ (by rw[BW];exact h.size) (by rw[Bs];exact h.defers)
  (h.CB (Ag.refl _) hβ (λt' e=>by cases e;exact ht) ⟨L,_,An _ _ _,l2,?_,λ_=>rfl,λhp=>?_⟩) ?_ ?_ ?_
 ·rintro b (rfl|hb)
  ·exact s3.imp id And.left
  ·exact hφ.new g i off b (l4 b hb)
 ·have:=l3.2.2.1;simpa using this
 ·cases hLb:L.b with
  | none =>
   obtain⟨_,_,k3,_,_,k6⟩:=l3
   rw[hLb]at k6
   simp only at k3
   omega
  | some b=>exact⟨b,rfl,by simp⟩
 ·intro g' v' o' hg'
  rcases hgo g' v' o' hg' with⟨rfl,rfl,rfl⟩|⟨rfl,rfl,rfl⟩|⟨k1,k2,k3⟩
  ·refine .inr ⟨L,An _ _ _,rfl,l3,λb hb=>⟨hφ.none_ g i off b (l4 b hb),hφ.lt g i off b (l4 b hb),(hφ.new g i off b (l4 b hb)).imp id (λz=>⟨z,by simp[Ab]⟩),.inl (.inr hb)⟩⟩
  ·refine .inr ⟨Lg,hβ _ _ hLg,og1,hogok,λb hb=>?_⟩
   rw[hbg]at hb;cases hb
   exact⟨s1,s2,s3,.inl (.inl rfl)⟩
  ·exact .inl ⟨k3,λL' b hf hL' hb=>hother g' v' o' L' b k2 k3 hf hL' hb⟩
 ·intro g1 g2 v1 v2 o1 o2 L1 L2 b hg1 hg2 hf1 hf2 hL1 hL2 hb1 hb2 hrow'
  have hrow':b=bg\/L.b=some b:=by
   rcases hrow' with h1|h1
   ·exact h1
   ·exfalso
    rcases hgo g1 v1 o1 hg1 with⟨_,rfl,rfl⟩|⟨_,rfl,rfl⟩|⟨_,k2,k3⟩
    ·rw[An]at hL1;cases hL1
     have:=hφ.lt g i off b (l4 b hb1);omega
    ·have:=hβ _ _ hLg;rw[hL1]at this;cases this
     rw[hbg]at hb1;cases hb1;omega
    ·obtain⟨L0,e0,_⟩:=h.own g1 v1 o1 k3
     have:=hβ _ _ e0;rw[hL1]at this;cases this
     have:=(h.sep g1 v1 o1 L1 b k3 hf1 e0 hb1).2.1;omega
  have key:∀ g' v' o' L',(σ.app ⟨c,Ad (some t) (.osl (4096+t) nv 0 es.length),[(4096+t,some (nv,⟨false,false,s,ty,es⟩)),(g,some (v,og))]⟩).go g'=some (v',o')->o'.fz=false->upB β nv L v'=some L'->L'.b=some b->(g'=g/\b=bg)\/(g'=4096+t/\L.b=some b):=by
   intro g' v' o' L' hg' hf' hL' hb'
   rcases hgo g' v' o' hg' with⟨rfl,rfl,rfl⟩|⟨rfl,rfl,rfl⟩|⟨_,k2,k3⟩
   ·rw[An]at hL';cases hL';exact .inr ⟨rfl,hb'⟩
   ·have:=hβ _ _ hLg;rw[hL']at this;cases this
    rw[hbg]at hb';cases hb';exact .inl ⟨rfl,rfl⟩
   ·obtain⟨L0,e0,_⟩:=h.own g' v' o' k3
    have:=hβ _ _ e0;rw[hL']at this;cases this
    exact(hother g' v' o' L' b k2 k3 hf' e0 hb' hrow').elim
  rcases key g1 v1 o1 L1 hg1 hf1 hL1 hb1 with⟨k1,k2⟩|⟨k1,k2⟩
  ·rcases key g2 v2 o2 L2 hg2 hf2 hL2 hb2 with⟨k3,_⟩|⟨_,k4⟩
   ·rw[k1,k3]
   ·exact(hnb b k4 k2).elim
  ·rcases key g2 v2 o2 L2 hg2 hf2 hL2 hb2 with⟨_,k4⟩|⟨k3,_⟩
   ·exact(hnb b k2 k4).elim
   ·rw[k1,k3]
 ·intro _ _
  let φ':Nat->Nat->Nat->Nat->Prop:=λg1 i1 j1 b=>(g1=4096+t/\fp i1 j1 b)\/(g1≠4096+t/\¬ (g1=g/\i1=i/\j1=off)/\φ g1 i1 j1 b)
  have hsub:∀ g1 i1 j1 b,φ' g1 i1 j1 b->∃ g2 i2 j2,φ g2 i2 j2 b:=by
   rintro g1 i1 j1 b (⟨_,hb⟩|⟨_,_,hb⟩)
   ·exact⟨g,i,off,(l5 i1 j1 b hb).1⟩
   ·exact⟨g1,i1,j1,hb⟩
  refine⟨φ',?_,?_,λg1 i1 j1 b hb=>?_,λg1 i1 j1 b hb=>?_,λg1 i1 j1 b hb=>?_,λg1 i1 j1 b g' v' o' L' hb hg' hf' hL' hLb=>?_,?_⟩
  ·intro g' v' o' L' b C' i' j' e y s' ty' es' hr' hg' hf' hL' hb' hC' he hj hy
   rcases hgo g' v' o' hg' with⟨rfl,rfl,rfl⟩|⟨rfl,rfl,rfl⟩|⟨k1,k2,k3⟩
   ·rw[An]at hL';cases hL'
    exact(l7 b C' i' j' e y s' ty' es' hb' hC' he hj hy).QA (Ag.refl _) (λ_ _=>rfl) (λb hb=>.inl ⟨rfl,hb⟩)
   ·have:=hβ _ _ hLg;rw[hL']at this;cases this
    rw[hbg]at hb';cases hb'
    rw[og4]at hC';rw[og3]at hy
    rcases hogc i' j' e _ he hj with⟨_,_,k⟩|⟨kn,e',k1,k2⟩
    ·cases k
    ·exact(hφ.row g' v' o _ bg C' i' j' e' y s' ty' es' hr' hg hfz hLg hbg hC' k1 k2 hy).QA (Ag.refl _) (λ_ _=>rfl) (λb hb=>.inr ⟨hne,λe=>kn ⟨e.2.1,e.2.2⟩,hb⟩)
   ·obtain⟨L0,e0,_⟩:=h.own g' v' o' k3
    have:=hβ _ _ e0;rw[hL']at this;cases this
    exact(hφ.row g' v' o' L' b C' i' j' e y s' ty' es' hr' k3 hf' e0 hb' hC' he hj hy).QA (Ag.refl _) (λ_ _=>rfl) (λb hb=>.inr ⟨k1,λe=>k2 e.1,hb⟩)
  ·intro g' v' o' L' b C' i' j' e y nm u n hr' hg' hf' hL' hb' hC' he hj hy
   rcases hgo g' v' o' hg' with⟨rfl,rfl,rfl⟩|⟨rfl,rfl,rfl⟩|⟨k1,k2,k3⟩
   ·exact(l8 i' j' e _ u n he hj).elim
   ·have:=hβ _ _ hLg;rw[hL']at this;cases this
    rw[hbg]at hb';cases hb'
    rw[og4]at hC';rw[og3]at hy
    rcases hogc i' j' e _ he hj with⟨rfl,rfl,k⟩|⟨kn,e',k1,k2⟩
    ·cases k
     rw[hC]at hC';cases hC'
     rw[x1]at hy;cases hy
     refine⟨L,_,An _ _ _,l2,?_,λ_=>rfl,λhp=>?_⟩
     ·have:=l3.2.2.1;simpa using this
     ·cases hLb:L.b with
      | none =>
       obtain⟨_,_,k3,_,_,k6⟩:=l3
       rw[hLb]at k6
       simp only at k3
       omega
      | some b=>exact⟨b,rfl,by simp⟩
    ·exact(hφ.hole g' v' o _ bg C' i' j' e' y _ u n hr' hg hfz hLg hbg hC' k1 k2 hy).mono (Ag.refl _) hβ
   ·obtain⟨L0,e0,_⟩:=h.own g' v' o' k3
    have:=hβ _ _ e0;rw[hL']at this;cases this
    exact(hφ.hole g' v' o' L' b C' i' j' e y _ u n hr' k3 hf' e0 hb' hC' he hj hy).mono (Ag.refl _) hβ
  ·obtain⟨g2,i2,j2,hb⟩:=hsub g1 i1 j1 b hb;exact hφ.none_ _ _ _ _ hb
  ·obtain⟨g2,i2,j2,hb⟩:=hsub g1 i1 j1 b hb;exact hφ.lt _ _ _ _ hb
  ·obtain⟨g2,i2,j2,hb⟩:=hsub g1 i1 j1 b hb;exact hφ.new _ _ _ _ hb
  ·rcases hgo g' v' o' hg' with⟨rfl,rfl,rfl⟩|⟨rfl,rfl,rfl⟩|⟨_,k2,k3⟩
   ·rw[An]at hL';cases hL'
    rcases hb with⟨_,hb⟩|⟨_,hn,hb⟩
    ·exact(l5 i1 j1 b hb).2 hLb
    ·exact hn (hφ.dis _ _ _ _ _ _ _ hb (l4 b hLb))
   ·have:=hβ _ _ hLg;rw[hL']at this;cases this
    obtain⟨g2,i2,j2,hb⟩:=hsub g1 i1 j1 b hb
    exact hφ.sep g2 i2 j2 b g' v' o _ hb hg hfz hLg hLb
   ·obtain⟨L0,e0,_⟩:=h.own g' v' o' k3
    have:=hβ _ _ e0;rw[hL']at this;cases this
    obtain⟨g2,i2,j2,hb⟩:=hsub g1 i1 j1 b hb
    exact hφ.sep g2 i2 j2 b g' v' o' L' hb k3 hf' e0 hLb
  ·rintro g1 i1 j1 g2 i2 j2 b (⟨rfl,hb⟩|⟨hn1,hn,hb⟩) (⟨rfl,hb'⟩|⟨hn2,hn',hb'⟩)
   ·exact⟨rfl,l6 i1 j1 i2 j2 b hb hb'⟩
   ·exact(hn' (hφ.dis _ _ _ _ _ _ _ hb' (l5 i1 j1 b hb).1)).elim
   ·exact(hn (hφ.dis _ _ _ _ _ _ _ hb (l5 i2 j2 b hb').1)).elim
   ·exact hφ.dis _ _ _ _ _ _ _ hb hb'
theorem Od (h:Sim N w0 F0 M B0 σ F β a w) {nv t:Nat} (hnv:β nv=none) {g v i off s ty:Nat} {es:List D} {o:Own} (hg:σ.go g=some (v,o)) (hr:Ab g=true) (hfz:o.fz=false) (hi:i<o.es.length)
  (hrow:(cells (o.es.getD i .top))[off]? =some (.row s ty es)) (hne:g≠4096+t) (m:Nat) :
  ∃ L,Sim N w0 F0 M B0 ⟨σ.e,(4096+t,some (nv,⟨false,false,s,ty,es⟩))::(g,some (v,{ o with es:=o.es.set i (QG (o.es.getD i .top) off [.hole (4096+t) nv es.length]) }))::σ.o,m⟩ F (upB β nv L) a w:=by
 obtain⟨Lg,hLg,_,hk⟩:=h.own g v o hg
 obtain⟨e1,e2,e3,e4,e5,e6⟩:=hk hfz
 obtain⟨bg,hbg⟩:∃ bg,Lg.b=some bg:=by
  cases hb:Lg.b with
  | some b=>exact⟨b,rfl⟩
  | none =>
   rw[hb]at e6
   omega
 let a':Act:={ a with tmps:=a.tmps++Array.replicate (t+1) undef }
 have h':Sim (N+(t+1)) w0 F0 M B0 σ F β a' w:=by
  refine{ nam:=h.nam,size:=by simp[a',h.size],defers:=h.defers,env:=λq=>?_,own:=h.own,dist:=h.dist,sep:=h.sep,Ab:=h.Ab,frz:=h.frz,fin:=h.fin,step:=h.step }
  have:a'.tmps.getD q undef=a.tmps.getD q undef:=by
   simp only[a',aAE]
   by_cases hq:q<a.tmps.size
   ·rw[Array.getElem?_append_left hq]
   ·rw[Array.getElem?_append_right (by omega),Array.getElem?_eq_none (by omega:a.tmps.size<=q)]
    by_cases hq2:q-a.tmps.size<t+1
    ·simp[hq2]
    ·simp[hq2]
  rw[this];exact h.env q
 obtain⟨b,L,x,_,_,z⟩:=Kk h' hnv (by omega:t<N+(t+1)) hg hr hfz hi hrow hne (px:=.pointer (some ⟨bg,i*Lg.s+off,none⟩)) ⟨Lg,bg,hLg,hbg,rfl⟩ True
 refine⟨L,{ nam:=h.nam.trans (Ba (β:=β) (nv:=nv) L hnv),size:=h.size,defers:=h.defers,env:=λq=>(h.env q).mono (Ag.refl _) (Ba (β:=β) (nv:=nv) L hnv),own:=z.own,dist:=z.dist,sep:=z.sep,Ab:=?_,frz:=h.frz,fin:=h.fin,step:=h.step }⟩
 obtain⟨φ,hφ⟩:=z.Ab
 exact⟨φ,hφ.congr λ_=>rfl⟩
theorem NZ (h:Sim N w0 F0 M B0 σ F β a w) {g v i off nm u m:Nat} {o:Own} (hg:σ.go g=some (v,o)) (hr:Ab g=true) (hfz:o.fz=false) (hi:i<o.es.length)
  (hrow:(cells (o.es.getD i .top))[off]? =some (.hole nm u m)) {px:Value} (hpx:Val F β (.optr g v i off) px) :
  ∃ b x,px= .pointer (some ⟨b,i*o.s+off,none⟩)/\w.cell? ⟨b,i*o.s+off,none⟩=some x/\Ref F β (.osl nm u 0 m) x:=by
 obtain⟨Lg,bg,hLg,hbg,rfl⟩:=hpx
 obtain⟨Lg',hLg',_,hk⟩:=h.own g v o hg
 rw[hLg]at hLg';cases hLg'
 obtain⟨e1,e2,e3,e4,e5,e6⟩:=hk hfz
 rw[hbg]at e6
 obtain⟨C,hC,hCs,hcell⟩:=e6
 have hget:o.es[i]? =some (o.es.getD i .top):=by simp[hi]
 obtain⟨x,x1,x2,_⟩:=hcell i off _ _ hget hrow
 obtain⟨φ,hφ⟩:=h.Ab
 exact⟨bg,x,by rw[e1],by simp[World.cell?,hC,x1],hφ.hole g v o Lg bg C i off _ x nm u m hr hg hfz hLg hbg hC hget hrow x1⟩
theorem OW (h:Sim N w0 F0 M B0 σ F β a w) {nv t:Nat} (hnv:β nv=none) {g v i off s ty:Nat} {es:List D} {o:Own} (hg:σ.go g=some (v,o)) (hr:Ab g=true) (hfz:o.fz=false) (hvar:o.var=true) (hi:i<o.es.length)
  (hrow:(cells (o.es.getD i .top))[off]? =some (.row s ty es)) (hne:g≠4096+t) (m:Nat) :
  ∃ L,Sim N w0 F0 M B0 ⟨σ.e,(4096+t,some (nv,⟨false,false,s,ty,es⟩))::(g,some (v,{ o with es:=o.es.set i (QG (o.es.getD i .top) off [.osl (4096+t) nv 0 es.length]) }))::σ.o,m⟩ F (upB β nv L) a w:=by
 obtain⟨Lg,hLg,_,hk⟩:=h.own g v o hg
 have hokg:=hk hfz
 obtain⟨e1,e2,e3,e4,e5,e6⟩:=hokg
 obtain⟨bg,hbg⟩:∃ bg,Lg.b=some bg:=by
  cases hb:Lg.b with
  | some b=>exact⟨b,rfl⟩
  | none =>
   rw[hb]at e6
   omega
 rw[hbg]at e6
 obtain⟨C,hC,hCs,hcell⟩:=e6
 have hget:o.es[i]? =some (o.es.getD i .top):=by simp[hi]
 obtain⟨x,x1,x2,_⟩:=hcell i off _ _ hget hrow
 obtain⟨φ,hφ⟩:=h.Ab
 have hrat:=hφ.row g v o Lg bg C i off _ x s ty es hr hg hfz hLg hbg hC hget hrow x1
 have hoff:off<(cells (o.es.getD i .top)).length:=(aAF.1 hrow).1
 obtain⟨s1,s2,s3⟩:=h.sep g v o Lg bg hg hfz hLg hbg
 have hloc:∃ (L:Loc) (fp:Nat->Nat->Nat->Prop),L.s=s/\x= .slice (L.b.map λb=>⟨b,0,none⟩) es.length L.cap/\AA F (upB β nv L) w L ⟨false,false,s,ty,es⟩/\(∀ b,L.b=some b->φ g i off b) /\
   (∀ i' j' b,fp i' j' b->φ g i off b/\L.b≠some b)/\(∀ i j i' j' b,fp i j b->fp i' j' b->i=i'/\j=j') /\
   (∀ b C (i' j':Nat) e y s' ty' es',L.b=some b->w.heap[b]? =some (.cells C ty (0,0))->es[i']? =some e->(cells e)[j']? =some (.row s' ty' es')->C[i'*s+j']? =some y->Br F w (fp i' j') s' ty' es' y) /\
   (∀ (i' j':Nat) e nm u n,es[i']? =some e->(cells e)[j']? ≠some (.hole nm u n)):=by
  cases hrat with
  | nil _ _ _ hs=>exact⟨⟨none,0,s⟩,λ_ _ _=>False,rfl,rfl,⟨rfl,hs,by simp,by simp,λe he=>(by cases he),rfl,rfl⟩,λb hb=>(by cases hb),λ_ _ _ h=>h.elim,λ_ _ _ _ _ h=>h.elim,λb C i' j' e y s' ty' es' hb=>(by cases hb),λi' j' e nm u n he=>by simp at he⟩
  | row _ _ _ _ b cap C1 fp xf hs hc hm hl hC1 hC1s hb hx hrr hh hfp hd =>
   refine⟨⟨some b,cap,s⟩,fp,rfl,rfl,⟨rfl,hs,hc,by simpa using hm,hl,C1,hC1,hC1s,λi' j' e d he hd'=>?_⟩,λb' hb'=>(by cases hb';exact hb),λi' j' b' hb'=>⟨(hfp i' j' b' hb').1,λe=>by cases e;exact(hfp i' j' _ hb').2 rfl⟩,hd,λb' C2 i' j' e y s' ty' es' hb' hC2 he hj hy=>?_,hh⟩
   ·obtain⟨y1,y2,y3⟩:=hx i' j' e d he hd'
    exact⟨_,y1,y2,by simpa using y3⟩
   ·cases hb'
    rw[hC1]at hC2;cases hC2
    obtain⟨y1,_,_⟩:=hx i' j' e _ he hj
    rw[y1]at hy;cases hy
    exact hrr i' j' e s' ty' es' he hj
 obtain⟨L,fp,l1,l2,l3,l4,l5,l6,l7,l8⟩:=hloc
 have hβ:=Ba (β:=β) (nv:=nv) L hnv
 refine⟨L,?_⟩
 have href:Ref F (upB β nv L) (.osl (4096+t) nv 0 es.length) x:=by
  refine⟨L,_,An _ _ _,l2,?_,λ_=>rfl,λhp=>?_⟩
  ·have:=l3.2.2.1;simpa using this
  ·cases hLb:L.b with
   | none =>
    obtain⟨_,_,k3,_,_,k6⟩:=l3
    rw[hLb]at k6
    simp only at k3
    omega
   | some b=>exact⟨b,rfl,by simp⟩
 obtain⟨og,hog⟩:∃ og:Own,og={ o with es:=o.es.set i (QG (o.es.getD i .top) off [.osl (4096+t) nv 0 es.length]) }:=⟨_,rfl⟩
 obtain⟨og1,og2,og3,og4⟩:og.fz=false/\og.var=o.var/\og.s=o.s/\og.ty=o.ty:=by subst hog;exact⟨hfz,rfl,rfl,rfl⟩
 have hogc:∀ (i' j':Nat) e d,og.es[i']? =some e->(cells e)[j']? =some d->(i'=i/\j'=off/\d= .osl (4096+t) nv 0 es.length)\/(¬ (i'=i/\j'=off)/\∃ e',o.es[i']? =some e'/\(cells e')[j']? =some d):=by
  intro i' j' e d he hd
  subst hog
  simp only at he
  by_cases hii:i'=i
  ·subst hii
   rw[aAm hi]at he
   cases he
   obtain⟨_,q2⟩:=BZ (d:=.osl (4096+t) nv 0 es.length) hoff rfl j'
   rw[q2]at hd
   by_cases hj:j'=off
   ·rw[if_pos hj]at hd;cases hd
    exact .inl ⟨rfl,hj,rfl⟩
   ·rw[if_neg hj]at hd
    exact .inr ⟨λe=>hj e.2,_,hget,hd⟩
  ·rw[aAd (λe=>hii e.symm)]at he
   exact .inr ⟨λe=>hii e.1,e,he,hd⟩
 have hogok:AA F (upB β nv L) w Lg og:=by
  refine⟨by rw[og3];exact e1,by rw[og3];exact e2,by subst hog;simpa using e3,by rw[og2];exact e4,λe he=>?_,?_⟩
  ·subst hog
   simp only at he ⊢
   rcases aAp he with hm|hm
   ·exact e5 e hm
   ·subst hm
    rw[(BZ (d:=.osl (4096+t) nv 0 es.length) hoff rfl 0).1]
    exact e5 _ (aAB hget)
  ·rw[hbg]
   refine⟨C,by rw[og4];exact hC,by rw[og3];exact hCs,λi' j' e d he hd=>?_⟩
   rw[og3,og2]
   rcases hogc i' j' e d he hd with⟨rfl,rfl,rfl⟩|⟨_,e',k1,k2⟩
   ·refine⟨x,x1,x2,?_⟩
    rw[if_pos hvar]
    exact Cel.CL href
   ·obtain⟨y,y1,y2,y3⟩:=hcell i' j' e' d k1 k2
    refine⟨y,y1,y2,?_⟩
    rw[if_pos hvar]at y3 ⊢
    exact y3.mono (Ag.refl _) hβ
 rw[<- hog]
 have hgo:∀ g' v' o',(S.mk σ.e ((4096+t,some (nv,⟨false,false,s,ty,es⟩))::(g,some (v,og))::σ.o) m).go g'=some (v',o') ->
   (g'=4096+t/\v'=nv/\o'=⟨false,false,s,ty,es⟩)\/(g'=g/\v'=v/\o'=og)\/(g'≠4096+t/\g'≠g/\σ.go g'=some (v',o')):=by
  intro g' v' o' hg'
  rw[CD]at hg'
  split at hg'
  ·rename_i h1;cases hg';exact .inl ⟨h1,rfl,rfl⟩
  ·rename_i h1
   rw[CD]at hg'
   split at hg'
   ·rename_i h2;cases hg';exact .inr (.inl ⟨h2,rfl,rfl⟩)
   ·rename_i h2;exact .inr (.inr ⟨h1,h2,hg'⟩)
 have hnb:∀ b,L.b=some b->b≠bg:=by
  rintro b hb rfl
  exact hφ.sep g i off b g v o Lg (l4 b hb) hg hfz hLg hbg
 have hother:∀ g' v' o' L' b,g'≠g->σ.go g'=some (v',o')->o'.fz=false->β v'=some L'->L'.b=some b->¬ (b=bg\/L.b=some b):=by
  rintro g' v' o' L' b hn hg' hf' hL' hb' (rfl|hb)
  ·exact hn (h.dist g' g v' v o' o L' Lg b hg' hg hf' hfz hL' hLg hb' hbg)
  ·exact hφ.sep g i off b g' v' o' L' (l4 b hb) hg' hf' hL' hb'
 refine h.change (row:=λb=>b=bg\/L.b=some b) rfl rfl rfl (aAL _) (λ_ _ _=>rfl) ?_ (Ag.refl _) (λ_ _ _ _=>rfl) h.frz h.fin hβ h.size h.defers
  (λt'=>(h.env t').mono (Ag.refl _) hβ) ?_ ?_ ?_
 ·rintro b (rfl|hb)
  ·exact s3.imp id And.left
  ·exact hφ.new g i off b (l4 b hb)
 ·intro g' v' o' hg'
  rcases hgo g' v' o' hg' with⟨rfl,rfl,rfl⟩|⟨rfl,rfl,rfl⟩|⟨k1,k2,k3⟩
  ·refine .inr ⟨L,An _ _ _,rfl,l3,λb hb=>⟨hφ.none_ g i off b (l4 b hb),hφ.lt g i off b (l4 b hb),(hφ.new g i off b (l4 b hb)).imp id (λz=>⟨z,by simp[Ab]⟩),.inl (.inr hb)⟩⟩
  ·refine .inr ⟨Lg,hβ _ _ hLg,og1,hogok,λb hb=>?_⟩
   rw[hbg]at hb;cases hb
   exact⟨s1,s2,s3,.inl (.inl rfl)⟩
  ·exact .inl ⟨k3,λL' b hf hL' hb=>hother g' v' o' L' b k2 k3 hf hL' hb⟩
 ·intro g1 g2 v1 v2 o1 o2 L1 L2 b hg1 hg2 hf1 hf2 hL1 hL2 hb1 hb2 hrow'
  have hrow':b=bg\/L.b=some b:=by
   rcases hrow' with h1|h1
   ·exact h1
   ·exfalso
    rcases hgo g1 v1 o1 hg1 with⟨_,rfl,rfl⟩|⟨_,rfl,rfl⟩|⟨_,k2,k3⟩
    ·rw[An]at hL1;cases hL1
     have:=hφ.lt g i off b (l4 b hb1);omega
    ·have:=hβ _ _ hLg;rw[hL1]at this;cases this
     rw[hbg]at hb1;cases hb1;omega
    ·obtain⟨L0,e0,_⟩:=h.own g1 v1 o1 k3
     have:=hβ _ _ e0;rw[hL1]at this;cases this
     have:=(h.sep g1 v1 o1 L1 b k3 hf1 e0 hb1).2.1;omega
  have key:∀ g' v' o' L',(S.mk σ.e ((4096+t,some (nv,⟨false,false,s,ty,es⟩))::(g,some (v,og))::σ.o) m).go g'=some (v',o')->o'.fz=false->upB β nv L v'=some L'->L'.b=some b->(g'=g/\b=bg)\/(g'=4096+t/\L.b=some b):=by
   intro g' v' o' L' hg' hf' hL' hb'
   rcases hgo g' v' o' hg' with⟨rfl,rfl,rfl⟩|⟨rfl,rfl,rfl⟩|⟨_,k2,k3⟩
   ·rw[An]at hL';cases hL';exact .inr ⟨rfl,hb'⟩
   ·have:=hβ _ _ hLg;rw[hL']at this;cases this
    rw[hbg]at hb';cases hb';exact .inl ⟨rfl,rfl⟩
   ·obtain⟨L0,e0,_⟩:=h.own g' v' o' k3
    have:=hβ _ _ e0;rw[hL']at this;cases this
    exact(hother g' v' o' L' b k2 k3 hf' e0 hb' hrow').elim
  rcases key g1 v1 o1 L1 hg1 hf1 hL1 hb1 with⟨k1,k2⟩|⟨k1,k2⟩
  ·rcases key g2 v2 o2 L2 hg2 hf2 hL2 hb2 with⟨k3,_⟩|⟨_,k4⟩
   ·rw[k1,k3]
   ·exact(hnb b k4 k2).elim
  ·rcases key g2 v2 o2 L2 hg2 hf2 hL2 hb2 with⟨_,k4⟩|⟨k3,_⟩
   ·exact(hnb b k2 k4).elim
   ·rw[k1,k3]
 ·intro _ _
  let φ':Nat->Nat->Nat->Nat->Prop:=λg1 i1 j1 b=>(g1=4096+t/\fp i1 j1 b)\/(g1≠4096+t/\¬ (g1=g/\i1=i/\j1=off)/\φ g1 i1 j1 b)
  have hsub:∀ g1 i1 j1 b,φ' g1 i1 j1 b->∃ g2 i2 j2,φ g2 i2 j2 b:=by
   rintro g1 i1 j1 b (⟨_,hb⟩|⟨_,_,hb⟩)
   ·exact⟨g,i,off,(l5 i1 j1 b hb).1⟩
   ·exact⟨g1,i1,j1,hb⟩
  refine⟨φ',?_,?_,λg1 i1 j1 b hb=>?_,λg1 i1 j1 b hb=>?_,λg1 i1 j1 b hb=>?_,λg1 i1 j1 b g' v' o' L' hb hg' hf' hL' hLb=>?_,?_⟩
  ·intro g' v' o' L' b C' i' j' e y s' ty' es' hr' hg' hf' hL' hb' hC' he hj hy
   rcases hgo g' v' o' hg' with⟨rfl,rfl,rfl⟩|⟨rfl,rfl,rfl⟩|⟨k1,k2,k3⟩
   ·rw[An]at hL';cases hL'
    exact(l7 b C' i' j' e y s' ty' es' hb' hC' he hj hy).QA (Ag.refl _) (λ_ _=>rfl) (λb hb=>.inl ⟨rfl,hb⟩)
   ·have:=hβ _ _ hLg;rw[hL']at this;cases this
    rw[hbg]at hb';cases hb'
    rw[og4]at hC';rw[og3]at hy
    rcases hogc i' j' e _ he hj with⟨_,_,k⟩|⟨kn,e',k1,k2⟩
    ·cases k
    ·exact(hφ.row g' v' o _ bg C' i' j' e' y s' ty' es' hr' hg hfz hLg hbg hC' k1 k2 hy).QA (Ag.refl _) (λ_ _=>rfl) (λb hb=>.inr ⟨hne,λe=>kn ⟨e.2.1,e.2.2⟩,hb⟩)
   ·obtain⟨L0,e0,_⟩:=h.own g' v' o' k3
    have:=hβ _ _ e0;rw[hL']at this;cases this
    exact(hφ.row g' v' o' L' b C' i' j' e y s' ty' es' hr' k3 hf' e0 hb' hC' he hj hy).QA (Ag.refl _) (λ_ _=>rfl) (λb hb=>.inr ⟨k1,λe=>k2 e.1,hb⟩)
  ·intro g' v' o' L' b C' i' j' e y nm u n hr' hg' hf' hL' hb' hC' he hj hy
   rcases hgo g' v' o' hg' with⟨rfl,rfl,rfl⟩|⟨rfl,rfl,rfl⟩|⟨k1,k2,k3⟩
   ·exact(l8 i' j' e _ u n he hj).elim
   ·have:=hβ _ _ hLg;rw[hL']at this;cases this
    rw[hbg]at hb';cases hb'
    rw[og4]at hC';rw[og3]at hy
    rcases hogc i' j' e _ he hj with⟨rfl,rfl,k⟩|⟨kn,e',k1,k2⟩
    ·cases k
    ·exact(hφ.hole g' v' o _ bg C' i' j' e' y _ u n hr' hg hfz hLg hbg hC' k1 k2 hy).mono (Ag.refl _) hβ
   ·obtain⟨L0,e0,_⟩:=h.own g' v' o' k3
    have:=hβ _ _ e0;rw[hL']at this;cases this
    exact(hφ.hole g' v' o' L' b C' i' j' e y _ u n hr' k3 hf' e0 hb' hC' he hj hy).mono (Ag.refl _) hβ
  ·obtain⟨g2,i2,j2,hb⟩:=hsub g1 i1 j1 b hb;exact hφ.none_ _ _ _ _ hb
  ·obtain⟨g2,i2,j2,hb⟩:=hsub g1 i1 j1 b hb;exact hφ.lt _ _ _ _ hb
  ·obtain⟨g2,i2,j2,hb⟩:=hsub g1 i1 j1 b hb;exact hφ.new _ _ _ _ hb
  ·rcases hgo g' v' o' hg' with⟨rfl,rfl,rfl⟩|⟨rfl,rfl,rfl⟩|⟨_,k2,k3⟩
   ·rw[An]at hL';cases hL'
    rcases hb with⟨_,hb⟩|⟨_,hn,hb⟩
    ·exact(l5 i1 j1 b hb).2 hLb
    ·exact hn (hφ.dis _ _ _ _ _ _ _ hb (l4 b hLb))
   ·have:=hβ _ _ hLg;rw[hL']at this;cases this
    obtain⟨g2,i2,j2,hb⟩:=hsub g1 i1 j1 b hb
    exact hφ.sep g2 i2 j2 b g' v' o _ hb hg hfz hLg hLb
   ·obtain⟨L0,e0,_⟩:=h.own g' v' o' k3
    have:=hβ _ _ e0;rw[hL']at this;cases this
    obtain⟨g2,i2,j2,hb⟩:=hsub g1 i1 j1 b hb
    exact hφ.sep g2 i2 j2 b g' v' o' L' hb k3 hf' e0 hLb
  ·rintro g1 i1 j1 g2 i2 j2 b (⟨rfl,hb⟩|⟨hn1,hn,hb⟩) (⟨rfl,hb'⟩|⟨hn2,hn',hb'⟩)
   ·exact⟨rfl,l6 i1 j1 i2 j2 b hb hb'⟩
   ·exact(hn' (hφ.dis _ _ _ _ _ _ _ hb' (l5 i1 j1 b hb).1)).elim
   ·exact(hn (hφ.dis _ _ _ _ _ _ _ hb (l5 i2 j2 b hb').1)).elim
   ·exact hφ.dis _ _ _ _ _ _ _ hb hb'
theorem Mi {L:Loc} {o:Own} (hok:AA F β w L o) (hvar:o.var=false) {g v n:Nat} {x:Value} (hx:Ref F β (.osl g v 0 n) x) (hL:β v=some L) (hn:n<=o.es.length) (hp:∀ e∈o.es,AD e=true):Br F w (λb=>L.b=some b) o.s o.ty (o.es.take n) x:=by
 obtain⟨L',A,hL',rfl,hcap,hA,_⟩:=hx
 rw[hL]at hL';cases hL'
 obtain⟨e1,e2,e3,e4,e5,e6⟩:=hok
 have hA:=hA rfl
 subst hA
 cases hb:L.b with
 | none =>
  rw[hb]at e6
  have hn0:n=0:=by omega
  subst hn0
  have hc0:L.cap-0=0:=by omega
  rw[hc0]
  simp only[Option.map_none,List.take_zero]
  exact .nil _ _ _ e2
 | some b =>
  rw[hb]at e6
  obtain⟨C,hC,hCs,hcell⟩:=e6
  have hlen:(o.es.take n).length=n:=by simp;omega
  have hidx:∀ (k:Nat) e,(o.es.take n)[k]? =some e->o.es[k]? =some e:=by
   intro k e he
   rw[aAV]at he
   split at he
   ·exact he
   ·cases he
  have:=Br.row (F:=F) (w:=w) (λb'=>some b=some b') o.s o.ty (o.es.take n) b L.cap C (λ_ _ _=>False) (λi j=>(C[i*o.s+j]?).getD undef) e2 (by rw[hlen];omega) (by simpa[hvar]using e4) (λe he=>e5 e (aAU he)) hC hCs rfl
   (λi j e d he hd=>by
    obtain⟨y,y1,y2,y3⟩:=hcell i j e d (hidx i e he) hd
    rw[hvar]at y3
    rw[y1]
    exact⟨rfl,y2,by simpa using y3⟩)
   (λi j e s' ty' es' he hj=>by
    have:=aAS.1 (hp e (aAB (hidx i e he))) _ (aAB hj)
    cases this)
   (λi j e nm u n' he hj=>by
    have:=aAS.1 (hp e (aAB (hidx i e he))) _ (aAB hj)
    cases this)
   (λ_ _ _ h=>h.elim) (λ_ _ _ _ _ h=>h.elim)
  rw[hlen]at this
  simpa using this
theorem NN (h:Sim N w0 F0 M B0 σ F β a w) {var:Bool} {d:D} {x:Value} (hx:Cel F β d x) (hc:((Bz var d).run σ).1) :
  cells ((Bz var d).run σ).2.1=[((Bz var d).run σ).2.1]/\(if var then Cel F β ((Bz var d).run σ).2.1 x else Fro F ((Bz var d).run σ).2.1 x)/\(∀ nm u n,((Bz var d).run σ).2.1≠ .hole nm u n) /\
   ((((Bz var d).run σ).2.2=[]/\∀ s ty es,((Bz var d).run σ).2.1≠ .row s ty es)\/∃ g v o L,((Bz var d).run σ).2.2=[(g,none)]/\σ.go g=some (v,o)/\o.fz=false/\β v=some L/\∀ s ty es,((Bz var d).run σ).2.1= .row s ty es->Br F w (λb=>L.b=some b) s ty es x):=by
 have easy:∀ d:D,Bz var d= .ret (True,d,[])->cells d=[d]->(∀ nm u n,d≠ .hole nm u n)->(∀ s ty es,d≠ .row s ty es)->Cel F β d x->Fro F d x->cells ((Bz var d).run σ).2.1=[((Bz var d).run σ).2.1]/\(if var then Cel F β ((Bz var d).run σ).2.1 x else Fro F ((Bz var d).run σ).2.1 x)/\(∀ nm u n,((Bz var d).run σ).2.1≠ .hole nm u n) /\
   ((((Bz var d).run σ).2.2=[]/\∀ s ty es,((Bz var d).run σ).2.1≠ .row s ty es)\/∃ g v o L,((Bz var d).run σ).2.2=[(g,none)]/\σ.go g=some (v,o)/\o.fz=false/\β v=some L/\∀ s ty es,((Bz var d).run σ).2.1= .row s ty es->Br F w (λb=>L.b=some b) s ty es x):=by
  intro d e1 e2 e3 e4 e5 e6
  rw[e1]
  refine⟨e2,?_,e3,.inl ⟨rfl,e4⟩⟩
  split
  ·exact e5
  ·exact e6
 cases d with
 | osl g v i n =>
  cases i with
  | succ i=>exact hc.elim
  | zero =>
   simp only[Bz,R.run]at hc ⊢
   cases hg:σ.go g with
   | none=>rw[hg]at hc;exact hc.elim
   | some p =>
    obtain⟨v',o⟩:=p
    rw[hg]at hc
    simp only at hc ⊢
    have hx':Ref F β (.osl g v 0 n) x:=hx
    obtain⟨L,A,hL,hxe,hcap,hA,hpos⟩:=hx
    by_cases hfz:o.fz=true
    ·rw[if_pos hfz]at hc ⊢
     simp only[R.run]at hc ⊢
     obtain⟨rfl,hvar,hn⟩:=hc
     obtain⟨L',hL',hz,_⟩:=h.own g v o hg
     rw[hL]at hL';cases hL'
     have:=GO (hz hfz) (i:=0) (n:=n) (c:=L.cap-0) (a:=A) (by simpa using hn) (by simpa using hcap) (by simpa using hpos) (by omega)
     rw[hxe]
     have hf:Fro F (.sl (o.es.take n)) (.slice A n (L.cap-0)):=by simpa using this
     refine⟨rfl,?_,λnm u n e=>(by cases e),.inl ⟨trivial,λs ty es e=>by cases e⟩⟩
     split
     ·exact Cel.Af hf
     ·exact hf
    ·have hfz':o.fz=false:=by simpa using hfz
     rw[if_neg hfz]at hc ⊢
     simp only[R.run]at hc ⊢
     obtain⟨rfl,hvar,hn,hp⟩:=hc
     obtain⟨L',hL',_,hk⟩:=h.own g v o hg
     rw[hL]at hL';cases hL'
     refine⟨rfl,?_,λnm u n e=>(by cases e),.inr ⟨g,v,o,L,rfl,hg,hfz',hL,λs ty es e=>?_⟩⟩
     ·split
      ·exact Cel.Af (.row _ _ _ _)
      ·exact .row _ _ _ _
     ·cases e
      exact Mi (hk hfz') hvar hx' hL hn hp
 | top=>exact hc.elim
 | row=>exact hc.elim
 | hole=>exact hc.elim
 | when=>exact hc.elim
 | vsl=>exact hc.elim
 | tup=>exact hc.elim
 | agg=>exact hc.elim
 | optr g v i off =>
  have hv:var=true:=hc
  subst hv
  exact⟨rfl,hx,λnm u n e=>(by cases e),.inl ⟨rfl,λs ty es e=>by cases e⟩⟩
 | mref g v =>
  have hv:var=true:=hc
  subst hv
  exact⟨rfl,hx,λnm u n e=>(by cases e),.inl ⟨rfl,λs ty es e=>by cases e⟩⟩
 | clo f caps =>
  have hv:var=true:=hc
  subst hv
  exact⟨rfl,hx,λnm u n e=>(by cases e),.inl ⟨rfl,λs ty es e=>by cases e⟩⟩
 | int k n=>exact easy _ rfl rfl (λ_ _ _ e=>by cases e) (λ_ _ _ e=>by cases e) hx hx
 | bool b=>exact easy _ rfl rfl (λ_ _ _ e=>by cases e) (λ_ _ _ e=>by cases e) hx hx
 | str b=>exact easy _ rfl rfl (λ_ _ _ e=>by cases e) (λ_ _ _ e=>by cases e) hx hx
 | sl b=>exact easy _ rfl rfl (λ_ _ _ e=>by cases e) (λ_ _ _ e=>by cases e) hx hx
 | nils=>exact easy _ rfl rfl (λ_ _ _ e=>by cases e) (λ_ _ _ e=>by cases e) hx hx
 | fptr b off=>exact easy _ rfl rfl (λ_ _ _ e=>by cases e) (λ_ _ _ e=>by cases e) hx hx
 | nilf=>exact easy _ rfl rfl (λ_ _ _ e=>by cases e) (λ_ _ _ e=>by cases e) hx hx
 | ifc t d=>exact easy _ rfl rfl (λ_ _ _ e=>by cases e) (λ_ _ _ e=>by cases e) hx hx
 | nilp=>exact easy _ rfl rfl (λ_ _ _ e=>by cases e) (λ_ _ _ e=>by cases e) hx hx
theorem Je (h:Sim N w0 F0 M B0 σ F β a w) {var:Bool}:∀ (cs:List D) (X:Nat->Option Value),(∀ (j:Nat) c,cs[j]? =some c->∃ x,X j=some x/\x.oneCell'=true/\Cel F β c x)->((AY var cs).run σ).1 ->
  ((AY var cs).run σ).2.1.length=cs.length/\(∀ c'∈((AY var cs).run σ).2.1,cells c'=[c'])/\(∀ p∈((AY var cs).run σ).2.2,p.2=none) /\
   (∀ (j:Nat) c',((AY var cs).run σ).2.1[j]? =some c'->∃ x,X j=some x/\x.oneCell'=true/\(if var then Cel F β c' x else Fro F c' x))/\(∀ (j nm u n:Nat),((AY var cs).run σ).2.1[j]? ≠some (.hole nm u n)) /\
   ∃ G:Nat->Option Nat,(∀ j g',G j=some g'->(g',none)∈((AY var cs).run σ).2.2/\∃ v' o' L',σ.go g'=some (v',o')/\o'.fz=false/\β v'=some L')/\(∀ j j' g',G j=some g'->G j'=some g'->j=j') /\
    (∀ (j s ty:Nat) es,((AY var cs).run σ).2.1[j]? =some (.row s ty es)->∀ x,X j=some x->∃ g' v' o' L',G j=some g'/\σ.go g'=some (v',o')/\o'.fz=false/\β v'=some L'/\Br F w (λb=>L'.b=some b) s ty es x)
 | [],X,_,_=>by
  refine⟨rfl,λc' hc'=>by simp[AY]at hc',λp hp=>by simp[AY]at hp,λj c' hj=>by simp[AY]at hj,λj nm u n hj=>by simp[AY]at hj,λ_=>none,λj g' e=>(by cases e),λj j' g' e=>(by cases e),λj s ty es hj=>by simp[AY]at hj⟩
 | d::cs,X,hX,hc=>by
  simp only[AY,R.run_bind,R.run_pure]at hc ⊢
  obtain⟨c1,c2,c3⟩:=hc
  obtain⟨x,x1,x2,x3⟩:=hX 0 d rfl
  obtain⟨k1,k2,k3,k4⟩:=NN h x3 c1
  obtain⟨q1,q2,q3,q4,q5,G,q6,q7,q8⟩:=Je h cs (λj=>X (j+1)) (λj c hj=>hX (j+1) c (by simpa using hj)) c2
  have hnone:∀ p∈((Bz var d).run σ).2.2,p.2=none:=by
   intro p hp
   rcases k4 with⟨k4,_⟩|⟨g,v,o,L,k4,_⟩
   ·rw[k4]at hp;cases hp
   ·rw[k4]at hp;simp at hp;subst hp;rfl
  refine⟨by simp[q1],λc' hc'=>?_,λp hp=>?_,λj c' hj=>?_,λj nm u n hj=>?_,?_⟩
  ·rcases aAx.1 hc' with rfl|hc'
   ·exact k1
   ·exact q2 c' hc'
  ·rcases aAG.1 hp with hp|hp
   ·exact hnone p hp
   ·exact q3 p hp
  ·rcases j with _|j
   ·simp only[aAH,Option.some.injEq]at hj
    subst hj
    exact⟨x,x1,x2,k2⟩
   ·simp only[aAI]at hj
    exact q4 j c' hj
  ·rcases j with _|j
   ·simp only[aAH,Option.some.injEq]at hj
    exact k3 nm u n hj
   ·simp only[aAI]at hj
    exact q5 j nm u n hj
  ·rcases k4 with⟨k4,k5⟩|⟨g,v,o,L,k4,k5,k6,k7,k8⟩
   ·refine⟨λj=>match j with|0=>none|j+1=>G j,λj g' hj=>?_,λj j' g' hj hj'=>?_,λj s ty es hj y hy=>?_⟩
    ·rcases j with _|j
     ·cases hj
     ·obtain⟨z1,z2⟩:=q6 j g' hj
      exact⟨aAG.2 (.inr z1),z2⟩
    ·rcases j with _|j
     ·cases hj
     ·rcases j' with _|j'
      ·cases hj'
      ·rw[q7 j j' g' hj hj']
    ·rcases j with _|j
     ·simp only[aAH,Option.some.injEq]at hj
      exact(k5 s ty es hj).elim
     ·simp only[aAI]at hj
      exact q8 j s ty es hj y hy
   ·have hdis:∀ j,G j≠some g:=by
     intro j hj
     obtain⟨z1,_⟩:=q6 j g hj
     have:=aAS.1 c3 _ z1
     rw[k4]at this
     simp at this
    refine⟨λj=>match j with|0=>some g|j+1=>G j,λj g' hj=>?_,λj j' g' hj hj'=>?_,λj s ty es hj y hy=>?_⟩
    ·rcases j with _|j
     ·cases hj
      exact⟨aAG.2 (.inl (by rw[k4];simp)),v,o,L,k5,k6,k7⟩
     ·obtain⟨z1,z2⟩:=q6 j g' hj
      exact⟨aAG.2 (.inr z1),z2⟩
    ·rcases j with _|j
     ·rcases j' with _|j'
      ·rfl
      ·cases hj
       exact(hdis j' hj').elim
     ·rcases j' with _|j'
      ·cases hj'
       exact(hdis j hj).elim
      ·rw[q7 j j' g' hj hj']
    ·rcases j with _|j
     ·simp only[aAH,Option.some.injEq]at hj
      rw[x1]at hy;cases hy
      exact⟨g,v,o,L,rfl,k5,k6,k7,k8 s ty es hj⟩
     ·simp only[aAI]at hj
      exact q8 j s ty es hj y hy
theorem Lr (h:Sim N w0 F0 M B0 σ F β a w) {g v i off n:Nat} {o:Own} (hg:σ.go g=some (v,o)) (hr:Ab g=true) (hfz:o.fz=false) (hi:i<o.es.length) {d:D} {x px:Value}
  (hpx:Val F β (.optr g v i off) px) (hx:Val F β d x) (hk:known d=true) (hc:((AY o.var (cells d)).run σ).1) (hn:(cells d).length=n) (hle:off+n<=(cells (o.es.getD i .top)).length) (hng:((AY o.var (cells d)).run σ).2.2.all (λx=>x.1 != g)=true)
  (t:TypeId) (hti:P.info? t≠none) (htn:n=P.cellsOf t) (hnpos:0<n) (c:Prop) :
  ∃ w',(Instr.storeAt t px x).run P w= .ok () w'/\Sim N w0 F0 M B0 (σ.app ⟨c,[],(g,some (v,{ o with es:=o.es.set i (QG (o.es.getD i .top) off ((AY o.var (cells d)).run σ).2.1) }))::((AY o.var (cells d)).run σ).2.2⟩) F β a w':=by
 obtain⟨x1,x2,x3⟩:=CU hx hk
 obtain⟨q1,q2,q3,q4,q5,G,q6,q7,q8⟩:=Je h (cells d) (λj=>x.cells[j]?) x3 hc
 generalize((AY o.var (cells d)).run σ).2.1=cs at *
 generalize((AY o.var (cells d)).run σ).2.2=ws at *
 refine IE h hg hfz hi hpx (by rw[x1,hn]) x2 (by rw[q1,hn]) q2 q4 hle t hti htn hnpos c q3 λφ L b C C' hφ hL hb hLs hC hCz hC1 hC2=>?_
 have hget:o.es[i]? =some (o.es.getD i .top):=by simp[hi]
 have hcl:cs.length=n:=by rw[q1,hn]
 have hsetE:=EP (e:=o.es.getD i .top) (off:=off) (new:=cs) (by rw[hcl];exact hle) q2 (.inl (by omega))
 obtain⟨sa1,sa2⟩:=Ek cs (cells (o.es.getD i .top)) off
 obtain⟨og,hog⟩:∃ og:Own,og={ o with es:=o.es.set i (QG (o.es.getD i .top) off cs) }:=⟨_,rfl⟩
 obtain⟨og1,og2,og3,og4⟩:og.fz=false/\og.var=o.var/\og.s=o.s/\og.ty=o.ty:=by subst hog;exact⟨hfz,rfl,rfl,rfl⟩
 obtain⟨L',hL',_,hkk⟩:=h.own g v o hg
 rw[hL]at hL';cases hL'
 obtain⟨e1,e2,e3,e4,e5,e6⟩:=hkk hfz
 have hogc:∀ (i' j':Nat) e d',og.es[i']? =some e->(cells e)[j']? =some d'->(i'=i/\off<=j'/\j'<off+n/\cs[j'-off]? =some d')\/(¬ (i'=i/\off<=j'/\j'<off+n)/\j'<o.s/\∃ e',o.es[i']? =some e'/\(cells e')[j']? =some d'):=by
  intro i' j' e d' he hd
  subst hog
  simp only at he
  by_cases hii:i'=i
  ·subst hii
   rw[aAm hi]at he
   cases he
   rw[hsetE,sa2,hcl]at hd
   split at hd
   ·rename_i hcond
    exact .inl ⟨rfl,hcond.1,hcond.2.1,hd⟩
   ·rename_i hcond
    have hlt:=(aAF.1 hd).1
    exact .inr ⟨λe=>hcond ⟨e.2.1,e.2.2,hlt⟩,by rw[<- e5 _ (aAB hget)];exact hlt,_,hget,hd⟩
  ·rw[aAd (λe=>hii e.symm)]at he
   exact .inr ⟨λe=>hii e.1,by rw[<- e5 e (aAB he)];exact(aAF.1 hd).1,e,he,hd⟩
 have hnew:∀ j',off<=j'->j'<off+n->C'[i*o.s+j']? =x.cells[j'-off]?:=by
  intro j' h1 h2
  rw[<- hC1 (j'-off) (by omega)]
  congr 1;omega
 have hoff:off+n<=o.s:=by rw[<- e5 _ (aAB hget)];exact hle
 have hold:∀ i' j',j'<o.s->¬ (i'=i/\off<=j'/\j'<off+n)->C'[i'*o.s+j']? =C[i'*o.s+j']?:=by
  intro i' j' hj hn'
  refine hC2 _ ?_
  rcases aBG i' i with h1|h1|h1
  ·have:(i'+1)*o.s<=i*o.s:=aAe _ h1
   rw[Nat.add_mul]at this;omega
  ·subst h1;omega
  ·have:(i+1)*o.s<=i'*o.s:=aAe _ h1
   rw[Nat.add_mul]at this;omega
 have hsz:(w.setRow b C').heap.size=w.heap.size:=by simp[World.setRow]
 rw[<- hog]
 have hgo:∀ g' v' o',(σ.app ⟨c,[],(g,some (v,og))::ws⟩).go g'=some (v',o')->(g'=g/\v'=v/\o'=og)\/(g'≠g/\σ.go g'=some (v',o')/\∀ y,(g',y)∉ws):=by
  intro g' v' o' hg'
  rw[S.Cu]at hg'
  simp only[look]at hg'
  by_cases h1:g'=g
  ·rw[if_pos h1]at hg';cases hg';exact .inl ⟨h1,rfl,rfl⟩
  ·rw[if_neg h1]at hg'
   cases hl:look ws g' with
   | some y =>
    rw[hl]at hg'
    have:=q3 _ (Bl hl)
    simp only at this hg'
    rw[this]at hg';cases hg'
   | none =>
    rw[hl]at hg'
    exact .inr ⟨h1,hg',Ei hl⟩
 let K:Nat->Nat->Prop:=λj b'=>∃ g' v' o' L',G j=some g'/\σ.go g'=some (v',o')/\o'.fz=false/\β v'=some L'/\L'.b=some b'
 have hGg:∀ j,G j≠some g:=by
  intro j hj
  obtain⟨z1,_⟩:=q6 j g hj
  have:=aAS.1 hng _ z1
  simp at this
 have hKb:∀ j b',K j b'->b'≠b:=by
  rintro j b' ⟨g',v',o',L',k1,k2,k3,k4,k5⟩ rfl
  have:=h.dist g' g v' v o' o L' L b' k2 hg k3 hfz k4 hL k5 hb
  subst this
  exact hGg j k1
 let φ':Nat->Nat->Nat->Nat->Prop:=λg1 i1 j1 b'=>(g1=g/\i1=i/\off<=j1/\j1<off+n/\K (j1-off) b')\/(¬ (g1=g/\i1=i/\off<=j1/\j1<off+n)/\φ g1 i1 j1 b')
 have hφb:∀ g1 i1 j1 b',φ g1 i1 j1 b'->b'≠b:=by
  rintro g1 i1 j1 b' hb' rfl
  exact hφ.sep g1 i1 j1 b' g v o L hb' hg hfz hL hb
 refine⟨φ',?_,?_,?_,?_,?_,?_,?_⟩
 ·intro g' v' o' L' b' C'' i' j' e y s' ty' es' hr' hg' hf' hL' hb' hC'' he hj hy
  rcases hgo g' v' o' hg' with⟨rfl,rfl,rfl⟩|⟨k1,k2,_⟩
  ·rw[hL]at hL';cases hL'
   rw[hb]at hb';cases hb'
   have:C''=C':=by
    have h1:=setRow_heap w b C C' o.ty (0,0) hC
    rw[og4]at hC''
    rw[h1]at hC''
    cases hC'';rfl
   subst this
   rw[og3]at hy
   rcases hogc i' j' e _ he hj with⟨rfl,z1,z2,z3⟩|⟨z0,z1,e',z2,z3⟩
   ·rw[hnew j' z1 z2]at hy
    obtain⟨g2,v2,o2,L2,y1,y2,y3,y4,y5⟩:=q8 _ s' ty' es' z3 y hy
    refine y5.QA (Ag.refl _) (λb2 hb2=>setRow_other w b b2 C'' (hKb _ b2 ⟨g2,v2,o2,L2,y1,y2,y3,y4,hb2⟩)) (λb2 hb2=>.inl ⟨rfl,rfl,z1,z2,g2,v2,o2,L2,y1,y2,y3,y4,hb2⟩)
   ·rw[hold i' j' z1 z0]at hy
    exact(hφ.row g' v' o L b C i' j' e' y s' ty' es' hr' hg hfz hL hb hC z2 z3 hy).QA (Ag.refl _) (λb2 hb2=>setRow_other w b b2 C'' (hφb _ _ _ b2 hb2)) (λb2 hb2=>.inr ⟨λe=>z0 e.2,hb2⟩)
  ·have hbb:b'≠b:=by
    rintro rfl
    exact k1 (h.dist g' g v' v o' o L' L b' k2 hg hf' hfz hL' hL hb' hb)
   rw[setRow_other w b b' C' hbb]at hC''
   exact(hφ.row g' v' o' L' b' C'' i' j' e y s' ty' es' hr' k2 hf' hL' hb' hC'' he hj hy).QA (Ag.refl _) (λb2 hb2=>setRow_other w b b2 C' (hφb _ _ _ b2 hb2)) (λb2 hb2=>.inr ⟨λe=>k1 e.1,hb2⟩)
 ·intro g' v' o' L' b' C'' i' j' e y nm u n' hr' hg' hf' hL' hb' hC'' he hj hy
  rcases hgo g' v' o' hg' with⟨rfl,rfl,rfl⟩|⟨k1,k2,_⟩
  ·rw[hL]at hL';cases hL'
   rw[hb]at hb';cases hb'
   have:C''=C':=by
    have h1:=setRow_heap w b C C' o.ty (0,0) hC
    rw[og4]at hC''
    rw[h1]at hC''
    cases hC'';rfl
   subst this
   rw[og3]at hy
   rcases hogc i' j' e _ he hj with⟨rfl,z1,z2,z3⟩|⟨z0,z1,e',z2,z3⟩
   ·exact(q5 _ _ u n' z3).elim
   ·rw[hold i' j' z1 z0]at hy
    exact hφ.hole g' v' o L b C i' j' e' y _ u n' hr' hg hfz hL hb hC z2 z3 hy
  ·have hbb:b'≠b:=by
    rintro rfl
    exact k1 (h.dist g' g v' v o' o L' L b' k2 hg hf' hfz hL' hL hb' hb)
   rw[setRow_other w b b' C' hbb]at hC''
   exact hφ.hole g' v' o' L' b' C'' i' j' e y _ u n' hr' k2 hf' hL' hb' hC'' he hj hy
 ·rintro g1 i1 j1 b' (⟨_,_,_,_,g',v',o',L',_,k2,k3,k4,k5⟩|⟨_,hb'⟩)
  ·exact(h.sep g' v' o' L' b' k2 k3 k4 k5).1
  ·exact hφ.none_ g1 i1 j1 b' hb'
 ·rintro g1 i1 j1 b' (⟨_,_,_,_,g',v',o',L',_,k2,k3,k4,k5⟩|⟨_,hb'⟩)
  ·rw[hsz];exact(h.sep g' v' o' L' b' k2 k3 k4 k5).2.1
  ·rw[hsz];exact hφ.lt g1 i1 j1 b' hb'
 ·rintro g1 i1 j1 b' (⟨_,_,_,_,g',v',o',L',_,k2,k3,k4,k5⟩|⟨_,hb'⟩)
  ·exact(h.sep g' v' o' L' b' k2 k3 k4 k5).2.2.imp id And.left
  ·exact hφ.new g1 i1 j1 b' hb'
 ·intro g1 i1 j1 b' g2 v2 o2 L2 hb' hg2 hf2 hL2 hLb
  rcases hgo g2 v2 o2 hg2 with⟨rfl,rfl,rfl⟩|⟨k1,k2,k3⟩
  ·rw[hL]at hL2;cases hL2
   rw[hb]at hLb;cases hLb
   rcases hb' with⟨_,_,_,_,hK⟩|⟨_,hb'⟩
   ·exact hKb _ _ hK rfl
   ·exact hφb _ _ _ _ hb' rfl
  ·rcases hb' with⟨_,_,_,_,g',v',o',L',y1,y2,y3,y4,y5⟩|⟨_,hb'⟩
   ·have:=h.dist g' g2 v' v2 o' o2 L' L2 b' y2 k2 y3 hf2 y4 hL2 y5 hLb
    subst this
    exact k3 _ (q6 _ _ y1).1
   ·exact hφ.sep g1 i1 j1 b' g2 v2 o2 L2 hb' k2 hf2 hL2 hLb
 ·rintro g1 i1 j1 g2 i2 j2 b' (⟨rfl,rfl,z1,z2,g',v',o',L',y1,y2,y3,y4,y5⟩|⟨n1,h1⟩) (⟨rfl,rfl,z1',z2',g'',v'',o'',L'',y1',y2',y3',y4',y5'⟩|⟨n2,h2⟩)
  ·have:=h.dist g' g'' v' v'' o' o'' L' L'' b' y2 y2' y3 y3' y4 y4' y5 y5'
   subst this
   have:=q7 _ _ _ y1 y1'
   exact⟨rfl,rfl,by omega⟩
  ·exact(hφ.sep g2 i2 j2 b' g' v' o' L' h2 y2 y3 y4 y5).elim
  ·exact(hφ.sep g1 i1 j1 b' g'' v'' o'' L'' h1 y2' y3' y4' y5').elim
  ·exact hφ.dis g1 i1 j1 g2 i2 j2 b' h1 h2
end
section
variable {N:Nat} {w0:World} {F0:Fz} {M:Nat->Prop} {B0:Bt} {σ:S} {F:Fz} {β:Bt} {a:Act} {w:World} {P:Program}
theorem PH {t:TypeId} (_hi:P.cellsOf t≠0\/Cq P t=true):True:=trivial
theorem DE {t:TypeId} {d:TypeDesc} (h:P.underlying t=some d):P.info? t≠none:=by
 unfold Program.underlying at h
 intro e
 rw[e]at h
 cases h
theorem Fk {t:TypeId} (h:0<P.cellsOf t):P.info? t≠none:=by
 intro e
 simp[aAR,e]at h
theorem Ec {t:TypeId} (h:Cq P t=true):(P.underlying t).isSome=true:=by
 unfold Cq at h
 cases hu:P.underlying t with
 | none=>rw[hu]at h;cases h
 | some d=>rfl
theorem Ot {Γ:Ar} (h:Sim N w0 F0 M B0 σ F β a w) {nv:Nat} (hnv:β nv=none) {o:Oper} {t:Nat} (hdst:o.dst=some t) (ht:t<N) (htr:Ab t=false) {e:TypeId} (ho:o.op= .alloc e) {z:D} (hz:Ch P e=some z) (hs:0<P.cellsOf e) :
  Snd P N w0 F0 M B0 σ β a w o nv ((evalOp Γ nv o.dst (.new z (P.cellsOf e) e)).run σ):=by
 obtain⟨i,zv,hi,hzv,hone,hsz,rfl⟩:=Cz hz
 obtain⟨c1,c2,c3⟩:=CA (F:=F) zv hone
 intro K Q hK
 have hrun:(execOp a.eval o).run P w= .ok (.value (.pointer (some ⟨w.heap.size,0,none⟩))) (w.alloc (.cells zv.cells e)):=by
  unfold execOp;rw[ho]
  simp[Instr.alloc,zeroValue,typeInfo,hi,hzv,newVar,newRow]
 unfold Oper.wp
 rw[hrun]
 simp only[evalOp,R.run,Oper.upon,hdst,aAC]at hK ⊢
 refine hK _ _ _ _ (h.alloc (nv:=nv) (t:=t) (tt:=t) hnv ht (C:=zv.cells) (o:=⟨false,true,P.cellsOf e,e,[Bp zv]⟩) (cap:=1) (d:=.optr t nv 0 0) (v:=.pointer (some ⟨w.heap.size,0,none⟩)) (w1:=w) rfl rfl rfl rfl rfl (λhr=>by rw[htr]at hr;cases hr) ?_ ?_) (Ba _ hnv) (λv hv=>Ce _ _ hv)
 ·exact AA.Im (w1:=w) hs hsz (by rw[c1,hsz]) (λj c hj=>by
   obtain⟨x,x1,x2,x3⟩:=c3 j c hj
   exact⟨x,x1,x2,Cel.Af x3⟩)
 ·exact⟨_,w.heap.size,An _ _ _,rfl,by simp⟩
theorem On {Γ:Ar} (h:Sim N w0 F0 M B0 σ F β a w) {nv:Nat} (hnv:β nv=none) {o:Oper} {t:Nat} (hdst:o.dst=some t) (ht:t<N) (htr:Ab t=false) {e:TypeId} {x:Operand} (ho:o.op= .box e x) {y:Arg} (hy:Ak x=some y) (hs:0<P.cellsOf e)
  (hc:((evalOp Γ nv o.dst (.box y (P.cellsOf e) e)).run σ).c):Snd P N w0 F0 M B0 σ β a w o nv ((evalOp Γ nv o.dst (.box y (P.cellsOf e) e)).run σ):=by
 have hv:=λhp=>Au h hy hp
 simp only[evalOp,R.run_bind,R.run_pure,hdst,aAC]at hc ⊢
 generalize((rdA y).run σ).2=d at *
 generalize((rdA y).run σ).1=p at *
 obtain⟨hp,hk,hl⟩:=hc
 have hvx:=hv hp
 obtain⟨x1,x2,x3⟩:=CU hvx hk
 intro K Q hK
 have hrun:(execOp a.eval o).run P w= .ok (.value (.pointer (some ⟨w.heap.size,0,none⟩))) (w.alloc (.cells (a.eval x).cells e)):=by
  unfold execOp;rw[ho]
  simp[Instr.box,newVar,newRow]
 unfold Oper.wp
 rw[hrun]
 simp only[Oper.upon,hdst]at hK ⊢
 refine hK _ _ _ _ (h.alloc (nv:=nv) (t:=t) (tt:=t) hnv ht (C:=(a.eval x).cells) (o:=⟨false,true,P.cellsOf e,e,[d]⟩) (cap:=1) (d:=.optr t nv 0 0) (v:=.pointer (some ⟨w.heap.size,0,none⟩)) (w1:=w) rfl rfl rfl rfl rfl (λhr=>by rw[htr]at hr;cases hr) ?_ ?_) (Ba _ hnv) (λv hv=>Ce _ _ hv)
 ·exact AA.Im (w1:=w) hs (by rw[x1,hl]) hl (λj c hj=>by
   obtain⟨v,v1,v2,v3⟩:=x3 j c hj
   exact⟨v,by simpa using v1,v2,v3.mono (Ag.refl _) (Ba _ hnv)⟩)
 ·exact⟨_,w.heap.size,An _ _ _,rfl,by simp⟩
theorem Oq {Γ:Ar} (h:Sim N w0 F0 M B0 σ F β a w) {nv:Nat} (hnv:β nv=none) {o:Oper} {t:Nat} (hdst:o.dst=some t) (ht:t<N) (htr:Ab t=false) {tt e:TypeId} {xl xc:Operand} (ho:o.op= .makeSlice tt xl xc) (hu:P.underlying tt=some (.slice e)) {z:D} (hz:Ch P e=some z) (hs:0<P.cellsOf e)
  {yl yc:Arg} (hyl:Ak xl=some yl) (hyc:Ak xc=some yc)
  (hc:((evalOp Γ nv o.dst (.mkS (P.cellsOf e) e (P.bytesOf e) (GZ z) yl yc)).run σ).c):Snd P N w0 F0 M B0 σ β a w o nv ((evalOp Γ nv o.dst (.mkS (P.cellsOf e) e (P.bytesOf e) (GZ z) yl yc)).run σ):=by
 obtain⟨i,zv,hi,hzv,hone,hsz,rfl⟩:=Cz hz
 have hraw:GZ (Bp zv)=Bp zv\/GZ (Bp zv)=nrm (Bp zv):=by cases Bp zv<;>simp[GZ]
 have hbi:P.bytesOf e=i.bytes:=by simp[Program.bytesOf,hi]
 have hsi:P.cellsOf e=i.size:=by simp[aAR,hi]
 have hvl:=λhp=>Au h hyl hp
 have hvc:=λhp=>Au h hyc hp
 simp only[evalOp,R.run_bind,hdst,aAC]at hc ⊢
 generalize((rdA yl).run σ).2=dl at *
 generalize((rdA yl).run σ).1=pl at *
 generalize((rdA yc).run σ).2=dc at *
 generalize((rdA yc).run σ).1=pc at *
 split at hc
 ·rename_i kl l kc c
  simp only[R.run_pure]at hc ⊢
  obtain⟨h1,h2,h3,h4,h5,h6⟩:=hc
  have e1:=AK (hvl h1)
  have e2:=AK (hvc h2)
  have hbytes:(i.bytes:Int)*c<=281474976710656:=by
   have:i.bytes*c.toNat<=65536*16777216:=Nat.mul_le_mul (by rw[<- hbi];exact h6) (by omega)
   have h':((i.bytes*c.toNat:Nat):Int)<=1099511627776:=by omega
   rw[Int.natCast_mul]at h'
   have:(c.toNat:Int)=c:=by omega
   rw[this]at h'
   omega
  have hmk:=run_make (P:=P) w tt e i zv hu hi hzv kl kc l c h3 h4 hbytes (by omega)
  intro K Q hK
  have hrun:(execOp a.eval o).run P w= .ok (.value (.slice (some ⟨w.heap.size,0,none⟩) l.toNat c.toNat)) (w.alloc (.cells (madeCells zv.cells (c.toNat*i.size)) e)):=by
   unfold execOp;rw[ho]
   simp[e1,e2,hmk]
  unfold Oper.wp
  rw[hrun]
  simp only[Oper.upon,hdst]at hK ⊢
  refine hK _ _ _ _ (h.alloc (nv:=nv) (t:=t) (tt:=t) hnv ht (C:=madeCells zv.cells (c.toNat*i.size)) (o:=⟨false,false,P.cellsOf e,e,aAf l.toNat (GZ (Bp zv))⟩) (cap:=c.toNat) (d:=.osl t nv 0 l.toNat) (v:=.slice (some ⟨w.heap.size,0,none⟩) l.toNat c.toNat) (w1:=w) rfl rfl rfl rfl rfl (λhr=>by rw[htr]at hr;cases hr) ?_ ?_) (Ba _ hnv) (λv hv=>Ce _ _ hv)
  ·refine AA.Ku (w1:=w) hs (by rw[size_madeCells,hsi]) (by simp;omega) (by simp only[maxLen];omega) (λq hq=>?_) ?_
   ·rw[aBE]at hq
    rcases hraw with e|e
    ·rw[hq.2,e,(CA (F:=F) zv hone).1,hsz]
    ·rw[hq.2,e,Ex hone,hsz]
   ·rcases hraw with e|e
    ·rw[e];exact Hh hone hsz hs (by rw[hsi];exact aAe _ (by omega))
    ·rw[e];exact IG hone hsz hs (by rw[hsi];exact aAe _ (by omega))
  ·exact⟨_,_,An _ _ _,rfl,by simp;omega,λ_=>rfl,λ_=>⟨_,rfl,by simp⟩⟩
 ·exact hc.elim
theorem MV {Γ:Ar} (h:Sim N w0 F0 M B0 σ F β a w) {nv:Nat} (hnv:β nv=none) {o:Oper} {t:Nat} (hdst:o.dst=some t) (ht:t<N) (htr:Ab t=false) {tt e:TypeId} {len:Nat} {parts:Array (Nat×Operand)} (ho:o.op= .buildSlice tt len parts) (hu:P.underlying tt=some (.slice e)) {z:D} (hz:Ch P e=some z) (hs:0<P.cellsOf e) (hlen:len*P.cellsOf e<=16777216)
  {ps:List (Nat×Arg)} (hps:Ev parts.toList=some ps)
  (hc:((evalOp Γ nv o.dst (.bldS (P.cellsOf e) e (nrm z) len ps)).run σ).c):Snd P N w0 F0 M B0 σ β a w o nv ((evalOp Γ nv o.dst (.bldS (P.cellsOf e) e (nrm z) len ps)).run σ):=by
 obtain⟨i,zv,hi,hzv,hone,hsz,rfl⟩:=Cz hz
 have hsi:P.cellsOf e=i.size:=by simp[aAR,hi]
 have hel:=λhc=>HB h parts.toList ps hps hc
 simp only[evalOp,R.run_bind,R.run_pure,hdst,aAC]at hc ⊢
 generalize((AX ps).run σ).2.1=rs at *
 generalize((AX ps).run σ).2.2=ws at *
 obtain⟨h1,h2⟩:=hc
 obtain⟨f1,l1,r1⟩:=hel h1
 obtain⟨F1,hF1,hS1,_⟩:=h.freeze f1
 have hp:=r1 ws F1 f1 (λ_ hp=>hp) hF1 hS1
 obtain⟨C',g1,g2,g3,g4,g5⟩:=Ji (F:=F1) hs (parts.toList.map λp=>(p.1,a.eval p.2)) rs (aAf len (nrm (Bp zv))) (madeCells zv.cells (len*P.cellsOf e))
  (by simp[size_madeCells]) (λq hq=>by rw[aBE]at hq;rw[hq.2,Ex hone,hsz]) (IG hone hsz hs (aAL _))
  (λp hp=>by have:=h2 p hp;simpa using this) (by simp[l1]) hp
 rw[size_madeCells]at g2
 simp only[aAn]at g3
 intro K Q hK
 have hrun:(execOp a.eval o).run P w= .ok (.value (.slice (some ⟨w.heap.size,0,none⟩) len len)) (w.alloc (.cells C' e)):=by
  unfold execOp;rw[ho]
  have hmap:(parts.map λ(i,x)=>(i,a.eval x)).toList=parts.toList.map λp=>(p.1,a.eval p.2):=by simp
  by_cases h0:len*i.size=0
  ·have hnot:¬ 16777216<len*i.size:=by omega
   have hmade:madeCells zv.cells (len*P.cellsOf e)= #[]:=by rw[hsi,h0];simp[madeCells,Array.range_zero']
   rw[hmade,hsi]at g1
   have hpl:∀ p∈rs,False:=by
    intro p hp'
    have:=(h2 p hp').2.2
    have:len=0:=by
     rcases Nat.eq_zero_or_pos len with hl|hl
     ·exact hl
     ·have:=Nat.mul_pos hl (by rw[<- hsi];exact hs:0<i.size)
      omega
    omega
   have hrs:rs=[]:=aAW.2 hpl
   have hparts:parts= #[]:=by
    have:parts.toList.length=0:=by rw[<- l1,hrs];rfl
    apply aAi
    simpa using this
   subst hparts
   simp only[List.map_nil,Instr.fill,Option.some.injEq]at g1
   subst g1
   simp[Instr.buildSlice,run_underlying hu,sizeOf,typeInfo,hi,h0,Instr.fill,newRow,Array.range_zero']
  ·have hb:=run_buildSlice (P:=P) w tt e len (parts.map λ(i,x)=>(i,a.eval x)) C' i zv hu hi hzv (by rw[<- hsi];omega) h0 (by rw[hmap,<- hsi];exact g1)
   simp only[Sem.run_bind,hb,Result.andThen_ok]
   rfl
 unfold Oper.wp
 rw[hrun]
 simp only[Oper.upon,hdst]at hK ⊢
 have hA:=hS1.alloc (nv:=nv) (t:=t) (tt:=t) hnv ht (c:=((AX ps).run σ).1/\∀ p∈rs,known p.2=true/\(cells p.2).length=P.cellsOf e/\p.1<len) (C:=C') (o:=⟨false,false,P.cellsOf e,e,CC (aAf len (nrm (Bp zv))) rs⟩) (cap:=len) (d:=.osl t nv 0 len) (v:=.slice (some ⟨w.heap.size,0,none⟩) len len) (w1:=w) rfl rfl rfl rfl rfl (λhr=>by rw[htr]at hr;cases hr)
  (AA.Ku (w1:=w) hs g2 (by rw[g3];exact aAL _) (by
   have:len<=len*P.cellsOf e:=Nat.le_mul_of_pos_right _ hs
   simp only[maxLen];omega) g4 g5) ⟨_,_,An _ _ _,rfl,by simp,λ_=>rfl,λ_=>⟨_,rfl,by simp⟩⟩
 refine hK _ _ F1 (upB β nv ⟨some w.heap.size,len,P.cellsOf e⟩) ?_ (Ba _ hnv) (λv hv=>Ce _ _ hv)
 have e':(σ.app ⟨((AX ps).run σ).1/\∀ p∈rs,known p.2=true/\(cells p.2).length=P.cellsOf e/\p.1<len,Ad (some t) (.osl t nv 0 len),AH (some t) (some (nv,⟨false,false,P.cellsOf e,e,CC (aAf len (nrm (Bp zv))) rs⟩))++ws⟩)=(S.mk σ.e (ws++σ.o) σ.n).app ⟨((AX ps).run σ).1/\∀ p∈rs,known p.2=true/\(cells p.2).length=P.cellsOf e/\p.1<len,Ad (some t) (.osl t nv 0 len),AH (some t) (some (nv,⟨false,false,P.cellsOf e,e,CC (aAf len (nrm (Bp zv))) rs⟩))⟩:=by
  simp[S.app]
 rw[e']
 exact hA
theorem Om {Γ:Ar} (h:Sim N w0 F0 M B0 σ F β a w) {nv:Nat} (hnv:β nv=none) {o:Oper} {t:Nat} (hdst:o.dst=some t) (ht:t<N) (htr:Ab t=false) {tt e:TypeId} {x y:Operand} (ho:o.op= .call { callee:=.builtin .append,args:=#[x,y],argTypes:=#[tt,tt] })
  (hu:P.underlying tt=some (.slice e)) {i:TypeInfo} (hi:P.info? e=some i) {z:D} (hz:Ch P e=some z) (hs:0<P.cellsOf e) (hby:i.bytes<=65536) {ax ay:Arg} (hx:Ak x=some ax) (hy:Ak y=some ay)
  (hc:((evalOp Γ nv o.dst (.app (P.cellsOf e) e i.bytes ax ay)).run σ).c):Snd P N w0 F0 M B0 σ β a w o nv ((evalOp Γ nv o.dst (.app (P.cellsOf e) e i.bytes ax ay)).run σ):=by
 obtain⟨i',zv,hi',hzv,hone,hsz,rfl⟩:=Cz hz
 rw[hi]at hi';cases hi'
 have hsi:P.cellsOf e=i.size:=by simp[aAR,hi]
 have hvx:=λhp=>Au h hx hp
 have hvy:=λhp=>Au h hy hp
 simp only[evalOp,source,R.run_bind,R.run_pure,hdst,aAC]at hc ⊢
 generalize((rdA ax).run σ).2=dx at *
 generalize((rdA ax).run σ).1=px at *
 generalize((rdA ay).run σ).2=dy at *
 generalize((rdA ay).run σ).1=py at *
 have hc':=hc
 obtain⟨h1,h2,h3,h4,h5,h6,h7,h8⟩:=hc
 obtain⟨v',w',β',r1,r2,r3,r4⟩:=LA (P:=P) h hnv ht htr (hvx h1) (hvy h2) (ty:=o.type) hu hi hzv hsi.symm hsz hs hby h3 h4 h5 h7 h8 (px=true/\py=true/\((view dy).run σ).1/\((target (P.cellsOf e) e dx).run σ).1/\((target (P.cellsOf e) e dx).run σ).2.1.length+((view dy).run σ).2.length<=16777216/\i.bytes<=65536/\(∀ q∈((view dy).run σ).2,(cells q).length=P.cellsOf e)/\(((target (P.cellsOf e) e dx).run σ).2.2.2=true->∀ q∈((target (P.cellsOf e) e dx).run σ).2.1++((view dy).run σ).2,AD q=true))
 intro K Q hK
 have hrun:(execOp a.eval o).run P w= .ok (.value v') w':=by
  unfold execOp;rw[ho]
  simp[resolve,invoke,builtin,r1]
 unfold Oper.wp
 rw[hrun]
 simp only[Oper.upon,hdst]at hK ⊢
 exact hK _ _ _ _ r4 r2 r3
theorem Jg {es new:List D} {i n:Nat} (h:i+n<=es.length) (q:Nat):(WT es i n new)[q]? =if i<=q/\q<i+aAo n new.length then new[q-i]? else es[q]?:=by
 have hm1:aAo n new.length<=n:=aBB _ _
 have hi:(es.take i).length=i:=by simp;omega
 have hn:(new.take n).length=aAo n new.length:=by exact aBH
 unfold WT
 rw[if_pos h]
 by_cases h1:q<i
 ·rw[if_neg (by omega),aAP (by omega),aAV,if_pos h1]
 ·rw[aAN (by omega),hi]
  by_cases h2:q<i+aAo n new.length
  ·rw[if_pos ⟨by omega,h2⟩,aAP (by omega),aAV,if_pos (by omega)]
  ·rw[if_neg (by omega),aAN (by omega),List.getElem?_drop,hn]
   congr 1;omega
theorem GM {es new:List D} {i n:Nat} {e:D} (h:e∈WT es i n new):e∈es++new:=by
 unfold WT at h
 split at h
 case isFalse=>exact aAG.2 (.inl h)
 rcases aAG.1 h with h|h
 ·exact aAG.2 (.inl (aAU h))
 ·rcases aAG.1 h with h|h
  ·exact aAG.2 (.inr (aAU h))
  ·exact aAG.2 (.inl (List.mem_of_mem_drop h))
theorem Oo {Γ:Ar} (h:Sim N w0 F0 M B0 σ F β a w) {nv:Nat} {o:Oper} (hd:∀ t,o.dst=some t->t<N) {t u e:TypeId} {x y:Operand} (ho:o.op= .call { callee:=.builtin .copy,args:=#[x,y],argTypes:=#[t,u] })
  (hu:P.underlying t=some (.slice e)) (hi:(P.info? e).map (·.size)=some 1) {ax ay:Arg} (hx:Ak x=some ax) (hy:Ak y=some ay)
  (hc:((evalOp Γ nv o.dst (.cpy ax ay)).run σ).c):Snd P N w0 F0 M B0 σ β a w o nv ((evalOp Γ nv o.dst (.cpy ax ay)).run σ):=by
 have hvx:=λhp=>Au h hx hp
 have hvy:=λhp=>Au h hy hp
 simp only[evalOp,source,R.run_bind]at hc ⊢
 generalize((rdA ax).run σ).2=dx at *
 generalize((rdA ax).run σ).1=px at *
 generalize((rdA ay).run σ).2=dy at *
 generalize((rdA ay).run σ).1=py at *
 have hview:=λh1 h2 h3=>Io h (d:=dy) (x:=a.eval y) (hvy h1) h2 (s:=1) h3
 generalize((view dy).run σ).2=new at *
 generalize((view dy).run σ).1=cv at *
 cases dx<;>try exact hc.elim
 case osl g v i n =>
  simp only[R.AP]at hc ⊢
  cases hg:σ.go g with
  | none=>rw[hg]at hc;exact hc.elim
  | some p =>
   obtain⟨v',ow⟩:=p
   rw[hg]at hc
   simp only[R.AB]at hc ⊢
   obtain⟨h1,h2,h3,rfl,h4,h5,h6,h7,h8,h9⟩:=hc
   obtain⟨L,A,hL,hxv,hcap,_,hpos⟩:=hvx h1
   obtain⟨B,cap2,hyv,hsrc⟩:=hview h2 h3 h8
   obtain⟨L',hL',_,hkk⟩:=h.own g v ow hg
   rw[hL]at hL';cases hL'
   have hown:=hkk h4
   have hm1:aAo n new.length<=n:=aBB _ _
   have hm2:aAo n new.length<=new.length:=aBI _ _
   have hpl:Ab g=true->∀ q∈WT ow.es i n new,AD q=true:=λhr q hq=>h9 hr q (GM hq)
   have hlen:=JL ow.es i n new
   have fin:∀ w',(Builtin.copy_ #[t,u] o.type #[a.eval x,a.eval y]).run P w= .ok (goInt (aAo n new.length:Nat)) w'->w'.os=w.os->w'.tape=w.tape->w'.output=w.output->w.heap.size<=w'.heap.size->(∀ b,b<w.heap.size->L.b≠some b->w'.heap[b]? =w.heap[b]?)->AA F β w' L { ow with es:=WT ow.es i n new } ->
     Snd P N w0 F0 M B0 σ β a w o nv ⟨px=true/\py=true/\cv/\v=v/\ow.fz=false/\ow.var=false/\ow.s=1/\i+n<=ow.es.length/\(∀ e∈new,(cells e).length=1)/\(Ab g=true->∀ e∈ow.es++new,AD e=true),Ad o.dst (.int .i64 (aAo n new.length:Nat)),[(g,some (v,{ ow with es:=WT ow.es i n new }))]⟩:=by
    intro w' hr k1 k2 k3 k4 k5 k6 K Q hK
    have hrun:(execOp a.eval o).run P w= .ok (.value (.int .i64 (aAo n new.length:Nat))) w':=by
     unfold execOp;rw[ho]
     simp only[goInt]at hr
     simp[resolve,invoke,builtin,hr]
    unfold Oper.wp
    rw[hrun]
    exact hK _ _ _ _ (h.wrote hg h4 hL k1 k2 k3 k4 k5 k6 hpl hd (Env.Af (.int _ _))) (Aw.refl _) (λ_ _=>rfl)
   obtain⟨o1,o2,o3,o4,o5,o6⟩:=hown
   by_cases hm:aAo n new.length=0
   ·have hes:WT ow.es i n new=ow.es:=by
     refine List.ext_getElem? λq=>?_
     rw[Jg h7,if_neg (by omega)]
    refine fin w ?_ rfl rfl rfl (aAL _) (λ_ _ _=>rfl) (by rw[hes];exact⟨o1,o2,o3,o4,o5,o6⟩)
    rw[hm,hxv,hyv]
    exact run_copy_none (P:=P) w t u o.type e A B n (L.cap-i) new.length cap2 hu hi ((Nat.min_comm new.length n).trans hm)
   ·obtain⟨b,hb,rfl⟩:=hpos (by omega)
    obtain⟨b2,p2,rfl,hcell⟩:=hsrc (by omega)
    rw[hb]at o6
    obtain⟨C,hC,hCs,hCx⟩:=o6
    have hs:L.s=1:=o1.trans h6
    have htk:∀ (q:Nat) z,(new.take n)[q]? =some z->new[q]? =some z:=by
     intro q z hz
     rw[aAV]at hz
     split at hz
     ·exact hz
     ·cases hz
    obtain⟨news,n1,n2,n3,n4⟩:=Kj (w:=w) (F:=F) (es:=new.take n) (s:=1) (b:=b2) (o:=p2) (λq hq=>h8 q (aAU hq)) (λi' j e' c' he hj=>hcell i' j e' c' (htk _ _ he) hj)
    have hnl:news.length=aAo n new.length:=by rw[n1,aAv];exact aBH
    have hfit:i*L.s+news.length<=C.size:=by
     rw[hCs,hnl,hs,h6];omega
    have hrun:=run_copy_row (P:=P) w t u o.type e b (i*L.s) n (L.cap-i) ⟨b2,p2,none⟩ new.length cap2 C ow.ty news hu hi hC (hnl.trans (Nat.min_comm n new.length)) n2 hfit n3
    obtain⟨C',hC'⟩:∃ C',C'=(C.toList.take (i*L.s)++news++C.toList.drop (i*L.s+news.length)).toArray:=⟨_,rfl⟩
    rw[<- hC',hnl]at hrun
    have hsp:=λq=>HG C news (i*L.s) hfit q
    rw[<- hC',hnl,hs,aAv]at hsp
    have hCz:C'.size=C.size:=by
     subst hC'
     simp only[List.size_toArray,List.length_append,aBH,List.length_drop,Array.length_toList]
     omega
    refine fin (w.setRow b C') (by rw[hxv,hyv];exact hrun) rfl rfl rfl (by simp[World.setRow]) (λb' _ hne=>setRow_other w b b' C' λe=>hne (by rw[hb,e])) ?_
    refine⟨o1,o2,by simp only[hlen];exact o3,o4,λq hq=>?_,?_⟩
    ·rcases aAG.1 (GM hq)with hq|hq
     ·exact o5 q hq
     ·rw[h8 q hq,h6]
    ·rw[hb]
     refine⟨C',setRow_heap w b C _ ow.ty _ hC,by rw[hCz];exact hCs,λp j q d hq hj=>?_⟩
     simp only at hq ⊢
     have hj0:j=0:=by
      have h10:(cells q).length=1:=by
       rcases aAG.1 (GM (aAB hq))with hq|hq
       ·rw[<- h6];exact o5 q hq
       ·exact h8 q hq
      have:=(aAF.1 hj).1
      omega
     subst hj0
     rw[Jg h7]at hq
     rw[h6,aAv,aAq,hsp]
     split at hq
     ·rename_i hp
      rw[if_pos hp]
      have hq':(new.take n)[p-i]? =some q:=by rw[aAV,if_pos (by omega)];exact hq
      obtain⟨y',y1,y2,y3⟩:=n4 _ 0 _ _ hq' hj
      rw[aAv,aAq]at y1
      refine⟨y',y1,y2,?_⟩
      rw[h5];exact y3
     ·rename_i hp
      rw[if_neg hp]
      have:=hCx p 0 q d hq hj
      rwa[h6,aAv,aAq]at this
theorem MW {Γ:Ar} (h:Sim N w0 F0 M B0 σ F β a w) {nv:Nat} (hnv:β nv=none) {o:Oper} {t:Nat} (hdst:o.dst=some t) (ht:t<N) (htr:Ab t=false) {tt e:TypeId} {len:Nat} {parts:Array (Nat×Operand)} (ho:o.op= .buildSlice tt len parts) (hu:P.underlying tt=some (.slice e)) (hz:Ch P e=some .nilf) (hl0:0<len) (hl1:len<=4096)
  {ps:List (Nat×Nat×Arg)} (hps:CY (λi=>some (i*P.cellsOf e,P.cellsOf e)) parts.toList=some ps)
  (hc:((evalOp Γ nv o.dst (.bldV e len ps)).run σ).c):Snd P N w0 F0 M B0 σ β a w o nv ((evalOp Γ nv o.dst (.bldV e len ps)).run σ):=by
 obtain⟨i,zv,hi,hzv,hone,hsz,hzd⟩:=Cz hz
 have hsi:P.cellsOf e=i.size:=by simp[aAR,hi]
 obtain⟨c1,_,_⟩:=CA (F:=F) zv hone
 rw[<- hzd]at c1
 have hs1:P.cellsOf e=1:=by rw[<- hsz,<- c1];rfl
 obtain⟨l,r⟩:=EX h parts.toList ps hps
 simp only[evalOp,R.run_bind,R.run_pure,hdst,aAC]at hc ⊢
 generalize(BL ps).run σ=rs at *
 obtain⟨hfo,hlp⟩:=hc
 have hval:∀ (n:Nat) (rs:List (Nat×Nat×D)),DA n rs->∀ p∈rs,known p.2.2=true:=by
  intro n rs
  induction rs with
  | nil=>intro _ p hp;cases hp
  | cons q rs ih =>
   intro hf p hp
   obtain⟨f1,_,_,f4⟩:=hf
   cases hp with
   | head=>exact f1
   | tail _ hp=>exact ih f4 p hp
 have hzs:=Hh (F:=F) (z:=zv) (s:=1) (n:=len) (m:=len*P.cellsOf e) hone (by rw[hsz,hs1]) (by omega) (by rw[hs1];exact aAL _)
 rw[<- hzd]at hzs
 have hmz:(madeCells zv.cells (len*P.cellsOf e)).size=len:=by rw[size_madeCells,hs1,aAv]
 have hcell:∀ j,j<len->∃ x,(madeCells zv.cells (len*P.cellsOf e))[j]? =some x/\x.oneCell'=true/\Fro F .nilf x:=by
  intro j hj
  obtain⟨x,x1,x2,x3⟩:=hzs j 0 .nilf .nilf (by rw[List.getElem?_replicate,if_pos hj]) rfl
  exact⟨x,by simpa using x1,x2,x3⟩
 obtain⟨C',f1,f2,f3,f4,f5⟩:=HY (F:=F) (β:=β) (places:=λi=>some (i*P.cellsOf e,P.cellsOf e)) (parts.toList.map λp=>(p.1,a.eval p.2)) rs (aAf len .nilf) (madeCells zv.cells (len*P.cellsOf e)) (by rw[aAn,hmz]) (λj c hj=>by
   have hjl:j<len:=by have:=(aAF.1 hj).1;simpa using this
   have hcn:c= .nilf:=by have:=aAB hj;rw[aBE]at this;exact this.2
   subst hcn
   obtain⟨x,x1,x2,x3⟩:=hcell j hjl
   exact⟨x,by simpa using x1,x2,Cel.Af x3⟩) (λx hx=>by
   rw[Array.mem_iff_getElem?]at hx
   obtain⟨j,hj⟩:=hx
   have hjl:j<len:=by rw[<- hmz];exact(aAc.1 hj).1
   obtain⟨y,y1,y2,_⟩:=hcell j hjl
   rw[hj]at y1;cases y1;exact y2) (by rw[aAn];exact hfo) (by simp[l]) (λq i x off s d hq hd'=>by
   obtain⟨r1,r2⟩:=r q i x off s d hq hd'
   refine⟨r1,?_⟩
   have hk:=hval _ rs hfo _ (aAB hd')
   simp only at hk
   cases d<;>first|exact r2|cases hk)
 rw[hmz]at f2
 rw[aAn]at f3
 intro K Q hK
 have hrun:(execOp a.eval o).run P w= .ok (.value (.slice (some ⟨w.heap.size,0,none⟩) len len)) (w.alloc (.cells C' e)):=by
  unfold execOp;rw[ho]
  have hmap:(parts.map λ(i,x)=>(i,a.eval x)).toList=parts.toList.map λp=>(p.1,a.eval p.2):=by simp
  have h0:len*i.size≠0:=by rw[<- hsi,hs1];omega
  have hb:=run_buildSlice (P:=P) w tt e len (parts.map λ(i,x)=>(i,a.eval x)) C' i zv hu hi hzv (by rw[<- hsi,hs1];omega) h0 (by rw[hmap,<- hsi];exact f1)
  simp only[Sem.run_bind,hb,Result.andThen_ok]
  rfl
 unfold Oper.wp
 rw[hrun]
 simp only[Oper.upon,hdst]at hK ⊢
 refine hK _ _ _ _ (h.alloc (nv:=nv) (t:=t) (tt:=t) hnv ht (C:=C') (o:=⟨false,true,len,e,[.agg (Dq (aAf len .nilf) rs)]⟩) (cap:=1) (d:=.vsl t nv len) (v:=.slice (some ⟨w.heap.size,0,none⟩) len len) (w1:=w) rfl rfl rfl rfl rfl (λhr=>by rw[htr]at hr;cases hr) ?_ ?_) (Ba _ hnv) (λv hv=>Ce _ _ hv)
 ·exact AA.Im (w1:=w) hl0 f2 f3 (λj c hj=>by
   obtain⟨x,x1,x2,x3⟩:=f4 j c hj
   exact⟨x,x1,x2,x3.mono (Ag.refl _) (Ba _ hnv)⟩)
 ·exact⟨_,w.heap.size,An _ _ _,rfl,rfl⟩
theorem Pd {Γ:Ar} (h:Sim N w0 F0 M B0 σ F β a w) {nv:Nat} {o:Oper} (hdst:o.dst=none) {tt:TypeId} {xa xv:Operand} (ho:o.op= .store tt xa xv) {aa av:Arg} (ha:Ak xa=some aa) (hv:Ak xv=some av) (hs:0<P.cellsOf tt)
  (hc:((evalOp Γ nv o.dst (.st (P.cellsOf tt) aa av)).run σ).c):Snd P N w0 F0 M B0 σ β a w o nv ((evalOp Γ nv o.dst (.st (P.cellsOf tt) aa av)).run σ):=by
 have hti:=Fk hs
 have hva:=λhp=>Au h ha hp
 have hvv:=λhp=>Au h hv hp
 simp only[evalOp,R.run_bind]at hc ⊢
 generalize((rdA aa).run σ).2=da at *
 generalize((rdA aa).run σ).1=pa at *
 generalize((rdA av).run σ).2=d at *
 generalize((rdA av).run σ).1=pv at *
 cases da<;>try exact hc.elim
 case optr g v i off =>
  simp only[R.run]at hc ⊢
  cases hg:σ.go g with
  | none=>rw[hg]at hc;exact hc.elim
  | some p =>
   obtain⟨v',ow⟩:=p
   rw[hg]at hc
   simp only at hc ⊢
   have fin:∀ {σ1:S} {F1:Fz} (hF1:Ag F F1) (_:Sim N w0 F0 M B0 σ1 F1 β a w) (u:Out) (w':World),(Instr.storeAt tt (a.eval xa) (a.eval xv)).run P w= .ok () w'->Sim N w0 F0 M B0 (σ.app u) F1 β a w'->Snd P N w0 F0 M B0 σ β a w o nv u:=by
    intro σ1 F1 _ _ u w' hr hS K Q hK
    have hrun:(execOp a.eval o).run P w= .ok .skip w':=by
     unfold execOp;rw[ho];simp[hr]
    unfold Oper.wp
    rw[hrun]
    simp only[Oper.upon]
    have:a.put o.dst undef=a:=by rw[hdst];rfl
    rw[this]
    exact hK _ _ _ _ hS (Aw.refl _) (λ_ _=>rfl)
   by_cases hrg:Ab g=true
   ·rw[if_pos hrg]at hc ⊢
    simp only[R.run_bind,R.AB]at hc ⊢
    obtain⟨h1,h2,h3,rfl,h4,h5,h6,h7,h8,h9⟩:=hc
    obtain⟨w',r1,r2⟩:=Lr (P:=P) h hg hrg h4 h5 (hva h1) (hvv h2) h6 h3 h7 h8 h9 tt hti rfl hs True
    refine fin (Ag.refl _) h _ w' r1 ?_
    exact r2
   rw[if_neg hrg]at hc ⊢
   have hng:Ab g=false:=by simpa using hrg
   by_cases hvar:ow.var=true
   ·rw[if_pos hvar]at hc ⊢
    simp only[R.run]at hc ⊢
    obtain⟨h1,h2,rfl,h4,h5,h6,h7,h8⟩:=hc
    obtain⟨w',r1,r2⟩:=JD (P:=P) h hg hng h4 h5 (hva h1) (hvv h2) (λe=>by rw[hvar]at e;cases e) h6 h7 h8 tt hti rfl hs (pa=true/\pv=true/\v=v/\ow.fz=false/\i<ow.es.length/\known d=true/\(cells d).length=P.cellsOf tt/\off+P.cellsOf tt<=(cells (ow.es.getD i .top)).length)
    exact fin (Ag.refl _) h _ w' r1 r2
   ·rw[if_neg hvar]at hc ⊢
    have hvar':ow.var=false:=by simpa using hvar
    simp only[R.run_bind,R.run_pure]at hc ⊢
    have hres:=λhx hc=>FK h d (x:=a.eval xv) hx hc
    generalize((res d).run σ).2.1=d' at *
    generalize((res d).run σ).2.2=ws at *
    obtain⟨h1,h2,h3,rfl,h4,h5,h6,h7,h8,h9⟩:=hc
    obtain⟨f1,r1⟩:=hres (hvv h2) h3
    obtain⟨F1,hF1,hS1,_⟩:=h.freeze f1
    have hfro:=r1 ws F1 f1 (λ_ hp=>hp) hF1 hS1
    have hgo:(S.mk σ.e (ws++σ.o) σ.n).go g=some (v,ow):=by
     rcases f1.go g with⟨v2,o2,_,_,k3,_⟩|⟨_,k2⟩
     ·simp only[aAS]at h9
      have:=h9 _ k3
      simp at this
     ·rw[k2];exact hg
    obtain⟨w',q1,q2⟩:=JD (P:=P) hS1 hgo hng h4 h5 (d:=d') (x:=a.eval xv) ((hva h1).mono hF1 (Aw.refl _)) (Val.Af hfro) (λ_=>hfro) h6 h7 h8 tt hti rfl hs True
    refine fin hF1 hS1 _ w' q1 ?_
    have e':∀ (c:Prop) (x:Nat×Ac),(σ.app ⟨c,[],x::ws⟩)=(S.mk σ.e (ws++σ.o) σ.n).app ⟨True,[],[x]⟩:=by
     intro c x;simp[S.app]
    rw[e']
    exact q2
theorem Pc {Γ:Ar} (h:Sim N w0 F0 M B0 σ F β a w) {nv:Nat} (hnv:β nv=none) {o:Oper} (hd:∀ t,o.dst=some t->t<N) {t:TypeId} {x:Operand} (ho:o.op= .load t x) {n:Nat} {agg:Bool} {y:Arg} (hy:Ak x=some y)
  (h1:Cq P t=agg) (h2:(P.underlying t).isSome=true) (h3:agg=true->P.info? t≠none/\n=P.cellsOf t) (h4:agg=false->n=1)
  (hc:((evalOp Γ nv o.dst (.ld n agg y)).run σ).c):Snd P N w0 F0 M B0 σ β a w o nv ((evalOp Γ nv o.dst (.ld n agg y)).run σ):=by
 have hv:=λhp=>Au h hy hp
 simp only[evalOp,R.run_bind]at hc ⊢
 generalize((rdA y).run σ).2=d at *
 generalize((rdA y).run σ).1=p at *
 have old:∀ (c:Prop),p=true->((QS d).run σ).1->((QS d).run σ).2.2+n<=(cells ((QS d).run σ).2.1).length->Snd P N w0 F0 M B0 σ β a w o nv ⟨c,Ad o.dst (QN (cells ((QS d).run σ).2.1) ((QS d).run σ).2.2 n agg),[]⟩:=by
  intro c q1 q2 q3
  obtain⟨v,r1,r2⟩:=Ki (P:=P) h (hv q1) q2 t n agg h1 h2 h3 h4 q3
  exact Snd.pure' h hd (v:=v) (by unfold execOp;rw[ho];simp[r1]) (Env.Ah r2)
 by_cases hptr:∃ g v i off,d= .optr g v i off
 ·obtain⟨g,v,i,off,rfl⟩:=hptr
  simp only[R.run]at hc ⊢
  cases hg:σ.go g with
  | none=>rw[hg]at hc;exact hc.2.1.elim
  | some q =>
   obtain⟨v',ow⟩:=q
   rw[hg]at hc
   simp only at hc ⊢
   have old':∀ (c:Prop),p=true->(v=v'/\i<ow.es.length)->off+n<=(cells (ow.es.getD i .top)).length->Snd P N w0 F0 M B0 σ β a w o nv ⟨c,Ad o.dst (QN (cells (ow.es.getD i .top)) off n agg),[]⟩:=by
    intro c q1 q2 q3
    have:=old c q1 (by simp only[QS,R.run,hg];exact q2) (by simp only[QS,R.run,hg];exact q3)
    simpa only[QS,R.run,hg]using this
   split at hc
   ·
    rename_i s ty es hr hp
    simp only[R.run]at hc ⊢
    obtain⟨q1,⟨rfl,q2⟩,q3,q4,q5,rfl,rfl,q6⟩:=hc
    obtain⟨t',ht'⟩:=aAO.1 q5
    rw[ht']at q6
    simp only[aAC]at q6
    have hrow:(cells (ow.es.getD i .top))[off]? =some (.row s ty es):=by
     have hlt:off<(cells (ow.es.getD i .top)).length:=by omega
     simp only[QN,aAj,if_false]at hp
     generalize cells (ow.es.getD i .top)=l at hp hlt ⊢
     rw[aAJ,aAQ hlt]at hp
     rw[aAQ hlt]
     exact congrArg some hp
    obtain⟨b,L,xv,e1,e2,e3⟩:=Kk h hnv (hd t' ht') hg hr q4 q2 hrow q6 (hv q1) True
    intro K Q hK
    have hagg:=FN (P:=P) h2 w
    rw[h1]at hagg
    have hrun:(execOp a.eval o).run P w= .ok (.value xv) w:=by
     unfold execOp;rw[ho]
     simp[Instr.loadAt,aAt,loadVar,hagg,e1,e2]
    unfold Oper.wp
    rw[hrun]
    simp only[Oper.upon,ht',aAC]at hK ⊢
    exact hK _ _ _ _ e3 (Ba _ hnv) (λv hv=>Ce _ _ hv)
   ·rename_i nm u m hr hp
    simp only[R.run]at hc ⊢
    obtain⟨q1,⟨rfl,q2⟩,q3,q4,rfl,rfl⟩:=hc
    have hrow:(cells (ow.es.getD i .top))[off]? =some (.hole nm u m):=by
     have hlt:off<(cells (ow.es.getD i .top)).length:=by omega
     simp only[QN,aAj,if_false]at hp
     generalize cells (ow.es.getD i .top)=l at hp hlt ⊢
     rw[aAJ,aAQ hlt]at hp
     rw[aAQ hlt]
     exact congrArg some hp
    obtain⟨b,xv,e1,e2,e3⟩:=NZ h hg hr q4 q2 hrow (hv q1)
    have hagg:=FN (P:=P) h2 w
    rw[h1]at hagg
    refine Snd.pure' h hd (v:=xv) ?_ (Env.Ah (Val.Ap (Cel.CL e3)))
    unfold execOp;rw[ho]
    simp[Instr.loadAt,aAt,loadVar,hagg,e1,e2]
   ·simp only[R.run]at hc ⊢
    exact old' _ hc.1 hc.2.1 hc.2.2
 ·cases d<;>first|exact(hptr ⟨_,_,_,_,rfl⟩).elim|(simp only[R.run_bind,R.run_pure]at hc ⊢;exact old _ hc.1 hc.2.1 hc.2.2)
end
section
variable {N:Nat} {w0:World} {F0:Fz} {M:Nat->Prop} {B0:Bt} {σ:S} {F:Fz} {β:Bt} {a:Act} {w:World} {P:Program}
theorem Kh {f:Int->Int->Int} {d e:D} {x y:Value} (hx:Val F β d x) (hy:Val F β e y) (hc:(HZ f d e).1):∃ k m n,x= .int k m/\y= .int k n/\(HZ f d e).2= .int k (f m n):=by
 cases d<;>try exact hc.elim
 cases e<;>try exact hc.elim
 rename_i k m k' n
 obtain rfl:k=k':=hc
 exact⟨k,m,n,AK hx,AK hy,rfl⟩
theorem JH (h:Sim N w0 F0 M B0 σ F β a w) {as:List Operand} {ys:List Arg} (hy:CX as=some ys) {x y:D} (hds:(AL ys).run σ=[x,y]) :
  ∃ p q,as=[p,q]/\Env F β x (a.eval p)/\Env F β y (a.eval q):=by
 obtain⟨l,r⟩:=DU h hy
 rw[hds]at l r
 match as,l with
 | [p,q],_=>exact⟨p,q,rfl,r 0 _ _ rfl rfl,r 1 _ _ rfl rfl⟩
theorem foldl_push (ns:List Int):∀ r:List UInt8,ns.foldl (λr n=>r.push (aBD n.toNat)) (⟨r.toArray⟩:ByteArray)=⟨(r++ns.map λn=>aBD n.toNat).toArray⟩:=by
 induction ns with
 | nil=>intro r;simp
 | cons n ns ih =>
  intro r
  have e:(⟨r.toArray⟩:ByteArray).push (aBD n.toNat)=⟨(r++[aBD n.toNat]).toArray⟩:=by simp[ByteArray.push]
  rw[List.foldl_cons,e,ih]
  simp
theorem Jc {es:List D} {A:Option Addr} {cap:Nat} (hb:∀ e∈es,∃ n,e= .int .u8 n)
  (hA:0<es.length->∃ b o,A=some ⟨b,o,none⟩/\∀ (i j:Nat) e c,es[i]? =some e->(cells e)[j]? =some c->∃ y,w.cell? ⟨b,o+(i*1+j),none⟩=some y/\y.oneCell'=true/\Fro F c y) :
  (Conv.bytesToString (.slice A es.length cap)).run P w= .ok (.string ⟨(es.map EO).toArray⟩) w:=by
 have hns:es=(es.map λe=>match e with| .int _ n=>n|_=>0).map (D.int .u8):=by
  rw[List.map_map]
  conv=>lhs;rw[<- List.map_id es]
  refine List.map_congr_left λe he=>?_
  obtain⟨n,rfl⟩:=hb e he
  rfl
 generalize(es.map λe=>match e with| .int _ n=>n|_=>0)=ns at hns
 subst hns
 have hbd:(ns.map (D.int .u8)).map EO=ns.map λn=>aBD n.toNat:=by simp[EO]
 rw[hbd]
 cases ns with
 | nil =>
  cases A with
  | none=>simp[Conv.bytesToString,Sem.run_pure];rfl
  | some q =>
   exact run_bytesToString (P:=P) w q 0 cap [] (by simpa using run_loadCells_list (P:=P) w q [] (λj v hj=>by simp at hj))
 | cons n ns =>
  obtain⟨b,o,rfl,hc⟩:=hA (by simp)
  have hl:(loadCells ⟨b,o,none⟩ ((n::ns).map (D.int .u8)).length).run P w= .ok ((n::ns).map (Value.int .u8)).toArray w:=by
   have:=run_loadCells_list (P:=P) w ⟨b,o,none⟩ ((n::ns).map (Value.int .u8)) (λj v hj=>by
    rw[aAK]at hj
    obtain⟨m,hm,rfl⟩:=aAM.1 hj
    obtain⟨y,hy,_,hf⟩:=hc j 0 (.int .u8 m) (.int .u8 m) (by rw[aAK,hm];rfl) rfl
    cases hf
    have e:((⟨b,o,none⟩:Addr).add j)=⟨b,o+j,none⟩:=by
     unfold Addr.add
     split
     ·rename_i hj0;subst hj0;rfl
     ·rfl
    rw[e]
    simpa using hy)
   simpa using this
  have:=run_bytesToString (P:=P) w ⟨b,o,none⟩ _ cap (n::ns) hl
  rw[this]
  have e:=foldl_push (n::ns) []
  simp only[aBJ]at e
  exact congrArg (λz=>Result.ok (Value.string z) w) e
theorem LB (h:Sim N w0 F0 M B0 σ F β a w) {g v:Nat} {x:Value} (hx:Val F β (.mref g v) x) (hc:(bAt g v).run σ):∃ b,x= .pointer (some ⟨b,0,none⟩):=by
 obtain⟨L,hL,_,hx⟩:=hx
 simp only[bAt,R.run]at hc
 cases hg:σ.go g with
 | none=>rw[hg]at hc;exact hc.elim
 | some p =>
  obtain⟨v',o⟩:=p
  rw[hg]at hc
  simp only[R.run]at hc
  obtain⟨rfl,hf,h0,h2⟩:=hc
  obtain⟨L',hL',hz,_⟩:=h.own g v o hg
  rw[hL]at hL';cases hL'
  rcases hz hf with hz|hz
  ·rcases hx with hx|hx
   ·have:=hz.2.1.1;omega
   ·exact⟨_,hx.2⟩
  ·have:=hz.2.2.1;omega
theorem LS {g k:Nat} (hG:UG P F) (h:Kf P g=some k) (j:Nat):Fro F (.fptr (.agg (IU k)) j) (.pointer (some ⟨g,0+j,none⟩)):=by
 have h1:=List.mem_of_find?_eq_some h
 have h2:=List.find?_some h
 simp only[decide_eq_true_eq]at h2
 rw[aAg]at h1
 have hm:CP.getD k ("",[])∈CP:=by
  rw[aAJ,aAQ h1]
  exact List.getElem_mem h1
 have key:=hG _ hm g h2.2
 refine .fptr _ g 0 j (λj=>(F g j).getD undef) (λj d hd=>?_) (λj d hd=>?_) λj d hd=>?_
 all_goals
  obtain⟨x,h1,h2,h3⟩:=key j d hd
  simp only[aAa,h1,aAC]
 ·exact h2
 ·exact h3
theorem MK {Γ:Ar} (hΓ:∀ k sp,Γ k=some sp->Bv P F0 (k % 4096) sp) (h:Sim N w0 F0 M B0 σ F β a w) {o:Oper} {dop:DOp} (hop:cOp P o.type o.op=some dop) (hdst:CO N o.dst dop=true) (hm:Dt dop=false) {nv:Nat} (hnv:β nv=none)
  (hc:((evalOp Γ nv o.dst dop).run σ).c):Snd P N w0 F0 M B0 σ β a w o nv ((evalOp Γ nv o.dst dop).run σ):=by
 have hd:=DX hdst
 have hdr:=MH hdst
 cases ho:o.op with
 | move x =>
  simp only[ho,cOp,aAA,aA]at hop
  obtain⟨y,hy,he⟩:=hop;cases he
  simp only[evalOp,R.run_bind,R.run_pure]
  exact Snd.pure' h hd (by unfold execOp;rw[ho];rfl) (CI h hy)
 | assign x =>
  simp only[ho,cOp]at hop
  split at hop
  ·rename_i e hu
   simp only[aAA,aA]at hop
   obtain⟨y,hy,he⟩:=hop;cases he
   obtain⟨t,ht,htN⟩:=Cs hdst (by simp) (by simp)
   refine Kv h hnv ht htN (hdr _ ht) ho hy (λs ty e=>?_) hc
   split at e
   ·rename_i hpos;cases e;exact hpos
   ·cases e
  ·simp only[aAA,aA]at hop
   obtain⟨y,hy,he⟩:=hop;cases he
   obtain⟨t,ht,htN⟩:=Cs hdst (by simp) (by simp)
   exact Kv h hnv ht htN (hdr _ ht) ho hy (λs ty e=>by cases e) hc
 | pick c x y =>
  simp only[ho,cOp,aAA,aA]at hop
  obtain⟨ac,hac,ax,hax,ay,hay,he⟩:=hop;cases he
  have h1:=λhp=>Au h hac hp
  have h2:=λhp=>Au h hax hp
  have h3:=λhp=>Au h hay hp
  simp only[evalOp,R.run_bind]at hc ⊢
  generalize((rdA ac).run σ).2=dc at *
  generalize((rdA ac).run σ).1=pc at *
  generalize((rdA ax).run σ).2=dx at *
  generalize((rdA ax).run σ).1=px at *
  generalize((rdA ay).run σ).2=dy at *
  generalize((rdA ay).run σ).1=py at *
  split at hc
  ·rename_i bc bx by'
   simp only[R.run_pure]at hc ⊢
   obtain⟨q1,q2,q3⟩:=hc
   have e1:=BQ (h1 q1)
   cases bc with
   | true =>
    have e2:=BQ (h2 (q2 rfl))
    refine Snd.pure' h hd (v:=.bool bx) (by unfold execOp;rw[ho];simp[e1,e2,asBool]) (Env.Af (by simpa using .bool bx))
   | false =>
    have e3:=BQ (h3 (q3 rfl))
    refine Snd.pure' h hd (v:=.bool by') (by unfold execOp;rw[ho];simp[e1,e3,asBool]) (Env.Af (by simpa using .bool by'))
  ·exact hc.elim
 | alloc e =>
  simp only[ho,cOp]at hop
  split at hop
  ·cases hop;cases hm
  simp only[aAA,aA]at hop
  obtain⟨z,hz,he⟩:=hop
  split at he
  ·rename_i hs;cases he
   obtain⟨t,ht,htN⟩:=Cs hdst (by simp) (by simp)
   exact Ot h hnv ht htN (hdr _ ht) ho hz hs
  ·cases he
 | box e x =>
  simp only[ho,cOp]at hop
  split at hop
  ·simp only[aAA,aA]at hop
   obtain⟨_,_,he⟩:=hop;cases he;cases hm
  split at hop
  ·rename_i hs
   simp only[aAA,aA]at hop
   obtain⟨y,hy,he⟩:=hop;cases he
   obtain⟨t,ht,htN⟩:=Cs hdst (by simp) (by simp)
   exact On h hnv ht htN (hdr _ ht) ho hy hs hc
  ·cases hop
 | build t parts =>
  simp only[ho,cOp,aAA,aA]at hop
  obtain⟨z,hz,he⟩:=hop
  obtain⟨i,zv,hi,hzv,hone,hsz,hzd⟩:=Cz hz
  obtain⟨c1,c2,c3⟩:=CA (F:=F) zv hone
  have fin:∀ (cs:List D) (places:Nat->Option (Nat×Nat)) (ps:List (Nat×Nat×Arg)),z= .agg cs->CY places parts.toList=some ps->dop= .bld cs ps ->
    (∀ C,Instr.fill places zv.cells (parts.toList.map λp=>(p.1,a.eval p.2))=some C->(Instr.build t (parts.map λ(i,x)=>(i,a.eval x))).run P w= .ok (.agg C) w) ->
    Snd P N w0 F0 M B0 σ β a w o nv ((evalOp Γ nv o.dst dop).run σ):=by
   rintro cs places ps rfl hps rfl hrun
   obtain⟨l,r⟩:=EX h parts.toList ps hps
   simp only[evalOp,R.run_bind,R.run_pure]at hc ⊢
   generalize(BL ps).run σ=rs at *
   have hcs:cells (Bp zv)=cs:=by rw[<- hzd];rfl
   rw[hcs]at c1 c3
   have hval:∀ (n:Nat) (rs:List (Nat×Nat×D)),DA n rs->∀ p∈rs,known p.2.2=true:=by
    intro n rs
    induction rs with
    | nil=>intro _ p hp;cases hp
    | cons q rs ih =>
     intro hf p hp
     obtain⟨f1,_,_,f4⟩:=hf
     cases hp with
     | head=>exact f1
     | tail _ hp=>exact ih f4 p hp
   obtain⟨C',f1,f2,f3,f4,f5⟩:=HY (F:=F) (β:=β) (places:=places) (parts.toList.map λp=>(p.1,a.eval p.2)) rs cs zv.cells c1 (λj c hj=>by
     obtain⟨x,x1,x2,x3⟩:=c3 j c hj
     exact⟨x,x1,x2,Cel.Af x3⟩) c2 hc (by simp[l]) (λq i x off s d hq hd'=>by
     obtain⟨r1,r2⟩:=r q i x off s d hq hd'
     refine⟨r1,?_⟩
     have hk:=hval _ rs hc _ (aAB hd')
     simp only at hk
     cases d<;>first|exact r2|cases hk)
   refine Snd.pure' h hd (v:=.agg C') (by unfold execOp;rw[ho];simp[hrun C' f1]) ?_
   refine⟨C'.toList,by simp,by simp[f3,f2,c1],λv hv=>f5 v (by simpa using hv),λj c v hc' hv=>?_⟩
   obtain⟨x,x1,x2,x3⟩:=f4 j c hc'
   simp only[aAa]at x1
   rw[aAz]at hv
   rw[hv]at x1;cases x1
   exact x3
  split at he
  ·rename_i cs fs hu
   simp only[aA]at he
   obtain⟨ps,hps,he⟩:=he
   split at he
   ·rename_i hall
    cases he
    refine fin _ _ ps rfl hps rfl (λC hC=>run_build w t _ C ?_)
    have hmap:(parts.map λ(i,x)=>(i,a.eval x)).toList=parts.toList.map λp=>(p.1,a.eval p.2):=by simp
    have hplaces:fs.toList.mapM (λf=>(P.info? f.type).map λi=>(f.offset,i.size))=some (fs.toList.map λf=>(f.offset,P.cellsOf f.type)):=by
     generalize fs.toList=l at hall
     induction l with
     | nil=>rfl
     | cons f l ih =>
      simp only[List.all_cons,aAY]at hall
      obtain⟨i,hi⟩:=aAO.1 hall.1
      simp[List.mapM_cons,hi,ih hall.2,aAR]
    unfold Program.built
    rw[hi,hu]
    simp only[hzv,hplaces]
    rw[hmap,<- hC]
    congr 1
    funext i
    simp
   ·cases he
  ·rename_i cs n e hu
   simp only[aA]at he
   obtain⟨ps,hps,he⟩:=he
   split at he
   ·rename_i hie
    cases he
    obtain⟨ie,hie⟩:=aAO.1 hie
    refine fin _ _ ps rfl hps rfl (λC hC=>run_build w t _ C ?_)
    have hmap:(parts.map λ(i,x)=>(i,a.eval x)).toList=parts.toList.map λp=>(p.1,a.eval p.2):=by simp
    unfold Program.built
    rw[hi,hu]
    simp only[hzv,hie]
    rw[hmap,<- hC]
    simp[aAR,hie]
   ·cases he
  ·cases he
 | buildSlice t len parts =>
  simp only[ho,cOp]at hop
  split at hop
  ·rename_i e hu
   simp only[aAA,aA]at hop
   obtain⟨z,hz,he⟩:=hop
   split at he
   ·rename_i hzn
    simp only[aA]at he
    obtain⟨ps,hps,he⟩:=he
    split at he
    ·rename_i hs
     cases he
     obtain⟨t',ht,htN⟩:=Cs hdst (by simp) (by simp)
     have hzn':z= .nilf:=by cases z<;>first|rfl|cases hzn
     subst hzn'
     exact MW h hnv ht htN (hdr _ ht) ho hu hz hs.1 hs.2 hps hc
    ·cases he
   simp only[aA]at he
   obtain⟨ps,hps,he⟩:=he
   split at he
   ·rename_i hs
    cases he
    obtain⟨t',ht,htN⟩:=Cs hdst (by simp) (by simp)
    exact MV h hnv ht htN (hdr _ ht) ho hu hz hs.1 hs.2.2 hps hc
   ·cases he
  ·cases hop
 | load t x =>
  simp only[ho,cOp]at hop
  have key:∀ (n:Nat) (agg:Bool) (y:Arg),Ak x=some y->dop= .ld n agg y->Cq P t=agg->(P.underlying t).isSome=true->(agg=true->P.info? t≠none/\n=P.cellsOf t)->(agg=false->n=1)->Snd P N w0 F0 M B0 σ β a w o nv ((evalOp Γ nv o.dst dop).run σ):=by
   rintro n agg y hy rfl h1 h2 h3 h4
   exact Pc h hnv hd ho hy h1 h2 h3 h4 hc
  split at hop
  ·rename_i hagg
   simp only[aAA,aA]at hop
   obtain⟨y,hy,he⟩:=hop;cases he
   have hu:=Ec hagg
   obtain⟨td,htd⟩:=aAO.1 hu
   exact key _ _ y hy rfl hagg hu (λ_=>⟨DE htd,rfl⟩) (λe=>by cases e)
  ·rename_i hagg
   split at hop
   ·rename_i hu
    simp only[aAA,aA]at hop
    obtain⟨y,hy,he⟩:=hop;cases he
    exact key _ _ y hy rfl (by simpa using hagg) hu (λe=>by cases e) (λ_=>rfl)
   ·cases hop
 | store t x y =>
  simp only[ho,cOp]at hop
  split at hop
  ·rename_i hs
   simp only[aAA,aA]at hop
   obtain⟨ax,hax,ay,hay,he⟩:=hop;cases he
   have hn:o.dst=none:=by
    unfold CO at hdst
    cases hdd:o.dst with
    | none=>rfl
    | some t=>rw[hdd]at hdst;cases hdst
   exact Pd h hn ho hax hay hs hc
  ·cases hop
 | nilCheck x =>
  simp only[ho,cOp,aAA,aA]at hop
  obtain⟨y,hy,he⟩:=hop;cases he
  have hv:=λhp=>Au h hy hp
  simp only[evalOp,R.run_bind]at hc ⊢
  generalize((rdA y).run σ).2=d at *
  generalize((rdA y).run σ).1=p at *
  cases d<;>try exact hc.elim
  case optr g v i off =>
   have hx:=hv hc
   obtain⟨L,b,h1,h2,h3⟩:=hx
   exact Snd.pure' h hd (v:=a.eval x) (by unfold execOp;rw[ho];simp[h3]) ⟨L,b,h1,h2,h3⟩
  case fptr e off =>
   have hx:=hv hc
   have:∃ b o,a.eval x= .pointer (some ⟨b,o,none⟩):=by
    generalize a.eval x=xx at hx
    cases hx with
    | fptr e b o off vf hF h1 hh=>exact⟨_,_,rfl⟩
   obtain⟨b,o',hbo⟩:=this
   exact Snd.pure' h hd (v:=a.eval x) (by unfold execOp;rw[ho];simp[hbo]) hx
  case mref g v =>
   simp only[R.run_bind,R.run_pure]at hc ⊢
   obtain⟨b,hbo⟩:=LB h (hv hc.1) hc.2
   exact Snd.pure' h hd (v:=a.eval x) (by unfold execOp;rw[ho];simp[hbo]) (Env.Ah (hv hc.1))
 | binOp op t x y t' =>
  have eqb:∀ (neg:Bool) (ax ay:Arg),op=(if neg then .neq else .eql)->P.underlying t=some .bool->Ak x=some ax->Ak y=some ay->dop= .eqB neg ax ay->Snd P N w0 F0 M B0 σ β a w o nv ((evalOp Γ nv o.dst dop).run σ):=by
   rintro neg ax ay hneg hu hax hay rfl
   have h1:=λhp=>Au h hax hp
   have h2:=λhp=>Au h hay hp
   simp only[evalOp,R.run_bind]at hc ⊢
   generalize((rdA ax).run σ).2=dx at *
   generalize((rdA ax).run σ).1=px at *
   generalize((rdA ay).run σ).2=dy at *
   generalize((rdA ay).run σ).1=py at *
   split at hc
   ·rename_i bx by'
    simp only[R.run_pure]at hc ⊢
    have e1:=BQ (h1 hc.1)
    have e2:=BQ (h2 hc.2)
    have e3:=OC (P:=P) hu bx by' neg x y w
    rw[<- hneg]at e3
    exact Snd.pure' h hd (v:=.bool (if neg then !(bx==by')else(bx==by'))) (by unfold execOp;rw[ho];simp only[Sem.run_bind,e1,e2]at e3 ⊢;simp[e3]) (Env.Af (.bool _))
   ·exact hc.elim
  have eqa:∀ (n:Nat) (neg:Bool) (ax ay:Arg),op=(if neg then .neq else .eql)->EE P t=some n->Ak x=some ax->Ak y=some ay->dop= .eqA n neg ax ay->Snd P N w0 F0 M B0 σ β a w o nv ((evalOp Γ nv o.dst dop).run σ):=by
   rintro n neg ax ay hneg hu hax hay rfl
   have h1:=λhp=>Au h hax hp
   have h2:=λhp=>Au h hay hp
   simp only[evalOp,R.run_bind]at hc ⊢
   generalize((rdA ax).run σ).2=dx at *
   generalize((rdA ax).run σ).1=px at *
   generalize((rdA ay).run σ).2=dy at *
   generalize((rdA ay).run σ).1=py at *
   split at hc
   ·rename_i bx by'
    simp only[R.run_pure]at hc ⊢
    have e3:=OB (P:=P) hu (h1 hc.1) (h2 hc.2.1) hc.2.2.1 hc.2.2.2 neg x y w
    rw[<- hneg]at e3
    exact Snd.pure' h hd (v:=.bool (if neg then !(eqL bx by').2 else(eqL bx by').2)) (by unfold execOp;rw[ho];simp only[Sem.run_bind]at e3 ⊢;simp[e3]) (Env.Af (.bool _))
   ·exact hc.elim
  have gen:(Ak x).bind (λax=>(Ak y).bind λay=>some (DOp.bin op ax ay))=some dop->Snd P N w0 F0 M B0 σ β a w o nv ((evalOp Γ nv o.dst dop).run σ):=by
   intro hop
   simp only[aA]at hop
   obtain⟨ax,hax,ay,hay,he⟩:=hop;cases he
   have h1:=λhp=>Au h hax hp
   have h2:=λhp=>Au h hay hp
   simp only[evalOp,R.run_bind,R.run_pure,Bu]at hc ⊢
   obtain⟨⟨q1,q2⟩,q3⟩:=hc
   obtain⟨v,r1,r2⟩:=NL (P:=P) (h1 q1) (h2 q2) q3 t x y w
   exact Snd.pure' h hd (v:=v) (by unfold execOp;rw[ho];simp only[Sem.run_bind]at r1 ⊢;simp[r1]) (Env.Ah r2)
  simp only[ho,cOp]at hop
  split at hop
  ·rename_i hu
   simp only[aAA,aA]at hop
   obtain⟨ax,hax,ay,hay,he⟩:=hop
   exact eqb false ax ay rfl hu hax hay (by cases he;rfl)
  ·rename_i hu
   simp only[aAA,aA]at hop
   obtain⟨ax,hax,ay,hay,he⟩:=hop
   exact eqb true ax ay rfl hu hax hay (by cases he;rfl)
  ·split at hop
   ·rename_i n hn
    simp only[aAA,aA]at hop
    obtain⟨ax,hax,ay,hay,he⟩:=hop
    exact eqa n false ax ay rfl hn hax hay (by cases he;rfl)
   ·exact gen hop
  ·split at hop
   ·rename_i n hn
    simp only[aAA,aA]at hop
    obtain⟨ax,hax,ay,hay,he⟩:=hop
    exact eqa n true ax ay rfl hn hax hay (by cases he;rfl)
   ·exact gen hop
  ·exact gen hop
 | unOp op t x =>
  simp only[ho,cOp,aAA,aA]at hop
  obtain⟨ax,hax,he⟩:=hop;cases he
  have h1:=λhp=>Au h hax hp
  simp only[evalOp,R.run_bind,R.run_pure,Bu]at hc ⊢
  obtain⟨q1,q3⟩:=hc
  obtain⟨v,r1,r2⟩:=Pj (P:=P) (h1 q1) q3 w
  exact Snd.pure' h hd (v:=v) (by unfold execOp;rw[ho];simp[r1]) (Env.Ah r2)
 | convert s t x =>
  simp only[ho,cOp]at hop
  split at hop
  ·rename_i k hu
   split at hop
   ·rename_i hs
    simp only[aAA,aA]at hop
    obtain⟨ax,hax,he⟩:=hop;cases he
    have h1:=λhp=>Au h hax hp
    simp only[evalOp,R.run_bind]at hc ⊢
    generalize((rdA ax).run σ).2=d at *
    generalize((rdA ax).run σ).1=p at *
    cases d<;>try exact hc.elim
    case int k' n =>
     have e:=AK (h1 hc)
     obtain⟨ds,hds⟩:=aAO.1 hs
     refine Snd.pure' h hd (v:=.int k (k.wrap n)) ?_ (Env.Af (.int _ _))
     unfold execOp;rw[ho]
     simp[convert,run_underlying hds,run_underlying hu,e,Conv.intToInt]
   ·cases hop
  ·rename_i hu
   split at hop
   ·rename_i k0 hs
    simp only[aAA,aA]at hop
    obtain⟨ax,hax,he⟩:=hop;cases he
    have h1:=λhp=>Au h hax hp
    simp only[evalOp,R.run_bind]at hc ⊢
    generalize((rdA ax).run σ).2=d at *
    generalize((rdA ax).run σ).1=p at *
    cases d<;>try exact hc.elim
    case int k' n =>
     have e:=AK (h1 hc)
     refine Snd.pure' h hd (v:=.string (Utf8.encode n)) ?_ (Env.Af (.str _))
     unfold execOp;rw[ho]
     simp[convert,run_underlying hs,run_underlying hu,e,Conv.intToString]
   ·rename_i e0 hs
    split at hop
    ·rename_i he0
     simp only[aAA,aA]at hop
     obtain⟨ax,hax,he⟩:=hop;cases he
     have h1:=λhp=>Au h hax hp
     simp only[evalOp,R.run_bind]at hc ⊢
     generalize((rdA ax).run σ).2=d at *
     generalize((rdA ax).run σ).1=p at *
     have hview:=λh1' h2 h3=>Io h (d:=d) (x:=a.eval x) (h1 h1') h2 (s:=1) h3
     generalize((view d).run σ).2=es at *
     generalize((view d).run σ).1=cv at *
     simp only[R.run_pure]at hc ⊢
     obtain⟨q1,q2,q3⟩:=hc
     obtain⟨A,cap,hx,hA⟩:=hview q1 q2 (λe he=>by obtain⟨n,rfl⟩:=q3 e he;rfl)
     refine Snd.pure' h hd (v:=.string ⟨(es.map EO).toArray⟩) ?_ (Env.Af (.str _))
     unfold execOp;rw[ho]
     simp[hx,run_convert_bytes_string (P:=P) w s t e0 A es.length cap hs he0 hu,Jc q3 hA]
    ·cases hop;exact hc.elim
   ·cases hop;exact hc.elim
  ·cases hop;exact hc.elim
 | makeSlice t xl xc =>
  simp only[ho,cOp]at hop
  split at hop
  ·rename_i e hu
   simp only[aAA,aA]at hop
   obtain⟨z,hz,he⟩:=hop
   split at he
   ·rename_i hs
    simp only[aA]at he
    obtain⟨yl,hyl,yc,hyc,he⟩:=he;cases he
    obtain⟨t',ht,htN⟩:=Cs hdst (by simp) (by simp)
    exact Oq h hnv ht htN (hdr _ ht) ho hu hz hs.1 hyl hyc hc
   ·cases he
  ·cases hop
 | slice t x lo hi mx =>
  cases mx with
  | some m =>
   simp only[ho,cOp,Option.some.injEq]at hop
   subst hop
   exact hc.elim
  | none =>
   simp only[ho,cOp]at hop
   have hopt:∀ {x? :Option Operand} {y? :Option Arg} (n:Int),Fx x? =some y? ->(bound ((Bi y?).run σ) n).1->(∀ d,(Bi y?).run σ=some d->∃ x,x?.map a.eval=some x/\Val F β d x)/\((Bi y?).run σ=none->x?.map a.eval=none):=by
    intro x? y? n hy hb
    obtain⟨o1,o2⟩:=OX h hy
    refine⟨λd hd=>?_,o2⟩
    obtain⟨x,x1,x2⟩:=o1 d hd
    rw[hd]at hb
    exact⟨x,x1,LF x2 hb⟩
   split at hop
   ·rename_i e hu
    split at hop
    ·rename_i hie
     obtain⟨hie,hpos⟩:=hie
     have hie':P.info? e≠none:=by intro e';rw[e']at hie;cases hie
     simp only[aAA,aA]at hop
     obtain⟨ax,hax,alo,halo,ahi,hahi,he⟩:=hop;cases he
     have h1:=λhp=>Au h hax hp
     simp only[evalOp,R.run_bind,R.run_pure,Bu]at hc ⊢
     generalize((rdA ax).run σ).2=d at *
     generalize((rdA ax).run σ).1=p at *
     obtain⟨⟨q1,q2⟩,q3⟩:=hc
     have hb:∃ n:Int,(bound ((Bi alo).run σ) 0).1/\(bound ((Bi ahi).run σ) n).1:=by
      cases d<;>first|exact q3.elim|(exact⟨_,q3.1,q3.2.1⟩)|skip
     obtain⟨n,hb1,hb2⟩:=hb
     obtain⟨l1,l2⟩:=hopt 0 halo hb1
     obtain⟨m1,m2⟩:=hopt n hahi hb2
     obtain⟨v,r1,r2⟩:=MU (P:=P) h hu hie' (h1 q1) (λg v i n L e1 e2 _=>by
       subst e1
       simp only[fits,R.run]at q2
       cases hg:σ.go g with
       | none=>rw[hg]at q2;exact q2.elim
       | some pp =>
        obtain⟨v',ow⟩:=pp
        rw[hg]at q2
        obtain⟨_,rfl,q4⟩:=q2
        obtain⟨L',e3,hz,hk⟩:=h.own g v ow hg
        rw[e2]at e3;cases e3
        rw[<- q4]
        cases hfz:ow.fz with
        | true=>exact(hz hfz).elim (λm=>by have:=m.2.2.2;omega) λm=>m.2.1
        | false=>exact(hk hfz).1) (λes q e1 hq=>by
       subst e1
       exact q2.2 q hq) l1 l2 m1 m2 (λs e1=>by
       subst e1
       have q2':P.cellsOf e=0:=q2
       omega) q3
     exact Snd.pure' h hd (v:=v) (by unfold execOp;rw[ho];simp[r1]) (Env.Ah r2)
    ·cases hop
   ·rename_i hu
    simp only[aAA,aA]at hop
    obtain⟨ax,hax,alo,halo,ahi,hahi,he⟩:=hop;cases he
    have h1:=λhp=>Au h hax hp
    simp only[evalOp,R.run_bind,R.run_pure,Bu]at hc ⊢
    generalize((rdA ax).run σ).2=d at *
    generalize((rdA ax).run σ).1=p at *
    obtain⟨⟨q1,q2⟩,q3⟩:=hc
    cases d<;>try exact q3.elim
    case str s =>
     obtain⟨l1,l2⟩:=hopt 0 halo q3.1
     obtain⟨m1,m2⟩:=hopt s.length hahi q3.2.1
     obtain⟨v,r1,r2⟩:=JP (P:=P) hu (h1 q1) l1 l2 m1 m2 q3 w
     exact Snd.pure' h hd (v:=v) (by unfold execOp;rw[ho];simp[r1]) (Env.Ah r2)
    case sl es=>exact absurd q2.1 (by omega)
    case nils=>exact absurd q2 (by simp[fits])
    case osl g v i n =>
     simp only[fits,R.run]at q2
     split at q2
     ·exact absurd q2.1 (by omega)
     ·exact q2.elim
   ·cases hop
 | fieldAddr s x f =>
  simp only[ho,cOp]at hop
  split at hop
  ·rename_i fs hu
   simp only[aAA,aA]at hop
   obtain⟨fd,hfd,hop⟩:=hop
   split at hop
   ·rename_i hs
    simp only[aA]at hop
    obtain⟨ax,hax,he⟩:=hop;cases he
    obtain⟨fi,hfi⟩:=Option.ne_none_iff_exists'.1 (Fk hs)
    have hsz:fi.size≠0:=by
     have:P.cellsOf fd.type=fi.size:=by simp[aAR,hfi]
     omega
    have h1:=λhp=>Au h hax hp
    have hrun:∀ b o',a.eval x= .pointer (some ⟨b,o',none⟩)->(execOp a.eval o).run P w= .ok (.value (.pointer (some ⟨b,o'+fd.offset,none⟩))) w:=by
     intro b o' e1
     unfold execOp;rw[ho]
     simp[Instr.fieldAt,run_underlying hu,hfd,e1,aAt,fieldPlace,sizeOf,typeInfo,hfi,hsz,Bx]
    simp only[evalOp,R.run_bind]at hc ⊢
    generalize((rdA ax).run σ).2=d at *
    generalize((rdA ax).run σ).1=p at *
    cases d<;>try exact hc.elim
    case optr g v i off =>
     obtain⟨L,b,k1,k2,k3⟩:=h1 hc
     exact Snd.pure' h hd (hrun _ _ k3) ⟨L,b,k1,k2,by rw[aBF]⟩
    case fptr e off =>
     have hx:=h1 hc
     generalize hxx:a.eval x=xx at hx hrun
     cases hx with
     | fptr e b o' off vf hF h1' hh =>
      refine Snd.pure' h hd (hrun _ _ rfl) (Env.Af ?_)
      rw[aBF]
      exact .fptr e b o' (off+fd.offset) vf hF h1' hh
    case mref g v =>
     simp only[R.run_bind,R.run_pure]at hc ⊢
     obtain⟨c1,c2,c3⟩:=hc
     obtain⟨b,hbo⟩:=LB h (h1 c1) c3
     have:=hrun _ _ hbo
     rw[c2,aAq,<- hbo]at this
     exact Snd.pure' h hd (v:=a.eval x) this (Env.Ah (h1 c1))
   ·cases hop
  ·cases hop
 | field s x f =>
  simp only[ho,cOp]at hop
  split at hop
  ·rename_i fs hu
   simp only[aAA,aA]at hop
   obtain⟨fd,hfd,hop⟩:=hop
   have key:∀ (n:Nat) (agg:Bool) (y:Arg),Ak x=some y->dop= .fld fd.offset n agg y->Cq P fd.type=agg->(P.underlying fd.type).isSome=true->(agg=true->P.info? fd.type≠none/\n=P.cellsOf fd.type)->(agg=false->n=1)->Snd P N w0 F0 M B0 σ β a w o nv ((evalOp Γ nv o.dst dop).run σ):=by
    rintro n agg y hy rfl g1 g2 g3 g4
    have hv:=λhp=>Au h hy hp
    simp only[evalOp,R.run_bind]at hc ⊢
    generalize((rdA y).run σ).2=d at *
    generalize((rdA y).run σ).1=p at *
    cases d<;>try exact hc.elim
    case agg cs =>
     obtain⟨q1,q2⟩:=hc
     obtain⟨vs,e1,hl,hone,hcel⟩:=hv q1
     obtain⟨v,r1,r2⟩:=Jt (P:=P) hl hone hcel fd.type fd.offset n agg g1 g2 g3 g4 q2 w
     exact Snd.pure' h hd (v:=v) (by unfold execOp;rw[ho];simp[Instr.field,run_underlying hu,hfd,e1,asAgg,r1]) (Env.Ah r2)
   split at hop
   ·rename_i hagg
    simp only[aA]at hop
    obtain⟨y,hy,he⟩:=hop;cases he
    have hu':=Ec hagg
    obtain⟨td,htd⟩:=aAO.1 hu'
    exact key _ _ y hy rfl hagg hu' (λ_=>⟨DE htd,rfl⟩) (λe=>by cases e)
   ·rename_i hagg
    split at hop
    ·rename_i hu'
     simp only[aA]at hop
     obtain⟨y,hy,he⟩:=hop;cases he
     exact key _ _ y hy rfl (by simpa using hagg) hu' (λe=>by cases e) (λ_=>rfl)
    ·cases hop
  ·cases hop
 | indexAddr t x i =>
  simp only[ho,cOp]at hop
  split at hop
  ·rename_i g
   unfold KT at hop
   split at hop
   ·rename_i n e ds hu hds
    split at hop
    ·rename_i hne
     simp only[aAA,aA]at hop
     obtain⟨ai,hai,he⟩:=hop;cases he
     have h2:=λhp=>Au h hai hp
     simp only[evalOp,R.run_bind]at hc ⊢
     generalize((rdA ai).run σ).2=di at *
     generalize((rdA ai).run σ).1=pi at *
     split at hc
     ·rename_i k j
      simp only[R.run_pure]at hc ⊢
      obtain⟨q1,q2,q3,k0,sp0,q4⟩:=hc
      have hG:=(hΓ k0 sp0 q4).2.2.2.2.mono h.step.sub
      obtain⟨ie,hie⟩:∃ ie,P.info? e=some ie:=by
       cases hx:P.info? e with
       | none=>rw[hx]at hne;cases hne.2
       | some ie=>exact⟨ie,rfl⟩
      have hsz:P.cellsOf e=ie.size:=by simp[aAR,hie]
      have e2:=AK (h2 q1)
      have hj:0<=j/\j<(n:Int):=⟨q2,q3⟩
      refine Snd.pure' h hd (v:=.pointer (some ⟨g,0+j.toNat*P.cellsOf e,none⟩)) ?_ (Env.Af (LS hG hds (j.toNat*P.cellsOf e)))
      unfold execOp;rw[ho]
      have e1:a.eval (Operand.global g)= .pointer (some ⟨g,0,none⟩):=rfl
      simp[Instr.indexAt,asIntOf,run_underlying hu,e1,e2,aAt,sizeOf,typeInfo,hie,hj,Bx,hsz]
     ·exact hc.elim
    ·cases hop;exact hc.elim
   ·cases hop;exact hc.elim
  unfold KQ at hop
  split at hop
  ·rename_i e hu
   split at hop
   ·rename_i hie
    have hie':P.info? e≠none:=by intro e';rw[e']at hie;cases hie
    simp only[aAA,aA]at hop
    obtain⟨ax,hax,ai,hai,he⟩:=hop;cases he
    have h1:=λhp=>Au h hax hp
    have h2:=λhp=>Au h hai hp
    simp only[evalOp,R.run_bind]at hc ⊢
    generalize((rdA ax).run σ).2=d at *
    generalize((rdA ax).run σ).1=p at *
    generalize((rdA ai).run σ).2=di at *
    generalize((rdA ai).run σ).1=pi at *
    split at hc
    ·rename_i g v i0 n k j
     simp only[R.run]at hc ⊢
     cases hg:σ.go g with
     | none=>rw[hg]at hc;exact hc.elim
     | some pp =>
      obtain⟨v',ow⟩:=pp
      rw[hg]at hc
      simp only[R.run]at hc ⊢
      obtain⟨q1,q2,q3,q4,q5,q6,q7⟩:=hc
      have e2:=AK (h2 q2)
      obtain⟨y,r1,r2⟩:=(LX (P:=P) h hu hie' (h1 q1) k j).1 g v i0 n v' ow rfl hg ⟨q3,q5⟩ q6 q7
      exact Snd.pure' h hd (v:=y) (by unfold execOp;rw[ho];simp[e2,r1]) (Env.Ah r2)
    ·rename_i es k j
     simp only[R.run_pure]at hc ⊢
     obtain⟨q1,q2,q3,q4,q5⟩:=hc
     have e2:=AK (h2 q2)
     obtain⟨y,r1,r2⟩:=(LX (P:=P) h hu hie' (h1 q1) k j).2 es rfl q3 q4 q5
     exact Snd.pure' h hd (v:=y) (by unfold execOp;rw[ho];simp[e2,r1]) (Env.Ah r2)
    ·rename_i g v n k j
     simp only[R.run_pure]at hc ⊢
     obtain⟨q1,q2,q3,q4,q5⟩:=hc
     have e2:=AK (h2 q2)
     obtain⟨y,r1,r2⟩:=OU (P:=P) (w:=w) hu hie' q5 (h1 q1) k j q3 q4
     exact Snd.pure' h hd (v:=y) (by unfold execOp;rw[ho];simp[e2,r1]) (Env.Ah r2)
    ·exact hc.elim
   ·cases hop
  ·rename_i n e hu
   split at hop
   ·rename_i hie
    obtain⟨ie,hie⟩:=aAO.1 hie
    simp only[aAA,aA]at hop
    obtain⟨ax,hax,ai,hai,he⟩:=hop;cases he
    have h1:=λhp=>Au h hax hp
    have h2:=λhp=>Au h hai hp
    have hsz:P.cellsOf e=ie.size:=by simp[aAR,hie]
    have hrun:∀ b o' k j,a.eval x= .pointer (some ⟨b,o',none⟩)->a.eval i= .int k j->0<=j->j<(n:Int)->(execOp a.eval o).run P w= .ok (.value (.pointer (some ⟨b,o'+j.toNat*P.cellsOf e,none⟩))) w:=by
     intro b o' k j e1 e2 e3 e4
     have hj:0<=j/\j<(n:Int):=⟨e3,e4⟩
     unfold execOp;rw[ho]
     simp[Instr.indexAt,asIntOf,run_underlying hu,e1,e2,aAt,sizeOf,typeInfo,hie,hj,Bx,hsz]
    simp only[evalOp,R.run_bind]at hc ⊢
    generalize((rdA ax).run σ).2=d at *
    generalize((rdA ax).run σ).1=p at *
    generalize((rdA ai).run σ).2=di at *
    generalize((rdA ai).run σ).1=pi at *
    split at hc
    ·rename_i g v i0 off k j
     simp only[R.run_pure]at hc ⊢
     obtain⟨q1,q2,q3,q4⟩:=hc
     obtain⟨L,b,k1,k2,k3⟩:=h1 q1
     exact Snd.pure' h hd (hrun _ _ k j k3 (AK (h2 q2)) q3 q4) ⟨L,b,k1,k2,by rw[aBF]⟩
    ·rename_i e' off k j
     simp only[R.run_pure]at hc ⊢
     obtain⟨q1,q2,q3,q4⟩:=hc
     have hx:=h1 q1
     generalize hxx:a.eval x=xx at hx hrun
     cases hx with
     | fptr e' b o' off vf hF h1' hh =>
      refine Snd.pure' h hd (hrun _ _ k j rfl (AK (h2 q2)) q3 q4) (Env.Af ?_)
      rw[aBF]
      exact .fptr e' b o' _ vf hF h1' hh
    ·exact hc.elim
   ·cases hop
  ·cases hop
 | index t x i =>
  simp only[ho,cOp]at hop
  split at hop
  ·rename_i hu
   simp only[aAA,aA]at hop
   obtain⟨ax,hax,ai,hai,he⟩:=hop;cases he
   have h1:=λhp=>Au h hax hp
   have h2:=λhp=>Au h hai hp
   simp only[evalOp,R.run_bind]at hc ⊢
   generalize((rdA ax).run σ).2=d at *
   generalize((rdA ax).run σ).1=p at *
   generalize((rdA ai).run σ).2=di at *
   generalize((rdA ai).run σ).1=pi at *
   split at hc
   ·rename_i s k j
    simp only[R.run_pure]at hc ⊢
    obtain⟨q1,q2,q3,q4⟩:=hc
    have e1:=Cj (h1 q1)
    have e2:=AK (h2 q2)
    have hlt:j.toNat<s.length:=by omega
    refine Snd.pure' h hd (v:=.int .u8 (s.getD j.toNat 0).toNat) ?_ (Env.Af (.int _ _))
    unfold execOp;rw[ho]
    have e3:(⟨s.toArray⟩:ByteArray)[j.toNat]? =some (s.getD j.toNat 0):=by
     have hb:j.toNat<(⟨s.toArray⟩:ByteArray).size:=by simpa[ByteArray.size]using hlt
     rw[getElem?_pos (⟨s.toArray⟩:ByteArray) j.toNat hb]
     have:(⟨s.toArray⟩:ByteArray)[j.toNat]'hb=s[j.toNat]:=rfl
     rw[this]
     simp[hlt]
    simp[Instr.index,asIntOf,run_underlying hu,e1,e2,q3,e3]
   ·exact hc.elim
  ·rename_i n e hu
   split at hop
   ·rename_i hie
    obtain⟨hie,hue⟩:=hie
    obtain⟨ie,hie⟩:=aAO.1 hie
    have hsz:P.cellsOf e=ie.size:=by simp[aAR,hie]
    have key:∀ (s:Nat) (agg:Bool) (y yi:Arg),Ak x=some y->Ak i=some yi->dop= .ix s n agg y yi->Cq P e=agg->s=P.cellsOf e->(agg=false->s=1)->Snd P N w0 F0 M B0 σ β a w o nv ((evalOp Γ nv o.dst dop).run σ):=by
     rintro s agg y yi hy hyi rfl g1 g2 g4
     have h1:=λhp=>Au h hy hp
     have h2:=λhp=>Au h hyi hp
     simp only[evalOp,R.run_bind]at hc ⊢
     generalize((rdA y).run σ).2=d at *
     generalize((rdA y).run σ).1=p at *
     generalize((rdA yi).run σ).2=di at *
     generalize((rdA yi).run σ).1=pi at *
     split at hc
     ·rename_i cs k j
      simp only[R.run_pure]at hc ⊢
      obtain⟨q1,q2,q3,q4,q5⟩:=hc
      obtain⟨vs,e1,hl,hone,hcel⟩:=h1 q1
      have e2:=AK (h2 q2)
      have hle:j.toNat*s+s<=cs.length:=by
       have:(j.toNat+1)*s<=n*s:=aAe _ (by omega)
       rw[Nat.add_mul]at this
       omega
      obtain⟨v,r1,r2⟩:=Jt (P:=P) hl hone hcel e (j.toNat*s) s agg g1 hue (λ_=>⟨by rw[hie];simp,g2⟩) g4 hle w
      have hj:0<=j/\j<(n:Int):=⟨q3,q4⟩
      refine Snd.pure' h hd (v:=v) ?_ (Env.Ah r2)
      unfold execOp;rw[ho]
      rw[g2,hsz]at r1
      simp[Instr.index,asIntOf,run_underlying hu,e1,e2,hj,sizeOf,typeInfo,hie,r1]
     ·exact hc.elim
    split at hop
    ·rename_i hagg
     simp only[aAA,aA]at hop
     obtain⟨y,hy,yi,hyi,he⟩:=hop;cases he
     exact key _ _ y yi hy hyi rfl hagg rfl (λe=>by cases e)
    ·rename_i hagg
     split at hop
     ·rename_i h1
      simp only[aAA,aA]at hop
      obtain⟨y,hy,yi,hyi,he⟩:=hop;cases he
      exact key _ _ y yi hy hyi rfl (by simpa using hagg) h1.symm (λ_=>rfl)
     ·cases hop
   ·cases hop
  ·cases hop
 | extract x i =>
  simp only[ho,cOp,aAA,aA]at hop
  obtain⟨y,hy,he⟩:=hop;cases he
  have h1:=λhp=>Au h hy hp
  simp only[evalOp,R.run_bind]at hc ⊢
  generalize((rdA y).run σ).2=d at *
  generalize((rdA y).run σ).1=p at *
  cases d<;>try exact hc.elim
  case tup ds =>
   obtain⟨q1,q2⟩:=hc
   obtain⟨vs,e1,hl,hcel⟩:=h1 q1
   have hlt:i<vs.length:=by omega
   refine Snd.pure' h hd (v:=vs[i]) (by unfold execOp;rw[ho];simp[Instr.extract,e1,hlt]) (Env.Ah (Val.Ap ?_))
   refine hcel i _ _ ?_ (aAQ hlt)
   simp[q2]
 | makeFunc fn first caps =>
  simp only[ho,cOp]at hop
  split at hop
  ·rename_i f
   split at hop
   ·rename_i hf4
    have hblt:Nat.blt f 4096=true:=by simpa[aBM]using hf4
    split at hop
    ·rename_i hfirst
     simp only[aAA,aA]at hop
     obtain⟨ys,hy,he⟩:=hop;cases he
     obtain⟨l,r⟩:=DU h hy
     simp only[evalOp,R.run_bind,R.run_pure]at hc ⊢
     have hf:first= #[]:=aAi hfirst
     refine Snd.pure' h hd (v:=fnV f (caps.toList.map a.eval)) ?_ ?_
     ·rw[Hv hblt]
      unfold execOp;rw[ho]
      have:(caps.toList.map a.eval).toArray=caps.map a.eval:=by apply aAT;simp
      simp[Instr.makeFunc,hf]
      exact this.symm
     ·refine⟨caps.toList.map a.eval,rfl,by simp[l],λj c v hc' hv=>?_⟩
      have:=r j c v hc' hv
      have hk:=hc c (aAB hc')
      cases c<;>first|exact this|cases hk
    ·split at hop
     ·rename_i hcaps
      simp only[aAA,aA]at hop
      obtain⟨ys,hy,he⟩:=hop;cases he
      obtain⟨l,r⟩:=DU h hy
      simp only[evalOp,R.run_bind,R.run_pure]at hc ⊢
      have hf:caps= #[]:=aAi hcaps
      refine Snd.pure' h hd (v:=fnV (4096+f) (first.toList.map a.eval)) ?_ ?_
      ·rw[Kc]
       unfold execOp;rw[ho]
       have:(first.toList.map a.eval).toArray=first.map a.eval:=by apply aAT;simp
       simp[Instr.makeFunc,hf]
       exact this.symm
      ·refine⟨first.toList.map a.eval,rfl,by simp[l],λj c v hc' hv=>?_⟩
       have:=r j c v hc' hv
       have hk:=hc c (aAB hc')
       cases c<;>first|exact this|cases hk
     ·cases hop
   ·cases hop
  ·cases hop
 | call c =>
  simp only[ho,cOp]at hop
  obtain⟨cal,as,ts⟩:=c
  unfold Ho at hop
  simp only at hop
  split at hop
  ·rename_i f _ _
   simp only[aAA,aA]at hop
   obtain⟨fa,hf,ys,hy,he⟩:=hop;cases he
   exact MX hΓ h hnv hd hdr ho hf hy hc
  ·rename_i x t has hts
   have e1:as= #[x]:=by apply aAT;simpa using has
   have e2:ts= #[t]:=by apply aAT;simpa using hts
   subst e1;subst e2
   have fin:∀ (str:Bool) (y:Arg),Ak x=some y->dop= .len str y->(str=false->∃ e,P.underlying t=some (.slice e))->(str=true->P.underlying t=some .string)->Snd P N w0 F0 M B0 σ β a w o nv ((evalOp Γ nv o.dst dop).run σ):=by
    rintro str y hy rfl g1 g2
    have hv:=λhp=>Au h hy hp
    simp only[evalOp,R.run_bind]at hc ⊢
    generalize((rdA y).run σ).2=d at *
    generalize((rdA y).run σ).1=p at *
    have hrun:∀ A n c,str=false->a.eval x= .slice A n c->(execOp a.eval o).run P w= .ok (.value (.int .i64 n)) w:=by
     intro A n c hs hx
     obtain⟨e,hu⟩:=g1 hs
     unfold execOp;rw[ho]
     simp[resolve,invoke,builtin,Builtin.len_,run_underlying hu,hx,goInt]
    cases d<;>try exact hc.elim
    case sl es =>
     obtain⟨q1,q2⟩:=hc
     have hx:=hv q1
     have:∃ A c,a.eval x= .slice A es.length c:=by
      generalize a.eval x=xx at hx
      cases hx with
      | sl0 A c=>exact⟨A,c,rfl⟩
      | sl es b o c s vf hc hs hF h1 hh=>exact⟨_,c,rfl⟩
     obtain⟨A,c,hA⟩:=this
     exact Snd.pure' h hd (hrun A _ c q2 hA) (Env.Af (.int _ _))
    case osl g v i n =>
     obtain⟨q1,q2⟩:=hc
     obtain⟨L,A,_,hA,_⟩:=hv q1
     exact Snd.pure' h hd (hrun A _ _ q2 hA) (Env.Af (.int _ _))
    case vsl g v n =>
     obtain⟨q1,q2⟩:=hc
     obtain⟨L,b,_,_,hA⟩:=hv q1
     exact Snd.pure' h hd (hrun _ _ _ q2 hA) (Env.Af (.int _ _))
    case nils =>
     obtain⟨q1,q2⟩:=hc
     exact Snd.pure' h hd (hrun none 0 0 q2 (Fe (hv q1))) (Env.Af (.int _ _))
    case str s =>
     obtain⟨q1,q2⟩:=hc
     have e1:=Cj (hv q1)
     refine Snd.pure' h hd (v:=.int .i64 s.length) ?_ (Env.Af (.int _ _))
     unfold execOp;rw[ho]
     have e3:(⟨s.toArray⟩:ByteArray).size=s.length:=by simp[ByteArray.size]
     simp[resolve,invoke,builtin,Builtin.len_,run_underlying (g2 q2),e1,goInt,e3]
   split at hop
   ·rename_i e hu
    simp only[aAA,aA]at hop
    obtain⟨y,hy,he⟩:=hop;cases he
    exact fin false y hy rfl (λ_=>⟨e,hu⟩) (λe=>by cases e)
   ·rename_i hu
    simp only[aAA,aA]at hop
    obtain⟨y,hy,he⟩:=hop;cases he
    exact fin true y hy rfl (λe=>by cases e) (λ_=>hu)
   ·cases hop
  ·rename_i x y t u has hts
   have e1:as= #[x,y]:=by apply aAT;simpa using has
   have e2:ts= #[t,u]:=by apply aAT;simpa using hts
   subst e1;subst e2
   split at hop
   ·rename_i e e' hu hu'
    simp only[aAA,aA]at hop
    obtain⟨i,hi,_,_,z,hz,he⟩:=hop
    split at he
    ·rename_i hcond
     obtain⟨rfl,hs,_,hby,_⟩:=hcond
     simp only[aA]at he
     obtain⟨ax,hax,ay,hay,he⟩:=he;cases he
     obtain⟨t',ht,htN⟩:=Cs hdst (by simp) (by simp)
     exact Om h hnv ht htN (hdr _ ht) ho hu hi hz hs hby hax hay hc
    ·cases he
   ·cases hop
  ·rename_i x y t u has hts
   have e1:as= #[x,y]:=by apply aAT;simpa using has
   have e2:ts= #[t,u]:=by apply aAT;simpa using hts
   subst e1;subst e2
   split at hop
   ·rename_i e hu
    split at hop
    ·rename_i hi
     simp only[aAA,aA]at hop
     obtain⟨ax,hax,ay,hay,he⟩:=hop;cases he
     exact Oo h hd ho hu hi hax hay hc
    ·cases hop
   ·cases hop
  ·exfalso
   split at hop
   ·simp only[aAA,aA]at hop
    obtain⟨_,_,_,_,he⟩:=hop;cases he;cases hm
   ·cases hop
  ·rename_i as' hcal has
   simp only[aAA,aA]at hop
   obtain⟨ys,hy,he⟩:=hop;cases he
   simp only[evalOp,R.run_bind]at hc ⊢
   generalize hds:(AL ys).run σ=ds at *
   split at hc
   ·rename_i x y
    simp only[R.run_pure,Bu]at hc ⊢
    obtain⟨⟨q1,q2⟩,q3⟩:=hc
    obtain⟨p,q,has',e1,e2⟩:=JH h hy hds
    obtain⟨k,m,n,r1,r2,r3⟩:=Kh (e1.strip q1) (e2.strip q2) q3
    have hasA:as= #[p,q]:=by apply aAT;simpa using has'
    subst hasA
    rw[r3]
    refine Snd.pure' h hd (v:=.int k (TR m n)) ?_ (Env.Af (.int _ _))
    unfold execOp;rw[ho]
    simp[resolve,invoke,builtin,Builtin.max_,Builtin.max2,r1,r2,TR]
   ·exact hc.elim
  ·rename_i as' hcal has
   simp only[aAA,aA]at hop
   obtain⟨ys,hy,he⟩:=hop;cases he
   simp only[evalOp,R.run_bind]at hc ⊢
   generalize hds:(AL ys).run σ=ds at *
   split at hc
   ·rename_i x y
    simp only[R.run_pure,Bu]at hc ⊢
    obtain⟨⟨q1,q2⟩,q3⟩:=hc
    obtain⟨p,q,has',e1,e2⟩:=JH h hy hds
    obtain⟨k,m,n,r1,r2,r3⟩:=Kh (e1.strip q1) (e2.strip q2) q3
    have hasA:as= #[p,q]:=by apply aAT;simpa using has'
    subst hasA
    rw[r3]
    refine Snd.pure' h hd (v:=.int k (WW m n)) ?_ (Env.Af (.int _ _))
    unfold execOp;rw[ho]
    simp[resolve,invoke,builtin,Builtin.min_,Builtin.min2,r1,r2,WW]
   ·exact hc.elim
  ·cases hop;exact hc.elim
 | makeMap t r =>
  exfalso
  cases r<;>simp only[ho,cOp,aAA,aA]at hop
  ·obtain⟨_,_,he⟩:=hop;cases he;cases hm
  ·cases hop;exact hc
 | lookup t x i b =>
  exfalso
  cases b<;>simp only[ho,cOp,aAA,aA]at hop
  ·obtain⟨_,_,_,_,_,_,he⟩:=hop;cases he;cases hm
  ·cases hop;exact hc
 | mapUpdate t x i y =>
  exfalso
  simp only[ho,cOp,aAA,aA]at hop
  obtain⟨_,_,_,_,_,_,_,_,he⟩:=hop;cases he;cases hm
 | range t x =>
  exfalso
  simp only[ho,cOp]at hop
  split at hop
  ·simp only[aAA,aA]at hop
   obtain⟨_,_,he⟩:=hop;cases he;cases hm
  ·cases hop;exact hc
 | next x b =>
  exfalso
  cases b<;>simp only[ho,cOp,aAA,aA]at hop
  ·cases hop;exact hc
  ·obtain⟨_,_,he⟩:=hop;cases he;cases hm
 | makeInterface t x =>
  have key:∀ u ax,P.underlying t=some u->(∀ ms,u≠ .interface ms)->Ak x=some ax-> .mkI t ax=dop->Snd P N w0 F0 M B0 σ β a w o nv ((evalOp Γ nv o.dst dop).run σ):=by
   intro u ax hu hne hax he;subst he
   have h1:=λhp=>Au h hax hp
   simp only[evalOp,R.run_bind,R.run_pure]at hc ⊢
   obtain⟨q1,q2⟩:=hc
   refine Snd.pure' h hd (v:=.iface t (a.eval x)) ?_ (Env.Af (.ifc _ _ _ (Hw q2 (h1 q1) F)))
   unfold execOp;rw[ho]
   cases u<;>first|exact absurd rfl (hne _)|simp[Instr.makeInterface,run_underlying hu]
  simp only[ho,cOp]at hop
  split at hop
  ·rename_i hu
   simp only[aAA,aA]at hop
   obtain⟨ax,hax,he⟩:=hop
   exact key _ ax hu (λ_ e=>by cases e) hax (Option.some.inj he)
  ·rename_i hu
   simp only[aAA,aA]at hop
   obtain⟨ax,hax,he⟩:=hop
   exact key _ ax hu (λ_ e=>by cases e) hax (Option.some.inj he)
  ·rename_i hu
   simp only[aAA,aA]at hop
   obtain⟨ax,hax,he⟩:=hop
   exact key _ ax hu (λ_ e=>by cases e) hax (Option.some.inj he)
  ·cases hop;exact hc.elim
 | typeAssert x xt t ok =>
  cases ok with
  | false =>
   simp only[ho,cOp,Option.some.injEq]at hop
   subst hop
   exact hc.elim
  | true =>
   simp only[ho,cOp]at hop
   split at hop
   ·cases hop;exact hc.elim
   ·rename_i u z hne hu hz
    split at hop
    ·rename_i hzg
     simp only[aAA,aA]at hop
     obtain⟨ax,hax,he⟩:=hop;cases he
     obtain⟨i,zv,hi,hzv,hone,hsz,rfl⟩:=Cz hz
     have h1:=λhp=>Au h hax hp
     simp only[evalOp,R.run_bind]at hc ⊢
     generalize((rdA ax).run σ).2=d at *
     generalize((rdA ax).run σ).1=p at *
     cases d<;>try exact hc.elim
     case ifc t' d' =>
      have hv:Fro F (.ifc t' d') (a.eval x):=h1 hc
      generalize hxv:a.eval x=xv at hv
      cases hv with
      | ifc _ _ v hv =>
       have fro2:∀ (c:D) (y:Value) (b:Bool),Fro F c y->Env F β (.tup [c,.bool b]) (.tuple #[y,.bool b]):=λc y b hcy =>
        Env.Af (.tup [c,.bool b] [y,.bool b] rfl λj c' v' e1 e2=>by
         match j with
         | 0=>cases e1;cases e2;exact hcy
         | 1=>cases e1;cases e2;exact .bool _
         | j+2=>simp at e1)
       by_cases ht:t'=t
       ·subst ht
        simp only[show Nat.beq t' t'=true from Nat.beq_refl t',cond_true]
        refine Snd.pure' h hd (v:=.tuple #[v,.bool true]) ?_ (fro2 _ _ _ hv)
        unfold execOp;rw[ho]
        cases u<;>first|exact(hne _ rfl).elim|exact(hne _ hu).elim|simp[Instr.typeAssert,run_underlying hu,hxv]
       ·simp only[show Nat.beq t' t=false from Bool.eq_false_iff.2 λe=>ht (aB e),cond_false]
        refine Snd.pure' h hd (v:=.tuple #[zv,.bool false]) ?_ (fro2 _ _ _ (GN zv hone))
        unfold execOp;rw[ho]
        cases u<;>first|exact(hne _ rfl).elim|exact(hne _ hu).elim|simp[Instr.typeAssert,run_underlying hu,hxv,ht,zeroValue,typeInfo,hi,hzv]
    ·cases hop;exact hc.elim
   ·cases hop;exact hc.elim
 | _ =>
  simp only[ho,cOp,Option.some.injEq]at hop
  subst hop
  exact hc.elim
end
section
variable {N:Nat} {w0:World} {F0:Fz} {M:Nat->Prop} {B0:Bt} {σ:S} {F:Fz} {β:Bt} {a:Act} {w:World} {P:Program}
theorem Sim.skip (h:Sim N w0 F0 M B0 σ F β a w) {dst:Option Nat} (hd:∀ t,dst=some t->t<N) (c:Prop) :
  Sim N w0 F0 M B0 (σ.app ⟨c,Ad dst (.when false (.bool false)),[]⟩) F β (a.put dst undef) w:=by
 have henv:∀ t,Env F β ((σ.app ⟨c,Ad dst (.when false (.bool false)),[]⟩).ge t) ((a.put dst undef).tmps.getD t undef):=by
  intro t
  rw[GY]
  by_cases hdt:dst=some t
  ·rw[if_pos ⟨hdt,by rw[h.size];exact hd t hdt⟩]
   subst hdt
   simp only[S.ge,S.app,Ad,List.cons_append,aBJ,look,if_true,aAC]
   exact⟨λe=>(by cases e),λ_=>rfl⟩
  ·rw[if_neg (λe=>hdt e.1)]
   have:(σ.app ⟨c,Ad dst (.when false (.bool false)),[]⟩).ge t=σ.ge t:=by
    cases dst with
    | none=>rfl
    | some t' =>
     simp only[S.ge,S.app,Ad,List.cons_append,aBJ,look]
     rw[if_neg (λe=>hdt (by rw[e]))]
   rw[this]
   exact h.env t
 exact{ nam:=h.nam,size:=by rw[BW];exact h.size,defers:=by rw[Bs];exact h.defers,env:=henv,own:=h.own,dist:=h.dist,sep:=h.sep,Ab:=(by obtain⟨φ,hφ⟩:=h.Ab;exact⟨φ,hφ.congr λ_=>rfl⟩),frz:=h.frz,fin:=h.fin,step:=h.step }
theorem Jr {Γ:Ar} (h:Sim N w0 F0 M B0 σ F β a w) {ops:Array Oper} {draw:Bool} {i:Nat} {o:Oper} {o':As} (hop:Cm P N ops draw i o=some o') {nv:Nat}
  (hc:((At Γ nv o').run σ).c) (K:Act->World->Prop) (Q:Exit->Act->World->Prop)
  (hon:∀ dop,cOp P o.type o.op=some dop->CO N o.dst dop=true->o'.op=dop->((evalOp Γ nv o.dst dop).run σ).c->σ.app ((At Γ nv o').run σ)=σ.app ((evalOp Γ nv o.dst dop).run σ)->o.wp P a w K Q)
  (hoff:(∀ t,o.dst=some t->t<N)->σ.app ((At Γ nv o').run σ)=σ.app ⟨True,Ad o.dst (.when false (.bool false)),[]⟩->K (a.put o.dst undef) w) :
  if Region.wanted o (yielded ops a.tmps)then o.wp P a w K Q else K (a.put o.dst undef) w:=by
 unfold Cm at hop
 simp only[aA]at hop
 obtain⟨dop,hdop,g,hg,he⟩:=hop
 split at he
 ·rename_i hcond
  simp only[aAY]at hcond
  obtain⟨hdst,_⟩:=hcond
  cases he
  cases hgd:o.guard with
  | none =>
   rw[hgd]at hg
   simp only[Fw,Option.some.injEq]at hg
   subst hg
   rw[if_pos (by simp[Region.wanted,hgd])]
   exact hon dop hdop hdst rfl hc rfl
  | some p =>
   obtain⟨j,want⟩:=p
   rw[hgd]at hg
   simp only[Fw,aA]at hg
   obtain⟨oj,hoj,t,ht,hg⟩:=hg
   cases hg
   simp only[At,R.JB]at hc hon hoff
   have hwant:Region.wanted o (yielded ops a.tmps)=(guardOf (σ.ge t) want).2:=by
    have hy:yielded ops a.tmps j=match a.tmps[t]? with|some (.bool b)=>some b|_=>none:=by
     simp only[yielded,hoj,Option.bind_some,ht]
     rcases a.tmps[t]? with _|v
     ·rfl
     ·cases v<;>rfl
    have henv:=h.env t
    have hget:∀ b:Bool,a.tmps.getD t undef= .bool b->a.tmps[t]? =some (.bool b):=by
     intro b hb
     rw[aAE]at hb
     cases hh:a.tmps[t]? with
     | none=>rw[hh]at hb;cases hb
     | some v=>rw[hh]at hb;simp only[aAC]at hb;rw[hb]
    have hgc:(guardOf (σ.ge t) want).1:=by
     split at hc
     ·simp only[R.run_bind,R.run_pure]at hc;exact hc.1
     ·exact hc
    simp only[Region.wanted,hgd]
    rw[hy]
    generalize σ.ge t=d at henv hgc ⊢
    cases d<;>try exact hgc.elim
    case bool b =>
     rw[hget b (BQ (β:=β) (F:=F) henv)]
     simp only[guardOf]
     cases b<;>cases want<;>rfl
    case when p d =>
     cases d<;>try exact hgc.elim
     case bool b =>
      cases p with
      | true =>
       rw[hget b (BQ (β:=β) (F:=F) (henv.1 rfl))]
       simp only[guardOf,Bool.true_and]
       cases b<;>cases want<;>rfl
      | false =>
       have hz:=henv.2 rfl
       simp only[guardOf,Bool.false_and]
       have:∀ b:Bool,a.tmps[t]? ≠some (.bool b):=by
        intro b e
        rw[aAE,e]at hz
        cases hz
       split
       ·rename_i b e;exact absurd e (this b)
       ·rfl
   rw[hwant]
   cases hq:(guardOf (σ.ge t) want).2 with
   | true =>
    simp only[hq,if_true,R.run_bind,R.run_pure]at hc hon hoff ⊢
    exact hon dop hdop hdst rfl hc.2 rfl
   | false =>
    simp only[hq,aAj,if_false,R.AB]at hc hon hoff ⊢
    exact hoff (DX hdst) rfl
 ·cases he
theorem Lk {Γ:Ar} (hΓ:∀ k sp,Γ k=some sp->Bv P F0 (k % 4096) sp) (h:Sim N w0 F0 M B0 σ F β a w) {ops:Array Oper} {draw:Bool} {i:Nat} {o:Oper} {o':As} (hop:Cm P N ops draw i o=some o') (hm:Dt o'.op=false) {nv:Nat} (hnv:β nv=none)
  (hc:((At Γ nv o').run σ).c) (K:Act->World->Prop) (Q:Exit->Act->World->Prop)
  (hK:∀ a' w' F' β',Sim N w0 F0 M B0 (σ.app ((At Γ nv o').run σ)) F' β' a' w'->Aw β β'->(∀ v,v≠nv->β' v=β v)->K a' w') :
  if Region.wanted o (yielded ops a.tmps)then o.wp P a w K Q else K (a.put o.dst undef) w :=
 Jr h hop hc K Q (λ_ hdop hdst e hc' e'=>MK hΓ h hdop hdst (by rw[<- e];exact hm) hnv hc' K Q λa' w' F' β' hS=>hK a' w' F' β' (by rw[e'];exact hS))
  λhd e=>hK _ w F β (by rw[e];exact h.skip hd _) (Aw.refl _) λ_ _=>rfl
end
open Go.MapKept
theorem Li:∀ {es:List D} {l:List MapEntry},CN es l->∀ x∈l,IsKey (.int .i64) x.key
 | [],[],_,x,hx=>by cases hx
 | e::es,m::l,h,x,hx=>by
  obtain⟨⟨n,u,_,h2,_⟩,h3⟩:=h
  rcases aAx.1 hx with rfl|hx
  ·rw[h2];rfl
  ·exact Li h3 x hx
theorem Hy:∀ {es:List D} {l:List MapEntry} {e:D} {m:MapEntry},CN es l->CN [e] [m]->CN (es++[e]) (l++[m])
 | [],[],_,_,_,k=>k
 | _::_,_::_,_,_,h,k=>⟨h.1,Hy h.2 k⟩
theorem DL {n:Int}:∀ {es:List D} {l:List MapEntry} (_:CN es l) (i:Nat),
  (aAy (.int .i64) (.int .i64 n) l i=some none/\(∀ z,DN z n es=z)/\(∀ u,DO n u es=es++[.agg [.int .i64 n,u]])/\DM n es=es) \/
  ∃ j m u,aAy (.int .i64) (.int .i64 n) l i=some (some (i+j,m.val))/\l[j]? =some m/\m.key= .int .i64 n/\(∀ z,DN z n es=u)/\AV u=true/\(∀ F,Fro F u m.val) /\
   (∀ u' m',m'.key= .int .i64 n->AV u'=true->(∀ F,Fro F u' m'.val)->CN (DO n u' es) (l.set j m'))/\CN (DM n es) (l.eraseIdx j)
 | [],[],_,i=>.inl ⟨rfl,λ_=>rfl,λ_=>rfl,rfl⟩
 | e::es,m::l,h,i=>by
  obtain⟨⟨k,u,rfl,h2,h3,h4⟩,h5⟩:=h
  by_cases e:k=n
  ·subst e
   refine .inr ⟨0,m,u,?_,rfl,h2,λz=>by simp[DN],h3,h4,λu' m' k1 k2 k3=>?_,?_⟩
   ·simp[aAy,h2,aBQ]
   ·simp only[DO,if_true,List.set_cons_zero]
    exact⟨⟨k,u',rfl,k1,k2,k3⟩,h5⟩
   ·simpa[DM]using h5
  ·have hs:aBQ (.int .i64) (.int .i64 n) m.key=some false:=by
    rw[h2];simp[aBQ];exact λh=>e h.symm
   rcases DL (n:=n) h5 (i+1)with⟨g1,g2,g3,g4⟩|⟨j,m2,u2,g1,g2,g3,g4,g5,g6,g7,g8⟩
   ·refine .inl ⟨by simp[aAy,hs,g1],λz=>by simp[DN,e,g2],λu'=>by simp[DO,e,g3],by simp[DM,e,g4]⟩
   ·refine .inr ⟨j+1,m2,u2,by simp[aAy,hs,g1];omega,by simpa using g2,g3,λz=>by simp[DN,e,g4],g5,g6,λu' m' k1 k2 k3=>?_,?_⟩
    ·simp only[DO,if_neg e,List.set_cons_succ]
     exact⟨⟨k,u,rfl,h2,h3,h4⟩,g7 u' m' k1 k2 k3⟩
    ·simp only[DM,if_neg e,List.eraseIdx_cons_succ]
     exact⟨⟨k,u,rfl,h2,h3,h4⟩,g8⟩
section
variable {P:Program} {w:World} {t:TypeId} {b:Nat} {es:List D}
theorem Ia {z:D} (h:EU P t=some z):∃ k e,P.underlying t=some (.map k e)/\P.underlying k=some (.int .i64)/\Ch P e=some z/\AV z=true:=by
 unfold EU at h
 split at h
 ·rename_i k e hu
  split at h
  ·rename_i z' hk _ hz
   split at h
   ·rename_i hc
    cases h
    exact⟨k,e,hu,hk,hz,hc.2⟩
   ·cases h
  ·cases h
 ·cases h
theorem LZ {z:D} (ht:EU P t=some z) {n:Int} (hm:Ee w b es):∃ v,(aBR t (.map (some b)) (.int .i64 n) false).run P w= .ok v w/\∀ F,Fro F (DN z n es) v:=by
 obtain⟨k,e,hu,hk,hz,_⟩:=Ia ht
 obtain⟨i,zv,hi,hzv,hone,_,rfl⟩:=Cz hz
 obtain⟨ents,clock,hb,he⟩:=hm
 have hkey:IsKey (.int .i64) (.int .i64 n):=rfl
 rcases DL (n:=n) he 0 with⟨g1,g2,_⟩|⟨j,m,u,g1,_,_,g4,_,g6,_⟩
 ·refine⟨zv,?_,λF=>by rw[g2];exact GN zv hone⟩
  simp[aBR,run_underlying hu,MapKept.run_getObj_map hb,MapKept.run_checkKey hk hkey,MapKept.run_findKey hk g1,zeroValue,typeInfo,hi,hzv,Result.andThen]
 ·refine⟨m.val,?_,λF=>by rw[g4];exact g6 F⟩
  simp[aBR,run_underlying hu,MapKept.run_getObj_map hb,MapKept.run_checkKey hk hkey,MapKept.run_findKey hk g1,Result.andThen]
theorem Mz {z:D} (ht:EU P t=some z) {n:Int} (hm:Ee w b es) {u:D} {x:Value} (hu1:AV u=true) (hux:∀ F,Fro F u x) :
  ∃ ents clock,(aBK t (.map (some b)) (.int .i64 n) x).run P w= .ok () { w with heap:=w.heap.setIfInBounds b (.map ents clock) }/\CN (DO n u es) ents.toList:=by
 obtain⟨k,e,hu,hk,hz,_⟩:=Ia ht
 obtain⟨ents,clock,hb,he⟩:=hm
 have hkey:IsKey (.int .i64) (.int .i64 n):=rfl
 rcases DL (n:=n) he 0 with⟨g1,_,g3,_⟩|⟨j,m,u2,g1,g2,g3,_,_,_,g7,_⟩
 ·refine⟨ents.push { key:=.int .i64 n,val:=x,born:=clock },clock+1,?_,?_⟩
  ·simp[aBK,run_underlying hu,MapKept.run_getObj_map hb,MapKept.run_checkKey hk hkey,MapKept.run_findKey hk g1,MapKept.run_setObj_map _ hb,Result.andThen]
  ·rw[g3]
   simp only[Array.toList_push]
   exact Hy he ⟨⟨n,u,rfl,rfl,hu1,hux⟩,trivial⟩
 ·have hj:ents[j]? =some m:=by simpa using g2
  refine⟨ents.modify j (λe=>{ e with key:=.int .i64 n,val:=x }),clock,?_,?_⟩
  ·simp[aBK,run_underlying hu,MapKept.run_getObj_map hb,MapKept.run_checkKey hk hkey,MapKept.run_findKey hk g1,hj,g3,MapKept.run_keyThatStays hkey,MapKept.run_setObj_map _ hb,Result.andThen]
  ·have hl:=g7 u { m with key:=.int .i64 n,val:=x } rfl hu1 hux
   have:(ents.modify j (λe=>{ e with key:=.int .i64 n,val:=x })).toList=ents.toList.set j { m with key:=.int .i64 n,val:=x }:=by
    apply List.ext_getElem?
    intro q
    by_cases e:j=q
    ·subst e
     have hlt:j<ents.size:=(aAc.1 hj).1
     have hm':ents[j]=m:=(aAc.1 hj).2
     simp[hlt,hm']
    ·simp[aAz,e,aAd]
   rw[this]
   exact hl
theorem LD {z:D} (ht:EU P t=some z) {n:Int} (hm:Ee w b es) {ts:Array TypeId} (hts:ts[0]? =some t) (ty:TypeId) :
  ∃ ents clock,(Builtin.delete_ ts ty #[.map (some b),.int .i64 n]).run P w= .ok (.tuple #[]) { w with heap:=w.heap.setIfInBounds b (.map ents clock) }/\CN (DM n es) ents.toList:=by
 obtain⟨k,e,hu,hk,hz,_⟩:=Ia ht
 obtain⟨ents,clock,hb,he⟩:=hm
 have hkey:IsKey (.int .i64) (.int .i64 n):=rfl
 rcases DL (n:=n) he 0 with⟨g1,_,_,g4⟩|⟨j,m,u2,g1,g2,g3,_,_,_,_,g8⟩
 ·refine⟨ents,clock,?_,by rw[g4];exact he⟩
  simp[Builtin.delete_,hts,run_underlying hu,MapKept.run_getObj_map hb,MapKept.run_checkKey hk hkey,MapKept.run_findKey hk g1,MapKept.run_setObj_map _ hb,Result.andThen]
 ·refine⟨ents.eraseIdxIfInBounds j,clock,?_,?_⟩
  ·simp[Builtin.delete_,hts,run_underlying hu,MapKept.run_getObj_map hb,MapKept.run_checkKey hk hkey,MapKept.run_findKey hk g1,MapKept.run_setObj_map _ hb,Result.andThen]
  ·have hlt:j<ents.size:=by have:=(aAF.1 g2).1;simpa using this
   have:(ents.eraseIdxIfInBounds j).toList=ents.toList.eraseIdx j:=by
    unfold Array.eraseIdxIfInBounds
    rw[dif_pos hlt,Array.toList_eraseIdx]
   rw[this]
   exact g8
end
def Ao (σ:S) (wo:List (Nat×Ac)):Prop:=∀ p∈wo,∀ v o,p.2=some (v,o)->o.fz=true->∃ o0,σ.go p.1=some (v,o0)/\o={ o0 with fz:=true }
theorem Ao.nil (σ:S):Ao σ []:=λp hp=>by cases hp
theorem Ao.append {σ:S} {a b:List (Nat×Ac)} (h:Ao σ a) (k:Ao σ b):Ao σ (a++b):=λp hp=>(aAG.1 hp).elim (h p) (k p)
theorem Ao.cons {σ:S} {g:Nat} {x:Ac} {b:List (Nat×Ac)} (h:∀ v o,x=some (v,o)->o.fz=false) (k:Ao σ b):Ao σ ((g,x)::b):=λp hp v o e hf=>by
 rcases aAx.1 hp with rfl|hp
 ·have:=h v o e;rw[this]at hf;cases hf
 ·exact k p hp v o e hf
theorem Ao.AH {σ:S} {dst:Option Nat} {x:Ac} (h:∀ v o,x=some (v,o)->o.fz=false):Ao σ (Dw.AH dst x):=by
 cases dst
 ·exact Ao.nil σ
 ·exact Ao.cons h (Ao.nil σ)
theorem Ao.CH {σ:S} {r:Bool} {dst:Option Nat} {x:Ac} (h:∀ v o,x=some (v,o)->o.fz=false):Ao σ (Dw.CH r dst x):=by
 cases dst
 ·exact Ao.nil σ
 ·exact Ao.cons h (Ao.nil σ)
section
variable {σ:S}
theorem Ih (d:D) (hc:((AJ d).run σ).1):Ao σ ((AJ d).run σ).2.2:=by
 cases d<;>first|exact Ao.nil σ|skip
 case osl g v i n =>
  simp only[AJ,R.run]at hc ⊢
  cases hg:σ.go g with
  | none=>rw[hg]at hc;exact hc.elim
  | some p =>
   obtain⟨v',o⟩:=p
   rw[hg]at hc
   simp only[R.run]at hc ⊢
   obtain⟨rfl,_,_⟩:=hc
   intro p hp v1 o1 e _
   simp only[aAr]at hp
   subst hp
   cases e
   exact⟨o,hg,rfl⟩
theorem Jy:∀ (ds:List D),((AZ ds).run σ).1->Ao σ ((AZ ds).run σ).2.2
 | [],_=>Ao.nil σ
 | d::r,hc=>by
  unfold AZ at hc ⊢
  simp only[R.run_bind,R.run_pure]at hc ⊢
  exact(Ih d hc.1).append (Jy r hc.2)
theorem JA (d:D) (hc:((res d).run σ).1):Ao σ ((res d).run σ).2.2:=by
 cases d
 case agg cs =>
  obtain⟨c0,hc1,e⟩:=EI σ cs
  simp only[e]at hc ⊢
  exact Jy cs (hc1.1 hc)
 all_goals (simp only[res]at hc ⊢;exact Ih _ hc)
theorem Kl (r:Bool) (d:D) (hc:((EV r d).run σ).1):Ao σ ((EV r d).run σ).2.2:=by
 cases d
 case row=>exact Ao.nil σ
 case hole=>exact hc.elim
 all_goals (simp only[EV]at hc ⊢;exact Ih _ hc)
theorem Jv (r:Bool):∀ (ds:List D),((BR r ds).run σ).1->Ao σ ((BR r ds).run σ).2.2
 | [],_=>Ao.nil σ
 | d::l,hc=>by
  unfold BR at hc ⊢
  simp only[R.run_bind,R.run_pure]at hc ⊢
  exact(Kl r d hc.1).append (Jv r l hc.2)
theorem OY (r:Bool) (d:D) (hc:((pas r d).run σ).1):Ao σ ((pas r d).run σ).2.2:=by
 cases d
 case agg cs =>
  obtain⟨hc',he⟩:=Km hc
  rw[he]
  exact Jv r cs hc'
 all_goals (simp only[pas]at hc ⊢;exact Kl r _ hc)
theorem NO (var:Bool) (d:D):∀ p∈((Bz var d).run σ).2.2,p.2=none:=by
 intro p hp
 cases d<;>first|(cases hp;done)|skip
 case osl g v i n =>
  cases i with
  | succ i=>cases hp
  | zero =>
   simp only[Bz,R.run]at hp
   cases hg:σ.go g with
   | none=>rw[hg]at hp;cases hp
   | some q =>
    obtain⟨v',o⟩:=q
    rw[hg]at hp
    simp only at hp
    split at hp
    ·cases hp
    ·simp only[R.run,aAr]at hp;subst hp;rfl
theorem Jf (var:Bool):∀ (ds:List D),∀ p∈((AY var ds).run σ).2.2,p.2=none
 | [],p,hp=>by cases hp
 | d::l,p,hp=>by
  unfold AY at hp
  simp only[R.run_bind,R.run_pure,aAG]at hp
  exact hp.elim (NO var d p) (Jf var l p)
theorem Ao.NH {wo:List (Nat×Ac)} (h:∀ p∈wo,p.2=none):Ao σ wo:=λp hp v o e=>by rw[h p hp]at e;cases e
theorem HC:∀ (l:List (Nat×Arg)),((AX l).run σ).1->Ao σ ((AX l).run σ).2.2
 | [],_=>Ao.nil σ
 | (i,x)::r,hc=>by
  unfold AX at hc ⊢
  simp only[R.run_bind,R.run_pure]at hc ⊢
  exact(JA _ hc.1).append (HC r hc.2)
theorem Mp (s ty:Nat) (d:D):∀ p∈((target s ty d).run σ).2.2.1,p.2=none:=by
 intro p hp
 cases d<;>first|(cases hp;done)|skip
 case osl g v i n =>
  simp only[target,R.run]at hp
  cases hg:σ.go g with
  | none=>rw[hg]at hp;cases hp
  | some q =>
   obtain⟨v',o⟩:=q
   rw[hg]at hp
   simp only[R.run,aAr]at hp;subst hp;rfl
def Dl (σ:S) (w:List (Nat×Ac)) (ps:List (Nat×Nat×Own)):Prop:=Ao σ w/\∀ p∈ps,p.2.2.fz=false
theorem Dl.append {w w':List (Nat×Ac)} {ps ps':List (Nat×Nat×Own)} (h:Dl σ w ps) (k:Dl σ w' ps'):Dl σ (w++w') (ps++ps') :=
 ⟨h.1.append k.1,λp hp=>(aAG.1 hp).elim (h.2 p) (k.2 p)⟩
theorem Mh (s ty:Nat) (d:D) (hc:((Cw s ty d).run σ).1):Dl σ ((Cw s ty d).run σ).2.2.1 ((Cw s ty d).run σ).2.2.2:=by
 cases d<;>first|exact hc.elim|skip
 case optr g v i off =>
  simp only[Cw,R.run]at hc ⊢
  cases hg:σ.go g with
  | none=>rw[hg]at hc;exact hc.elim
  | some q =>
   obtain⟨v',o⟩:=q
   rw[hg]at hc
   simp only[R.run_bind,R.run_pure]at hc ⊢
   refine⟨OY _ _ hc.2,λp hp=>?_⟩
   simp only[aAr]at hp
   subst hp
   exact hc.1.2.2.2.1
theorem Gx (ptr:List (Nat×(Nat×Nat))) (j:Nat) (d:D) (hc:((AM ptr j d).run σ).1):Dl σ ((AM ptr j d).run σ).2.2.1 ((AM ptr j d).run σ).2.2.2:=by
 unfold AM at hc ⊢
 split at hc
 ·exact Mh _ _ d hc
 ·simp only[R.run_bind,R.run_pure]at hc ⊢
  exact⟨JA d hc,λp hp=>by cases hp⟩
theorem Gq (ptr:List (Nat×(Nat×Nat))):∀ (j:Nat) (ds:List D),((Bf ptr j ds).run σ).1->Dl σ ((Bf ptr j ds).run σ).2.2.1 ((Bf ptr j ds).run σ).2.2.2
 | _,[],_=>⟨Ao.nil σ,λp hp=>by cases hp⟩
 | j,d::r,hc=>by
  unfold Bf at hc ⊢
  simp only[R.run_bind,R.run_pure]at hc ⊢
  exact(Gx ptr j d hc.1).append (Gq ptr (j+1) r hc.2.1)
theorem KU (ptr:List (Nat×(Nat×Nat))) (j:Nat) (d:D) (hc:((BK ptr j d).run σ).1):Dl σ ((BK ptr j d).run σ).2.2.1 ((BK ptr j d).run σ).2.2.2:=by
 cases d
 case clo f caps =>
  unfold BK at hc ⊢
  simp only at hc ⊢
  split at hc
  ·exact hc.elim
  ·simp only[R.run_bind,R.run_pure]at hc ⊢
   exact Gq ptr _ caps hc
 all_goals (simp only[BK]at hc ⊢;exact Gx ptr j _ hc)
theorem Gn (ptr:List (Nat×(Nat×Nat))):∀ (j:Nat) (ds:List D),((Ae ptr j ds).run σ).1->Dl σ ((Ae ptr j ds).run σ).2.2.1 ((Ae ptr j ds).run σ).2.2.2
 | _,[],_=>⟨Ao.nil σ,λp hp=>by cases hp⟩
 | j,d::r,hc=>by
  unfold Ae at hc ⊢
  simp only[R.run_bind,R.run_pure]at hc ⊢
  exact(KU ptr j d hc.1).append (Gn ptr (j+1) r hc.2.1)
theorem Gv:∀ (ps:List (Nat×Nat×Own)) (ds:List D),(∀ p∈ps,p.2.2.fz=false)->Ao σ (Ai ps ds)
 | [],_,_=>Ao.nil σ
 | (g,v,o)::r,ds,h=>Ao.cons (λv' o' e=>by cases e;exact h (g,v,o) (by simp)) (Gv r _ λp hp=>h p (List.mem_cons_of_mem _ hp))
theorem fresh {nv:Nat} {o:Own} (h:o.fz=false):∀ v o',some (nv,o)=some (v,o')->o'.fz=false:=λv o' e=>by cases e;exact h
theorem KV {dst:Option Nat} {nv:Nat} {sp:Spec} {p:Prop} {ds:List D} {w:List (Nat×Ac)} {ps:List (Nat×Nat×Own)} (h:Dl σ w ps):Ao σ (Bg dst nv sp p ds w ps).wo:=by
 unfold Bg
 have hb:=(Gv ps (sp.eff ds) h.2).append h.1
 split
 ·exact hb
 ·exact Ao.nil σ
 ·split
  ·rw[aAu];exact(Ao.AH (fresh rfl)).append hb
  ·exact Ao.nil σ
 ·split
  ·rw[aAu];exact(Ao.CH (fresh rfl)).append hb
  ·exact Ao.nil σ
 ·rw[aAu];exact(Ao.AH (fresh rfl)).append hb
 ·split
  ·rw[aAu];exact(Ao.AH (fresh rfl)).append hb
  ·exact Ao.nil σ
 ·exact Ao.nil σ
 ·exact Ao.nil σ
theorem MI {dst:Option Nat} {q:Bool×(List Int->List Int)×(List Int->Nat)} {ds:List D} (hc:((CF dst q ds).run σ).c):Ao σ ((CF dst q ds).run σ).wo:=by
 unfold CF at hc ⊢
 split at hc
 ·exact Ao.nil σ
 ·rename_i g v i n
  simp only[R.run]at hc ⊢
  cases hg:σ.go g with
  | none=>rw[hg]at hc;exact hc.elim
  | some p =>
   obtain⟨v',o⟩:=p
   rw[hg]at hc
   simp only[R.run]at hc ⊢
   exact Ao.cons (fresh hc.2.1) (Ao.nil σ)
 ·exact hc.elim
theorem Iv {Γ:Ar} {nv:Nat} {dst:Option Nat} {op:DOp} (hm:Dt op=false) (hc:((evalOp Γ nv dst op).run σ).c):Ao σ ((evalOp Γ nv dst op).run σ).wo:=by
 cases op
 case asg x sl =>
  simp only[evalOp,R.run_bind]at hc ⊢
  split at hc
  ·exact Ao.AH (fresh rfl)
  ·rename_i g v n p _
   simp only[R.run]at hc ⊢
   cases hg:σ.go g with
   | none=>rw[hg]at hc;exact hc.elim
   | some q =>
    obtain⟨v',o⟩:=q
    rw[hg]at hc
    simp only at hc ⊢
    split
    ·exact Ao.nil σ
    ·rename_i hf
     split
     ·exact Ao.nil σ
     ·exact(Ao.CH (fresh (by simpa using hf))).append (Ao.cons (λ_ _ e=>by cases e) (Ao.nil σ))
  ·exact Ao.nil σ
 case new=>exact Ao.AH (fresh rfl)
 case box x s ty =>
  simp only[evalOp,R.run_bind,R.run_pure]
  exact Ao.AH (fresh rfl)
 case bldS s ty z len parts =>
  simp only[evalOp,R.run_bind,R.run_pure]at hc ⊢
  exact(Ao.AH (fresh rfl)).append (HC _ hc.1)
 case ld n agg a =>
  simp only[evalOp,R.run_bind]at hc ⊢
  split at hc
  ·rename_i g v i off _
   simp only[R.run]at hc ⊢
   cases hg:σ.go g with
   | none=>exact Ao.nil σ
   | some q =>
    obtain⟨v',o⟩:=q
    rw[hg]at hc
    simp only at hc ⊢
    split
    ·rename_i s ty es _ hp
     rw[hp]at hc
     rename_i hr
     rw[hr]at hc
     simp only[R.run]at hc ⊢
     exact Ao.cons (fresh rfl) (Ao.cons (fresh hc.2.2.2.1) (Ao.nil σ))
    ·exact Ao.nil σ
    ·exact Ao.nil σ
  ·simp only[R.run_bind,R.run_pure]
   exact Ao.nil σ
 case st n a x =>
  simp only[evalOp,R.run_bind]at hc ⊢
  split at hc
  ·rename_i g v i off _
   simp only[R.run]at hc ⊢
   cases hg:σ.go g with
   | none=>exact Ao.nil σ
   | some q =>
    obtain⟨v',o⟩:=q
    rw[hg]at hc
    simp only at hc ⊢
    split at hc
    ·rename_i hr
     rw[if_pos hr]
     simp only[R.run_bind,R.AB]at hc ⊢
     exact Ao.cons (fresh hc.2.2.2.2.1) (Ao.NH (Jf _ _))
    ·rename_i hr
     rw[if_neg hr]
     split at hc
     ·rename_i hv
      rw[if_pos hv]
      exact Ao.cons (fresh hc.2.2.2.1) (Ao.nil σ)
     ·rename_i hv
      rw[if_neg hv]
      simp only[R.run_bind,R.run_pure]at hc ⊢
      exact Ao.cons (fresh hc.2.2.2.2.1) (JA _ hc.2.2.1)
  ·exact Ao.nil σ
 case mkS s ty bytes z len cap =>
  simp only[evalOp,R.run_bind]
  split
  ·exact Ao.AH (fresh rfl)
  ·exact Ao.nil σ
 case call f args =>
  simp only[evalOp,R.run_bind]at hc ⊢
  split at hc
  ·simp only[R.run_bind]at hc ⊢
   split at hc
   ·split at hc
    ·simp only[R.run_bind,R.run_pure]at hc ⊢
     refine KV (Gn _ _ _ ?_)
     revert hc
     unfold Bg
     split
     ·exact λh=>h.1
     ·exact λh=>h.1
     ·split
      ·exact λh=>h.1
      ·exact λh=>h.elim
     ·split
      ·exact λh=>h.1
      ·exact λh=>h.elim
     ·exact λh=>h.1
     ·split
      ·exact λh=>h.1
      ·exact λh=>h.elim
     ·exact λh=>h.elim
     ·exact λh=>h.elim
    ·exact MI hc
   ·exact Ao.nil σ
  ·exact Ao.nil σ
 case app s ty bytes x y =>
  simp only[evalOp,R.run_bind,R.run_pure]
  exact(Ao.CH (fresh rfl)).append (Ao.NH (Mp _ _ _))
 case bldV ty len parts =>
  simp only[evalOp,R.run_bind,R.run_pure]
  exact Ao.AH (fresh rfl)
 case cpy x y =>
  simp only[evalOp,R.run_bind]at hc ⊢
  split at hc
  ·rename_i g v i n _
   simp only[R.run]at hc ⊢
   cases hg:σ.go g with
   | none=>exact Ao.nil σ
   | some q =>
    obtain⟨v',o⟩:=q
    rw[hg]at hc
    simp only[R.run]at hc ⊢
    exact Ao.cons (fresh hc.2.2.2.2.1) (Ao.nil σ)
  ·exact Ao.nil σ
 all_goals first
  | (cases hm;done)
  | (simp only[evalOp,R.run_bind,R.run_pure,Bu];(repeat' split)<;>first|exact Ao.nil σ|(simp only[R.run];split<;>exact Ao.nil σ)|(simp only[R.run_bind,R.run_pure];exact Ao.nil σ))
theorem Ao.look {wo:List (Nat×Ac)} (h:Ao σ wo) {g v:Nat} {o:Own} (hl:Dw.look wo g=some (some (v,o))) (hf:o.fz=true):∃ o0,σ.go g=some (v,o0)/\o={ o0 with fz:=true } :=
 h (g,some (v,o)) (Bl hl) v o rfl hf
variable {N:Nat} {w0:World} {F0:Fz} {M:Nat->Prop} {B0:Bt} {F:Fz} {β:Bt} {a:Act} {w:World} {P:Program}
theorem Cp.app {w1:World} {F1:Fz} {M1:Nat->Prop} {B1:Bt} (h:Cp w0 M w1 F1 M1 B1 σ w) (hS:Sim N w1 F1 M1 B1 σ F β a w) {u:Out} (hu:Ao σ u.wo) {a':Act} {w':World} {F':Fz} {β':Bt} (hS':Sim N w1 F1 M1 B1 (σ.app u) F' β' a' w'):Cp w0 M w1 F1 M1 B1 (σ.app u) w':=by
 refine(h.later hS.step hS'.step).sub λg v o hg h0=>?_
 have hfz:o.fz=true:=by
  cases hf:o.fz with
  | true=>rfl
  | false=>exact(hS'.HA hg hf h0).elim
 rw[S.Cu]at hg
 cases hl:Dw.look u.wo g with
 | none=>rw[hl]at hg;exact hg
 | some x =>
  rw[hl]at hg
  simp only at hg
  subst hg
  obtain⟨o0,k1,k2⟩:=hu.look hl hfz
  have hs0:o0.s=0:=by rw[k2]at h0;exact h0
  have:=(h.at_ g v o0 k1 hs0).1
  rw[k1,k2]
  cases o0
  simp only at this
  subst this
  rfl
theorem Oc {Γ:Ar} {nv:Nat} {o:As} (hm:Dt o.op=false) (hc:((At Γ nv o).run σ).c):Ao σ ((At Γ nv o).run σ).wo:=by
 unfold At at hc ⊢
 split
 ·rename_i hg
  rw[hg]at hc
  exact Iv hm hc
 ·rename_i t want hg
  rw[hg]at hc
  simp only[R.JB]at hc ⊢
  split
  ·rename_i hq
   rw[if_pos hq]at hc
   simp only[R.run_bind,R.run_pure]at hc ⊢
   exact Iv hm hc.2
  ·exact Ao.nil σ
end
section
variable {N:Nat} {w0:World} {F0:Fz} {M:Nat->Prop} {B0:Bt} {σ:S} {F:Fz} {β:Bt} {a:Act} {w:World} {P:Program}
theorem Sim.NI (h:Sim N w0 F0 M B0 σ F β a w) {g v:Nat} {o:Own} (hg:σ.go g=some (v,o)) (hf:o.fz=true) (hs:o.s=0) (es:List D) {c:Prop} {dst:Option Nat} {d:D} {x:Value} (hd:∀ t,dst=some t->t<N) (hx:Env F β d x) :
  Sim N w0 F0 M B0 (σ.app ⟨c,Ad dst d,[(g,some (v,{ o with es:=es }))]⟩) F β (a.put dst x) w:=by
 have h1:Sim N w0 F0 M B0 (σ.app ⟨c,Ad dst d,[]⟩) F β (a.put dst x) w:=h.put hd hx rfl rfl rfl rfl
 have hgo:∀ k,(σ.app ⟨c,Ad dst d,[(g,some (v,{ o with es:=es }))]⟩).go k=if k=g then some (v,{ o with es:=es })else σ.go k:=by
  intro k
  rw[S.Cu]
  simp only[look]
  by_cases e:k=g
  ·rw[if_pos e,if_pos e]
  ·rw[if_neg e,if_neg e]
 have key:∀ k u q,(σ.app ⟨c,Ad dst d,[(g,some (v,{ o with es:=es }))]⟩).go k=some (u,q)->q.fz=false->σ.go k=some (u,q):=by
  intro k u q hk hq
  rw[hgo]at hk
  split at hk
  ·cases hk;rw[hf]at hq;cases hq
  ·exact hk
 refine{ size:=h1.size,defers:=h1.defers,env:=h1.env,own:=?_,dist:=λg g' v v' o o' L L' b k k' f f'=>h.dist g g' v v' o o' L L' b (key _ _ _ k f) (key _ _ _ k' f') f f',sep:=λg v o L b k f=>h.sep g v o L b (key _ _ _ k f) f,Ab:=?_,frz:=h.frz,fin:=h.fin,step:=h.step,nam:=h.nam }
 ·intro k u q hk
  rw[hgo]at hk
  split at hk
  ·cases hk
   obtain⟨L,hL,hz,_⟩:=h.own g v o hg
   refine⟨L,hL,λ_=>?_,λe=>by rw[hf]at e;cases e⟩
   rcases hz hf with hz|hz
   ·exact .inl hz
   ·have:=hz.2.2.1;omega
  ·exact h.own k u q hk
 ·obtain⟨φ,hφ⟩:=h.Ab
  exact⟨φ,λg v o L b C i j e x s ty es hr k f=>hφ.row g v o L b C i j e x s ty es hr (key _ _ _ k f) f,λg v o L b C i j e x nm u n hr k f=>hφ.hole g v o L b C i j e x nm u n hr (key _ _ _ k f) f,hφ.none_,hφ.lt,hφ.new,
   λg i j b g' v' o' L' hb k f=>hφ.sep g i j b g' v' o' L' hb (key _ _ _ k f) f,hφ.dis⟩
theorem Az.JC {w1:World} {F1:Fz} {M1:Nat->Prop} {B1:Bt} (hb:Dd w0 F0 M B0 w1 F1 M1 B1) (h:Sim N w1 F1 M1 B1 σ F β a w) (hm:Cp w0 M w1 F1 M1 B1 σ w) {g v:Nat} {o:Own} (hg:σ.go g=some (v,o)) (hs:o.s=0) {b:Nat} (hB:B1 v=some ⟨none,o.ty,b⟩)
  {es:List D} {ob:Obj} (he:∀ w':World,w'.heap[b]? =some ob->DH w' b o.ty es) (hlo:Lone ob) {c:Prop} {dst:Option Nat} {d:D} {x:Value} (hd:∀ t,dst=some t->t<N) (hx:Env F β d x) :
  Az N w0 F0 M B0 (σ.app ⟨c,Ad dst d,[(g,some (v,{ o with es:=es }))]⟩) F β (a.put dst x) { w with heap:=w.heap.setIfInBounds b ob }:=by
 obtain⟨hf,b',k1,kb,k5⟩:=hm.at_ g v o hg hs
 rw[hB]at k1;cases k1
 obtain⟨k2,k3,k4,k6⟩:=kb b (.inl rfl)
 obtain⟨ob0,hw⟩:=k5.one
 have hbw:b<w.heap.size:=(aAc.1 hw).1
 have hne:∀ b',b'≠b->(w.heap.setIfInBounds b ob)[b']? =w.heap[b']?:=λb' hb'=>by simp[Ne.symm hb']
 refine⟨{ w1 with heap:=w1.heap.setIfInBounds b ob },F1,M1,B1,?_,(h.OZ k2 k3 k4 hw).NI hg hf hs es hd hx,?_⟩
 ·refine⟨⟨hb.stp.os,hb.stp.tape,hb.stp.output,by simpa using hb.stp.size,λb' hb' hM'=>?_,hb.stp.sub,hb.stp.old⟩,hb.new,hb.nam,hb.mark⟩
  have:b'≠b:=by rintro rfl;exact k6.elim (λe=>by omega) hM'
  simp only[aAZ,Ne.symm this,if_false]
  exact hb.stp.block b' hb' hM'
 ·have hgo:∀ k,(σ.app ⟨c,Ad dst d,[(g,some (v,{ o with es:=es }))]⟩).go k=if k=g then some (v,{ o with es:=es })else σ.go k:=by
   intro k
   rw[S.Cu]
   simp only[look]
   by_cases e:k=g
   ·rw[if_pos e,if_pos e]
   ·rw[if_neg e,if_neg e]
  have key:∀ k u q,(σ.app ⟨c,Ad dst d,[(g,some (v,{ o with es:=es }))]⟩).go k=some (u,q)->q.s=0->∃ q0,σ.go k=some (u,q0)/\q0.s=0:=by
   intro k u q hk hq
   rw[hgo]at hk
   split at hk
   ·rename_i e;subst e;cases hk;exact⟨o,hg,hs⟩
   ·exact⟨q,hk,hq⟩
  constructor
  ·intro k u q hk hq
   rw[hgo]at hk
   split at hk
   ·cases hk
    refine⟨hf,b,hB,λbb hbb=>?_,he _ (by simp[hbw])⟩
    obtain rfl:=hbb.lone (o:=ob) (by simp[hbw]) hlo
    exact⟨by simpa using k2,k3,k4,k6⟩
   ·rename_i hne'
    obtain⟨q1,b2,q2,q3,q6⟩:=hm.at_ k u q hk hq
    have hbn:∀ bb,QV w b2 bb->bb≠b:=by
     rintro bb hbb rfl
     exact hne' (hm.dis k g u v q o _ _ b2 bb bb hk hg hq hs q2 hB hbb (.inl rfl))
    refine⟨q1,b2,q2,λbb hbb=>?_,q6.QA λbb hbb=>hne bb (hbn bb hbb)⟩
    have:=q3 bb (hbb.of (hne b2 (hbn b2 (.inl rfl))))
    exact⟨by simpa using this.1,this.2⟩
  ·intro k k' u u' q q' c1 c2 b2 b3 bb hk hk' hq hq' e1 e2 z1 z2
   obtain⟨p1,p2,p3⟩:=key k u q hk hq
   obtain⟨p1',p2',p3'⟩:=key k' u' q' hk' hq'
   have old:∀ b2,QV { w with heap:=w.heap.setIfInBounds b ob } b2 bb->QV w b2 bb:=λb2 z=>by
    by_cases e:b2=b
    ·subst e
     exact .inl (z.lone (o:=ob) (by simp[hbw]) hlo)
    ·exact z.of (hne b2 e)
   exact hm.dis k k' u u' p1 p1' c1 c2 b2 b3 bb p2 p2' p3 p3' e1 e2 (old _ z1) (old _ z2)
theorem Az.Hz (h:Az N w0 F0 M B0 σ F β a w) (hf:∀ v,σ.n<=v->β v=none) {t:Nat} (ht:t<N) {ty:Nat} {es:List D} {ob:Obj} {x:Value} (hty:ty<=2) (hx0:(ty=0/\x= .map (some w.heap.size))\/(ty≠0/\x= .pointer (some ⟨w.heap.size,0,none⟩)))
  (hes:∀ w':World,w'.heap[w.heap.size]? =some ob->DH w' w.heap.size ty es) (hlo:Lone ob) :
  ∃ β',Az N w0 F0 M B0 ⟨(t,.mref t σ.n)::σ.e,(t,some (σ.n,⟨true,false,0,ty,es⟩))::σ.o,σ.n+1⟩ F β' (a.put (some t) x) (w.alloc ob)/\∀ v,σ.n+1<=v->β' v=none:=by
 obtain⟨w1,F1,M1,B1,hb,hS,hm⟩:=h
 have hnv:=hf σ.n (aAL _)
 have hβ:Aw β (upB β σ.n ⟨none,ty,w.heap.size⟩):=Ba _ hnv
 have hsize:(w.alloc ob).heap.size=w.heap.size+1:=aBL _
 have hblk:∀ b,b<w.heap.size->(w.alloc ob).heap[b]? =w.heap[b]?:=λb hb'=>heap_alloc_old w _ hb'
 have hgo:∀ k,(S.mk ((t,.mref t σ.n)::σ.e) ((t,some (σ.n,⟨true,false,0,ty,es⟩))::σ.o) (σ.n+1)).go k=if k=t then some (σ.n,⟨true,false,0,ty,es⟩)else σ.go k:=by
  intro k
  simp only[S.go,look]
  by_cases e:k=t
  ·rw[if_pos e,if_pos e];rfl
  ·rw[if_neg e,if_neg e]
 have key:∀ k u q,(S.mk ((t,.mref t σ.n)::σ.e) ((t,some (σ.n,⟨true,false,0,ty,es⟩))::σ.o) (σ.n+1)).go k=some (u,q)->q.fz=false->σ.go k=some (u,q):=by
  intro k u q hk hq
  rw[hgo]at hk
  split at hk
  ·cases hk;cases hq
  ·exact hk
 have hst:Stp M1 w1 F1 (w.alloc ob) F:=⟨hS.step.os,hS.step.tape,hS.step.output,by rw[hsize];have:=hS.step.size;omega,λb hb' hM'=>(hblk b (aAk hb' hS.step.size)).trans (hS.step.block b hb' hM'),hS.step.sub,hS.step.old⟩
 have hup:∀ v L,v≠σ.n->upB β σ.n ⟨none,ty,w.heap.size⟩ v=some L->β v=some L:=λv L hv hL=>by rwa[Ce _ _ hv]at hL
 have hvn:∀ g v o,σ.go g=some (v,o)->v≠σ.n:=by
  rintro g v o hg rfl
  obtain⟨L,hL,_⟩:=hS.own g _ o hg
  rw[hnv]at hL;cases hL
 obtain⟨wb,e1,e2,e3,e4,e5⟩:∃ wb:World,wb.heap=(w.alloc ob).heap/\wb.os=w.os/\wb.tape=w.tape/\wb.output=w.output/\wb.drawn=min w1.drawn w1.heap.size:=⟨{ w.alloc ob with drawn:=min w1.drawn w1.heap.size },rfl,rfl,rfl,rfl,rfl⟩
 have hws:wb.heap.size=w.heap.size+1:=by rw[e1,hsize]
 have hbt:=hb.then hst
 refine⟨upB β σ.n ⟨none,ty,w.heap.size⟩,⟨wb,F,λb=>b<w.heap.size/\(M1 b\/w1.heap.size<=b),upB β σ.n ⟨none,ty,w.heap.size⟩,?_,?_,?_⟩,λv hv=>?_⟩
 ·refine⟨⟨e2.trans hbt.os,e3.trans hbt.tape,e4.trans hbt.output,by rw[e1];exact hbt.size,λb h1 h2=>by rw[e1];exact hbt.block b h1 h2,hbt.sub,hbt.old⟩,λb hb'=>?_,(hb.nam.trans hS.nam).trans hβ,by rw[e5];exact Nat.le_min.2 ⟨hb.mark,hb.stp.size⟩⟩
  rcases hb'.2 with e|e
  ·exact hb.new b e
  ·exact .inr (aAb hb.stp.size e)
 ·have henv:∀ k,Env F (upB β σ.n ⟨none,ty,w.heap.size⟩) ((S.mk ((t,.mref t σ.n)::σ.e) ((t,some (σ.n,⟨true,false,0,ty,es⟩))::σ.o) (σ.n+1)).ge k) ((a.put (some t) x).tmps.getD k undef):=by
   have hx:Env F (upB β σ.n ⟨none,ty,w.heap.size⟩) (.mref t σ.n) x:=⟨⟨none,ty,w.heap.size⟩,An _ _ _,rfl,hx0⟩
   intro k
   exact hS.CB (Ag.refl _) hβ (c:=True) (dst:=some t) (d:=.mref t σ.n) (wo:=[]) (λt' e=>by cases e;exact ht) hx k
  refine{ size:=by rw[BW];exact hS.size,defers:=by rw[Bs];exact hS.defers,env:=henv,own:=?_,dist:=?_,sep:=?_,Ab:=?_,frz:=?_,fin:=λb i x hx=>?_,step:=⟨e2.symm,e3.symm,e4.symm,by rw[e1];exact aAL _,λb _ _=>by rw[e1],Ag.refl F,λ_ _ _ _=>rfl⟩,nam:=Aw.refl _ }
  ·intro k u q hk
   rw[hgo]at hk
   split at hk
   ·cases hk
    exact⟨_,An _ _ _,λ_=>.inl ⟨rfl,⟨rfl,hty⟩,rfl,rfl⟩,λe=>by cases e⟩
   ·obtain⟨L,hL,hz,hk'⟩:=hS.own k u q hk
    refine⟨L,hβ _ _ hL,hz,λhf'=>(hk' hf').QA (Ag.refl _) hβ λb hb'=>hblk b (hS.sep k u q L b hk hf' hL hb').2.1⟩
  ·intro g g' v v' o o' L L' b k k' f f' e e'
   have k:=key _ _ _ k f
   have k':=key _ _ _ k' f'
   exact hS.dist g g' v v' o o' L L' b k k' f f' (hup _ _ (hvn _ _ _ k) e) (hup _ _ (hvn _ _ _ k') e')
  ·intro g v o L b k f e e'
   have k:=key _ _ _ k f
   obtain⟨s1,s2,s3⟩:=hS.sep g v o L b k f (hup _ _ (hvn _ _ _ k) e) e'
   refine⟨s1,by omega,.inr ⟨⟨s2,s3.elim .inr λe=>.inl e.1⟩,?_⟩⟩
   rcases s3 with s3|⟨_,s3|s3⟩
   ·exact .inr (by rw[e5];exact aAb (aBI _ _) s3)
   ·exact .inl s3
   ·exact .inr (by rw[e5];exact aAb (aBB _ _) s3)
  ·obtain⟨φ,hφ⟩:=hS.Ab
   refine⟨φ,λg v o L b C i j e x s ty es hr k f hL hb' hC he hj hx=>?_,λg v o L b C i j e x nm u n hr k f hL hb' hC he hj hx=>?_,hφ.none_,λg i j b hb'=>by have:=hφ.lt g i j b hb';omega,λg i j b hb'=>.inr ?_,λg i j b g' v' o' L' hb' k f hL=>?_,hφ.dis⟩
   ·have k:=key _ _ _ k f
    have hL:=hup _ _ (hvn _ _ _ k) hL
    rw[hblk b (hS.sep g v o L b k f hL hb').2.1]at hC
    exact(hφ.row g v o L b C i j e x s ty es hr k f hL hb' hC he hj hx).QA (Ag.refl _) (λb' hb''=>hblk b' (hφ.lt g i j b' hb'')) λ_ h=>h
   ·have k:=key _ _ _ k f
    have hL:=hup _ _ (hvn _ _ _ k) hL
    rw[hblk b (hS.sep g v o L b k f hL hb').2.1]at hC
    exact(hφ.hole g v o L b C i j e x nm u n hr k f hL hb' hC he hj hx).mono (Ag.refl _) hβ
   ·exact⟨hφ.lt g i j b hb',(hφ.new g i j b hb').symm⟩
   ·have k:=key _ _ _ k f
    exact hφ.sep g i j b g' v' o' L' hb' k f (hup _ _ (hvn _ _ _ k) hL)
  ·intro b i x hx
   have hb':=hS.fin b i x hx
   rw[aBN (w:=w) (hblk b hb')]
   exact hS.frz b i x hx
  ·have:=hS.fin b i x hx;omega
 ·have hF:∀ i,F w.heap.size i=none:=λi=>by
   cases hx:F w.heap.size i with
   | none=>rfl
   | some x=>have:=hS.fin _ _ _ hx;omega
  have hMn:∀ b,b<w1.heap.size->¬ M1 b->¬ (b<w.heap.size/\(M1 b\/w1.heap.size<=b)):=λb h1 h2 h3=>h3.2.elim h2 λe=>by omega
  have hold:∀ g v o,σ.go g=some (v,o)->o.s=0->∃ b,upB β σ.n ⟨none,ty,w.heap.size⟩ v=some ⟨none,o.ty,b⟩/\B1 v=some ⟨none,o.ty,b⟩/\b<w1.heap.size:=by
   intro g v o hg h0
   obtain⟨_,b,q2,q3,_⟩:=hm.at_ g v o hg h0
   exact⟨b,hβ _ _ (hS.nam _ _ q2),q2,(q3 b (.inl rfl)).1⟩
  have hnew:(w.alloc ob).heap[w.heap.size]? =some ob:=(MapKept.heap_alloc w _).1
  constructor
  ·intro k u q hk hq
   rw[hgo]at hk
   split at hk
   ·cases hk
    refine⟨rfl,w.heap.size,An _ _ _,λbb hbb=>?_,hes _ hnew⟩
    obtain rfl:=hbb.lone hnew hlo
    exact⟨by omega,λe=>absurd e.1 (by omega),hF,.inl (aAb hb.stp.size hS.step.size)⟩
   ·obtain⟨q1,b,q2,q3,q6⟩:=hm.at_ k u q hk hq
    have:=hS.step.size
    have hbs:=(q3 b (.inl rfl)).1
    refine⟨q1,b,hβ _ _ (hS.nam _ _ q2),λbb hbb=>?_,q6.QA λbb hbb=>hblk bb (by have:=(q3 bb hbb).1;omega)⟩
    obtain⟨r3,r4,r5,r7⟩:=q3 bb (hbb.of (hblk b (by omega)))
    exact⟨by omega,hMn bb r3 r4,λi=>(hS.step.old bb i r3 r4).trans (r5 i),r7⟩
  ·intro k k' u u' q q' c1 c2 b b' bb hk hk' hq hq' e1 e2 z1 z2
   rw[hgo]at hk hk'
   have:=hS.step.size
   have low:∀ k u q b,σ.go k=some (u,q)->q.s=0->B1 u=some ⟨none,q.ty,b⟩->QV (w.alloc ob) b bb->QV w b bb/\bb<w1.heap.size:=by
    intro k u q b hk hq e z
    obtain⟨_,b2,q2,q3,_⟩:=hm.at_ k u q hk hq
    rw[e]at q2;cases q2
    have hbs:=(q3 b (.inl rfl)).1
    have z:=z.of (hblk b (by omega))
    exact⟨z,(q3 bb z).1⟩
   split at hk<;>split at hk'
   ·rename_i d1 d2;rw[d1,d2]
   ·cases hk
    obtain⟨b2,p1,p2,p3⟩:=hold _ _ _ hk' hq'
    rw[An]at e1;cases e1
    rw[p1]at e2;cases e2
    have:=(low _ _ _ _ hk' hq' p2 z2).2
    have:=z1.lone hnew hlo
    omega
   ·cases hk'
    obtain⟨b2,p1,p2,p3⟩:=hold _ _ _ hk hq
    rw[An]at e2;cases e2
    rw[p1]at e1;cases e1
    have:=(low _ _ _ _ hk hq p2 z1).2
    have:=z2.lone hnew hlo
    omega
   ·obtain⟨b2,p1,p2,p3⟩:=hold _ _ _ hk hq
    obtain⟨b3,p4,p5,p6⟩:=hold _ _ _ hk' hq'
    rw[p1]at e1;cases e1
    rw[p4]at e2;cases e2
    exact hm.dis k k' u u' q q' _ _ _ _ bb hk hk' hq hq' p2 p5 (low _ _ _ _ hk hq p2 z1).1 (low _ _ _ _ hk' hq' p5 z2).1
 ·rw[Ce _ _ (by omega)]
  exact hf v (by omega)
theorem Sim.Pa {w1:World} {F1:Fz} {M1:Nat->Prop} {B1:Bt} (hS:Sim N w1 F1 M1 B1 σ F β a w) {w' wb:World} (hsz:w.heap.size<=w'.heap.size) (e1:wb.heap=w'.heap) (e2:wb.os=w'.os) (e3:wb.tape=w'.tape) (e4:wb.output=w'.output) (e5:wb.drawn=min w1.drawn w1.heap.size)
  (hk:∀ k,k<w.heap.size->(w1.heap.size<=k\/M1 k\/∃ i x,F k i=some x)->w'.heap[k]? =w.heap[k]?):Sim N wb F (λb=>b<w.heap.size/\(M1 b\/w1.heap.size<=b)) β σ F β a w':=by
 have own:∀ g v o L b,σ.go g=some (v,o)->o.fz=false->β v=some L->L.b=some b->w'.heap[b]? =w.heap[b]?:=by
  intro g v o L b hg hf hL hb
  obtain⟨_,s2,s3⟩:=hS.sep g v o L b hg hf hL hb
  exact hk b s2 (s3.elim .inl λe=>.inr (.inl e.1))
 refine{ size:=hS.size,defers:=hS.defers,env:=hS.env,own:=?_,dist:=hS.dist,sep:=?_,Ab:=?_,frz:=?_,fin:=λb i x hx=>aAk (hS.fin b i x hx) hsz,step:=⟨e2.symm,e3.symm,e4.symm,by rw[e1];exact aAL _,λb _ _=>by rw[e1],Ag.refl F,λ_ _ _ _=>rfl⟩,nam:=Aw.refl _ }
 ·intro k u q hk'
  obtain⟨L,hL,hz,hkk⟩:=hS.own k u q hk'
  exact⟨L,hL,hz,λhf=>(hkk hf).QA (Ag.refl _) (Aw.refl _) λb hb=>own k u q L b hk' hf hL hb⟩
 ·intro g v o L b hg hf hL hb
  obtain⟨s1,s2,s3⟩:=hS.sep g v o L b hg hf hL hb
  refine⟨s1,aAk s2 hsz,.inr ⟨⟨s2,s3.elim .inr λe=>.inl e.1⟩,?_⟩⟩
  rcases s3 with s3|⟨_,s3|s3⟩
  ·exact .inr (by rw[e5];exact aAb (aBI _ _) s3)
  ·exact .inl s3
  ·exact .inr (by rw[e5];exact aAb (aBB _ _) s3)
 ·obtain⟨φ,hφ⟩:=hS.Ab
  have hp:∀ g i j b,φ g i j b->w'.heap[b]? =w.heap[b]?:=λg i j b hb=>hk b (hφ.lt g i j b hb) ((hφ.new g i j b hb).imp id .inl)
  refine⟨φ,λg v o L b C i j e x s ty es hr k f hL hb' hC he hj hx=>?_,λg v o L b C i j e x nm u n hr k f hL hb' hC he hj hx=>?_,hφ.none_,λg i j b hb'=>aAk (hφ.lt g i j b hb') hsz,λg i j b hb'=>.inr ⟨hφ.lt g i j b hb',(hφ.new g i j b hb').symm⟩,hφ.sep,hφ.dis⟩
  ·rw[own g v o L b k f hL hb']at hC
   exact(hφ.row g v o L b C i j e x s ty es hr k f hL hb' hC he hj hx).QA (Ag.refl _) (λb' hb''=>hp g i j b' hb'') λ_ h=>h
  ·rw[own g v o L b k f hL hb']at hC
   exact hφ.hole g v o L b C i j e x nm u n hr k f hL hb' hC he hj hx
 ·intro b i x hx
  rw[aBN (w:=w) (hk b (hS.fin b i x hx) (.inr (.inr ⟨i,x,hx⟩)))]
  exact hS.frz b i x hx
theorem Az.Pb (h:Az N w0 F0 M B0 σ F β a w) {g v:Nat} {o:Own} (hg:σ.go g=some (v,o)) (hs:o.s=0) {b:Nat} (hβ:β v=some ⟨none,o.ty,b⟩) {w':World} (hos:w'.os=w.os) (htp:w'.tape=w.tape) (hout:w'.output=w.output) (hsz:w.heap.size<=w'.heap.size)
  (hk:∀ k,k<w.heap.size->¬ QV w b k->w'.heap[k]? =w.heap[k]?) {es:List D} (hes:DH w' b o.ty es) (hnew:∀ k,QV w' b k->QV w b k\/(w.heap.size<=k/\k<w'.heap.size)) :
  Az N w0 F0 M B0 ⟨σ.e,(g,some (v,{ o with es:=es }))::σ.o,σ.n⟩ F β a w':=by
 obtain⟨w1,F1,M1,B1,hb,hS,hm⟩:=h
 obtain⟨hf,b',k1,kb,k5⟩:=hm.at_ g v o hg hs
 have:=hS.nam _ _ k1
 rw[hβ]at this;cases this
 obtain⟨wb,e1,e2,e3,e4,e5⟩:∃ wb:World,wb.heap=w'.heap/\wb.os=w'.os/\wb.tape=w'.tape/\wb.output=w'.output/\wb.drawn=min w1.drawn w1.heap.size:=⟨{ w' with drawn:=min w1.drawn w1.heap.size },rfl,rfl,rfl,rfl,rfl⟩
 have hle:=hS.step.size
 have hkk:∀ k,k<w.heap.size->(w1.heap.size<=k\/M1 k\/∃ i x,F k i=some x)->w'.heap[k]? =w.heap[k]?:=by
  intro k hlt hw
  refine hk k hlt λhB=>?_
  obtain⟨r1,r2,r3,_⟩:=kb k hB
  rcases hw with e|e|⟨i,x,e⟩
  ·omega
  ·exact r2 e
  ·have:=(hS.step.old k i r1 r2).trans (r3 i)
   rw[e]at this;cases this
 have hre:=hS.Pa hsz e1 e2 e3 e4 e5 hkk
 have hset:=hre.NI hg hf hs es (c:=True) (dst:=none) (d:=.top) (x:=undef) (λt e=>by cases e) (Env.top _)
 have hbt:Stp M w0 F0 w F:=hb.then hS.step
 have hMn:∀ b,b<w1.heap.size->¬ M1 b->¬ (b<w.heap.size/\(M1 b\/w1.heap.size<=b)):=λb h1 h2 h3=>h3.2.elim h2 λe=>by omega
 have hgo:∀ k,(S.mk σ.e ((g,some (v,{ o with es:=es }))::σ.o) σ.n).go k=if k=g then some (v,{ o with es:=es })else σ.go k:=by
  intro k
  simp only[S.go,look]
  by_cases e:k=g
  ·rw[if_pos e,if_pos e];rfl
  ·rw[if_neg e,if_neg e]
 have far:∀ k u q b2,σ.go k=some (u,q)->q.s=0->k≠g->B1 u=some ⟨none,q.ty,b2⟩->∀ bb,QV w b2 bb->¬ QV w b bb:=λk u q b2 hk1 hq hne hB bb z z'=>hne (hm.dis k g u v q o _ _ b2 b bb hk1 hg hq hs hB k1 z z')
 have same:∀ k u q b2,σ.go k=some (u,q)->q.s=0->k≠g->B1 u=some ⟨none,q.ty,b2⟩->∀ bb,QV w b2 bb->w'.heap[bb]? =w.heap[bb]? /\bb<w1.heap.size:=by
  intro k u q b2 hk1 hq hne hB bb z
  obtain⟨_,b3,q2,q3,_⟩:=hm.at_ k u q hk1 hq
  rw[hB]at q2;cases q2
  have hlt:=(q3 bb z).1
  exact⟨hk bb (by omega) (far k u q b2 hk1 hq hne hB bb z),hlt⟩
 refine⟨wb,F,λb=>b<w.heap.size/\(M1 b\/w1.heap.size<=b),β,?_,hset,?_,?_⟩
 ·refine⟨⟨e2.trans (hos.trans hbt.os),e3.trans (htp.trans hbt.tape),e4.trans (hout.trans hbt.output),by rw[e1];exact aAb hbt.size hsz,λb' h1 h2=>?_,hbt.sub,hbt.old⟩,λb hb'=>?_,hb.nam.trans hS.nam,by rw[e5];exact Nat.le_min.2 ⟨hb.mark,hb.stp.size⟩⟩
  ·rw[e1]
   refine(hk b' (aAk h1 hbt.size) λhB=>?_).trans (hbt.block b' h1 h2)
   exact(kb b' hB).2.2.2.elim (λe=>by omega) h2
  ·rcases hb'.2 with e|e
   ·exact hb.new b e
   ·exact .inr (aAb hb.stp.size e)
 ·intro k u q hk1 hq
  rw[hgo]at hk1
  split at hk1
  ·cases hk1
   refine⟨hf,b,hβ,λbb z=>?_,hes⟩
   rcases hnew bb z with z|⟨z1,z2⟩
   ·obtain⟨r1,r2,r3,r4⟩:=kb bb z
    exact⟨by rw[e1];omega,hMn bb r1 r2,λi=>(hS.step.old bb i r1 r2).trans (r3 i),r4⟩
   ·refine⟨by rw[e1];exact z2,λe=>by omega,λi=>?_,.inl (aAb hbt.size z1)⟩
    cases hx:F bb i with
    | none=>rfl
    | some x=>have:=hS.fin _ _ _ hx;omega
  ·rename_i hne
   obtain⟨q1,b2,q2,q3,q6⟩:=hm.at_ k u q hk1 hq
   have sm:=same k u q b2 hk1 hq hne q2
   refine⟨q1,b2,hS.nam _ _ q2,λbb z=>?_,q6.QA λbb z=>(sm bb z).1⟩
   obtain⟨r1,r2,r3,r4⟩:=q3 bb (z.of (sm b2 (.inl rfl)).1)
   exact⟨by rw[e1];omega,hMn bb r1 r2,λi=>(hS.step.old bb i r1 r2).trans (r3 i),r4⟩
 ·intro k k' u u' q q' c1 c2 b2 b3 bb hk1 hk1' hq hq' y1 y2 z1 z2
  rw[hgo]at hk1 hk1'
  have base:∀ k u q c b2,σ.go k=some (u,q)->q.s=0->β u=some ⟨none,c,b2⟩->c=q.ty/\B1 u=some ⟨none,q.ty,b2⟩:=by
   intro k u q c b2 hk1 hq e
   obtain⟨_,b3,q2,_⟩:=hm.at_ k u q hk1 hq
   have:=hS.nam _ _ q2
   rw[e]at this;cases this
   exact⟨rfl,q2⟩
  have one:∀ k u q b2,σ.go k=some (u,q)->q.s=0->k≠g->B1 u=some ⟨none,q.ty,b2⟩->QV w' b2 bb->QV w b2 bb/\bb<w1.heap.size/\¬ QV w' b bb:=by
   intro k u q b2 hk1 hq hne hB z
   have sm:=same k u q b2 hk1 hq hne hB
   have z:=z.of (sm b2 (.inl rfl)).1
   refine⟨z,(sm bb z).2,λy=>?_⟩
   rcases hnew bb y with y|⟨y,_⟩
   ·exact far k u q b2 hk1 hq hne hB bb z y
   ·have:=(sm bb z).2;omega
  split at hk1<;>split at hk1'
  ·rename_i d1 d2;rw[d1,d2]
  ·rename_i d1 d2
   cases hk1
   have:=hβ.symm.trans y1
   cases this
   exact((one k' u' q' b3 hk1' hq' d2 (base _ _ _ _ _ hk1' hq' y2).2 z2).2.2 z1).elim
  ·rename_i d1 d2
   cases hk1'
   have:=hβ.symm.trans y2
   cases this
   exact((one k u q b2 hk1 hq d1 (base _ _ _ _ _ hk1 hq y1).2 z1).2.2 z2).elim
  ·rename_i d1 d2
   have x1:=(base _ _ _ _ _ hk1 hq y1).2
   have x2:=(base _ _ _ _ _ hk1' hq' y2).2
   exact hm.dis k k' u u' q q' _ _ _ _ bb hk1 hk1' hq hq' x1 x2 (one k u q b2 hk1 hq d1 x1 z1).1 (one k' u' q' b3 hk1' hq' d2 x2 z2).1
theorem Az.put (h:Az N w0 F0 M B0 σ F β a w) {c:Prop} {dst:Option Nat} {d:D} {v:Value} (hd:∀ t,dst=some t->t<N) (hv:Env F β d v)
  {w':World} (hh:w'.heap=w.heap) (ho:w'.os=w.os) (ht:w'.tape=w.tape) (hu:w'.output=w.output):Az N w0 F0 M B0 (σ.app ⟨c,Ad dst d,[]⟩) F β (a.put dst v) w':=by
 obtain⟨w1,F1,M1,B1,hb,hS,hm⟩:=h
 have hS':=hS.put (c:=c) hd hv hh ho ht hu
 exact⟨w1,F1,M1,B1,hb,hS',hm.app hS (Ao.nil σ) hS'⟩
theorem Az.skip (h:Az N w0 F0 M B0 σ F β a w) {dst:Option Nat} (hd:∀ t,dst=some t->t<N) (c:Prop):Az N w0 F0 M B0 (σ.app ⟨c,Ad dst (.when false (.bool false)),[]⟩) F β (a.put dst undef) w:=by
 obtain⟨w1,F1,M1,B1,hb,hS,hm⟩:=h
 have hS':=hS.skip hd c
 exact⟨w1,F1,M1,B1,hb,hS',hm.app hS (Ao.nil σ) hS'⟩
theorem GW {w1:World} {F1:Fz} {M1:Nat->Prop} {B1:Bt} (hS:Sim N w1 F1 M1 B1 σ F β a w) (hm:Cp w0 M w1 F1 M1 B1 σ w) {g v:Nat} {x:Value} (hx:Val F β (.mref g v) x) (hc:((Dv g v).run σ).1) :
  ∃ b,x= .map (some b)/\σ.go g=some (v,((Dv g v).run σ).2)/\((Dv g v).run σ).2.s=0/\((Dv g v).run σ).2.ty=0/\B1 v=some ⟨none,((Dv g v).run σ).2.ty,b⟩/\Ee w b ((Dv g v).run σ).2.es:=by
 obtain⟨L,hL,_,hx⟩:=hx
 simp only[Dv,R.run]at hc ⊢
 cases hg:σ.go g with
 | none=>rw[hg]at hc;exact hc.elim
 | some p =>
  obtain⟨v',o⟩:=p
  rw[hg]at hc
  simp only[R.run]at hc ⊢
  obtain⟨rfl,h0,h1⟩:=hc
  obtain⟨_,b,h2,_,h6⟩:=hm.at_ g v o hg h0
  have:=hS.nam _ _ h2
  rw[hL]at this;cases this
  rw[h1]at h6 hx
  exact⟨b,hx.elim (·.2) (λh=>absurd rfl h.1),rfl,h0,h1,h2,h6.elim (·.2) (λh=>h.elim (λh=>by cases h.1) λh=>by cases h.1)⟩
theorem Ob {w1:World} {F1:Fz} {M1:Nat->Prop} {B1:Bt} (hS:Sim N w1 F1 M1 B1 σ F β a w) (hm:Cp w0 M w1 F1 M1 B1 σ w) {g v:Nat} {x:Value} (hx:Val F β (.mref g v) x) (hc:((Dh g v).run σ).1) :
  ∃ b,x= .pointer (some ⟨b,0,none⟩)/\σ.go g=some (v,((Dh g v).run σ).2)/\((Dh g v).run σ).2.s=0/\((Dh g v).run σ).2.ty=1/\B1 v=some ⟨none,((Dh g v).run σ).2.ty,b⟩/\Lv w b ((Dh g v).run σ).2.es:=by
 obtain⟨L,hL,_,hx⟩:=hx
 simp only[Dh,R.run]at hc ⊢
 cases hg:σ.go g with
 | none=>rw[hg]at hc;exact hc.elim
 | some p =>
  obtain⟨v',o⟩:=p
  rw[hg]at hc
  simp only[R.run]at hc ⊢
  obtain⟨rfl,h0,h1⟩:=hc
  obtain⟨_,b,h2,_,h6⟩:=hm.at_ g v o hg h0
  have:=hS.nam _ _ h2
  rw[hL]at this;cases this
  rw[h1]at h6 hx
  exact⟨b,hx.elim (λh=>by cases h.1) (·.2),rfl,h0,h1,h2,h6.elim (λh=>by cases h.1) λh=>h.elim (·.2) λh=>by cases h.1⟩
theorem IB {ty:TypeId} {op:Op} {dop:DOp} (h:cOp P ty op=some dop) (h1:∀ t r,op≠ .makeMap t r) (h2:∀ t x i b,op≠ .lookup t x i b) (h3:∀ t x i y,op≠ .mapUpdate t x i y) (h4:∀ c,op≠ .call c) (h5:∀ t x,op≠ .range t x) (h6:∀ x b,op≠ .next x b) (h7:∀ e,op≠ .alloc e) (h8:∀ e x,op≠ .box e x):Dt dop=false:=by
 unfold cOp at h
 split at h
 all_goals first
  | (exact absurd rfl (h1 _ _))
  | (exact absurd rfl (h2 _ _ _ _))
  | (exact absurd rfl (h3 _ _ _ _))
  | (exact absurd rfl (h4 _))
  | (exact absurd rfl (h5 _ _))
  | (exact absurd rfl (h6 _ _))
  | (exact absurd rfl (h7 _))
  | (exact absurd rfl (h8 _ _))
  | (cases h;done)
  | (revert h;(try unfold KQ KT);(repeat' split)<;>simp[aA]<;>intros<;>subst_vars<;>first|rfl|(rename_i h;revert h;(repeat' split)<;>simp[aA]<;>intros<;>subst_vars<;>rfl))
theorem Me {s:ByteArray} {b q:Nat} (hb:w.heap[b]? =some (.stringIter s q)) (h:q<s.size) (ty:TypeId):(aBO (.pointer (some ⟨b,0,none⟩)) true ty).run P w =
  .ok (.tuple #[.bool true,.int .i64 q,.int .i32 (Utf8.decode s q).1]) { w with heap:=w.heap.setIfInBounds b (.stringIter s (q+(Utf8.decode s q).2)) }:=by
 simp only[aBO,getObj,setObj,Sem.run_bind,Sem.run,hb,Result.andThen,h,if_true]
 simp[goInt]
theorem MJ {s:ByteArray} {b q:Nat} (hb:w.heap[b]? =some (.stringIter s q)) (h:¬ q<s.size) (ty:TypeId):(aBO (.pointer (some ⟨b,0,none⟩)) true ty).run P w= .ok (.tuple #[.bool false]) w:=by
 simp[aBO,getObj,Sem.run,hb,h]
theorem Md {Γ:Ar} (h:Az N w0 F0 M B0 σ F β a w) {o:Oper} {dop:DOp} (hop:cOp P o.type o.op=some dop) (hdst:CO N o.dst dop=true) (hm:Dt dop=true) {nv:Nat}
  (hc:((evalOp Γ nv o.dst dop).run σ).c) (K:Act->World->Prop) (Q:Exit->Act->World->Prop) (hK:∀ a' w',Az N w0 F0 M B0 (σ.app ((evalOp Γ nv o.dst dop).run σ)) F β a' w'->K a' w'):o.wp P a w K Q:=by
 have hd:=DX hdst
 have h0:=h
 obtain⟨w1,F1,M1,B1,hb,hS,hmp⟩:=h
 cases ho:o.op with
 | makeMap t r =>
  exfalso
  cases r<;>simp only[ho,cOp,aAA,aA]at hop
  ·obtain⟨_,_,he⟩:=hop;cases he;exact hc
  ·cases hop;cases hm
 | box e x =>
  exfalso
  simp only[ho,cOp]at hop
  split at hop
  ·simp only[aAA,aA]at hop
   obtain⟨_,_,he⟩:=hop
   cases he;exact hc
  ·split at hop
   ·simp only[aAA,aA]at hop
    obtain⟨_,_,he⟩:=hop
    cases he;cases hm
   ·cases hop
 | alloc e =>
  exfalso
  simp only[ho,cOp]at hop
  split at hop
  ·cases hop;exact hc
  ·simp only[aAA,aA]at hop
   obtain⟨_,_,he⟩:=hop
   split at he
   ·cases he;cases hm
   ·cases he
 | range t x =>
  exfalso
  simp only[ho,cOp]at hop
  split at hop
  ·simp only[aAA,aA]at hop
   obtain⟨_,_,he⟩:=hop;cases he;exact hc
  ·cases hop;cases hm
 | next x b =>
  cases b with
  | false=>simp only[ho,cOp]at hop;cases hop;cases hm
  | true =>
   simp only[ho,cOp,aAA,aA]at hop
   obtain⟨ax,hax,he⟩:=hop;cases he
   have h1:=λhp=>Au hS hax hp
   simp only[evalOp,R.run_bind]at hc hK
   generalize((rdA ax).run σ).2=d at *
   generalize((rdA ax).run σ).1=p at *
   split at hc
   ·rename_i g v
    simp only[R.run_bind]at hc hK
    split at hc
    ·rename_i s q hes
     have hcc:p=true/\((Dh g v).run σ).1:=by
      split at hc<;>exact hc
     obtain⟨c1,c2⟩:=hcc
     obtain⟨b,e1,e2,e3,et,e4,s',q',e5,e6⟩:=Ob hS hmp (h1 c1) c2
     rw[hes]at e6
     cases e6
     unfold Oper.wp
     by_cases hq:q<s.length
     ·have hrun:(execOp a.eval o).run P w= .ok (.value (.tuple #[.bool true,.int .i64 q,.int .i32 (Vm s q).1])) { w with heap:=w.heap.setIfInBounds b (.stringIter ⟨s.toArray⟩ (q+(Vm s q).2)) }:=by
       unfold execOp;rw[ho]
       have hsz:q<(⟨s.toArray⟩:ByteArray).size:=by simpa[ByteArray.size]using hq
       simp only[e1]
       simp[Me e5 hsz,Vm]
      rw[hrun]
      refine hK _ _ ?_
      simp only[hes,if_pos hq,R.run_pure]
      refine Az.JC hb hS hmp e2 e3 e4 (λw' hw'=>.inr (.inl ⟨et,s,_,hw',rfl⟩)) (λ_ _ _ _ _ e=>by cases e) hd (Env.Af (.tup _ _ rfl λj c v hj hv=>?_))
      match j,hj,hv with
      | 0,hj,hv=>cases hj;cases hv;exact .bool _
      | 1,hj,hv=>cases hj;cases hv;exact .int _ _
      | 2,hj,hv=>cases hj;cases hv;exact .int _ _
     ·have hrun:(execOp a.eval o).run P w= .ok (.value (.tuple #[.bool false])) w:=by
       unfold execOp;rw[ho]
       have hsz:¬ q<(⟨s.toArray⟩:ByteArray).size:=by simpa[ByteArray.size]using hq
       simp only[e1]
       simp[MJ e5 hsz]
      rw[hrun]
      refine hK _ _ ?_
      simp only[hes,if_neg hq,R.run_pure]
      refine h0.put hd (Env.Af (.tup _ _ rfl λj c v hj hv=>?_)) rfl rfl rfl rfl
      match j,hj,hv with
      | 0,hj,hv=>cases hj;cases hv;exact .bool _
    ·exact hc.elim
   ·exact hc.elim
 | lookup t x i b =>
  cases b<;>simp only[ho,cOp,aAA,aA]at hop
  ·obtain⟨z,hz,ax,hax,ai,hai,he⟩:=hop;cases he
   have h1:=λhp=>Au hS hax hp
   have h2:=λhp=>Au hS hai hp
   simp only[evalOp,R.run_bind]at hc hK
   generalize((rdA ax).run σ).2=d at *
   generalize((rdA ax).run σ).1=p at *
   generalize((rdA ai).run σ).2=j at *
   generalize((rdA ai).run σ).1=q at *
   split at hc
   ·rename_i g v n
    simp only[R.run_bind,R.run_pure]at hc hK
    obtain⟨c1,c2,c3⟩:=hc
    obtain⟨b,e1,_,_,_,_,e5⟩:=GW hS hmp (h1 c1) c3
    obtain⟨y,r1,r2⟩:=LZ (P:=P) hz (n:=n) e5
    have hrun:(execOp a.eval o).run P w= .ok (.value y) w:=by
     unfold execOp;rw[ho];simp[e1,AK (h2 c2),r1]
    unfold Oper.wp
    rw[hrun]
    exact hK _ _ (h0.put hd (Env.Af (r2 F)) rfl rfl rfl rfl)
   ·exact hc.elim
  ·cases hop;cases hm
 | mapUpdate t x i y =>
  simp only[ho,cOp,aAA,aA]at hop
  obtain⟨z,hz,ax,hax,ai,hai,ay,hay,he⟩:=hop;cases he
  have h1:=λhp=>Au hS hax hp
  have h2:=λhp=>Au hS hai hp
  have h3:=λhp=>Au hS hay hp
  simp only[evalOp,R.run_bind]at hc hK
  generalize((rdA ax).run σ).2=d at *
  generalize((rdA ax).run σ).1=p at *
  generalize((rdA ai).run σ).2=j at *
  generalize((rdA ai).run σ).1=q at *
  generalize((rdA ay).run σ).2=u at *
  generalize((rdA ay).run σ).1=r at *
  split at hc
  ·rename_i g v n
   simp only[R.run_bind,R.run_pure]at hc hK
   obtain⟨c1,c2,c3,c4,c5⟩:=hc
   obtain⟨b,e1,e2,e3,et,e4,e5⟩:=GW hS hmp (h1 c1) c5
   obtain⟨ents,clock,r1,r2⟩:=Mz (P:=P) hz (n:=n) e5 c4 (Hw c4 (h3 c3))
   have hdn:o.dst=none:=by
    cases hdd:o.dst with
    | none=>rfl
    | some t=>rw[hdd]at hdst;cases hdst
   have hrun:(execOp a.eval o).run P w= .ok .skip { w with heap:=w.heap.setIfInBounds b (.map ents clock) }:=by
    unfold execOp;rw[ho];simp[e1,AK (h2 c2),r1]
   unfold Oper.wp
   rw[hrun]
   refine hK _ _ ?_
   rw[hdn]
   exact Az.JC (dst:=none) (d:=.top) (x:=undef) hb hS hmp e2 e3 e4 (λw' hw'=>.inl ⟨et,ents,clock,hw',r2⟩) (λ_ _ _ _ _ e=>by cases e) (λt e=>by cases e) (Env.top _)
  ·exact hc.elim
 | call c =>
  simp only[ho,cOp]at hop
  obtain⟨cal,as,ts⟩:=c
  unfold Ho at hop
  simp only at hop
  split at hop
  ·exfalso
   simp only[aAA,aA]at hop
   obtain⟨_,_,_,_,he⟩:=hop;cases he;cases hm
  ·exfalso
   split at hop
   ·simp only[aAA,aA]at hop
    obtain⟨_,_,he⟩:=hop;cases he;cases hm
   ·simp only[aAA,aA]at hop
    obtain⟨_,_,he⟩:=hop;cases he;cases hm
   ·cases hop
  ·exfalso
   split at hop
   ·simp only[aAA,aA]at hop
    obtain⟨_,_,_,_,_,_,he⟩:=hop
    split at he
    ·simp only[aA]at he
     obtain⟨_,_,_,_,he⟩:=he;cases he;cases hm
    ·cases he
   ·cases hop
  ·exfalso
   split at hop
   ·split at hop
    ·simp only[aAA,aA]at hop
     obtain⟨_,_,_,_,he⟩:=hop;cases he;cases hm
    ·cases hop
   ·cases hop
  ·rename_i x i t ts' has hts
   have ea:as= #[x,i]:=by apply aAT;simpa using has
   subst ea
   have ets:ts[0]? =some t:=by rw[<- aAz,hts];rfl
   split at hop
   ·rename_i z hz
    simp only[aAA,aA]at hop
    obtain⟨ax,hax,ai,hai,he⟩:=hop;cases he
    have h1:=λhp=>Au hS hax hp
    have h2:=λhp=>Au hS hai hp
    simp only[evalOp,R.run_bind]at hc hK
    generalize((rdA ax).run σ).2=d at *
    generalize((rdA ax).run σ).1=p at *
    generalize((rdA ai).run σ).2=j at *
    generalize((rdA ai).run σ).1=q at *
    split at hc
    ·rename_i g v n
     simp only[R.run_bind,R.run_pure]at hc hK
     obtain⟨c1,c2,c3⟩:=hc
     obtain⟨b,e1,e2,e3,et,e4,e5⟩:=GW hS hmp (h1 c1) c3
     obtain⟨ents,clock,r1,r2⟩:=LD (P:=P) hz (n:=n) e5 ets o.type
     have hrun:(execOp a.eval o).run P w= .ok (.value (.tuple #[])) { w with heap:=w.heap.setIfInBounds b (.map ents clock) }:=by
      unfold execOp;rw[ho]
      simp[resolve,invoke,builtin,e1,AK (h2 c2),r1]
     unfold Oper.wp
     rw[hrun]
     refine hK _ _ ?_
     exact Az.JC hb hS hmp e2 e3 e4 (λw' hw'=>.inl ⟨et,ents,clock,hw',r2⟩) (λ_ _ _ _ _ e=>by cases e) hd (Env.Af (.tup [] [] rfl λj c v hj=>by simp at hj))
    ·exact hc.elim
   ·cases hop
  ·exfalso
   simp only[aAA,aA]at hop
   obtain⟨_,_,he⟩:=hop;cases he;cases hm
  ·exfalso
   simp only[aAA,aA]at hop
   obtain⟨_,_,he⟩:=hop;cases he;cases hm
  ·cases hop;cases hm
 | _ =>
  exfalso
  revert hop
  rw[ho]
  intro hop
  have:Dt dop=false:=IB hop (λ_ _ e=>by cases e) (λ_ _ _ _ e=>by cases e) (λ_ _ _ _ e=>by cases e) (λ_ e=>by cases e) (λ_ _ e=>by cases e) (λ_ _ e=>by cases e) (λ_ e=>by cases e) (λ_ _ e=>by cases e)
  rw[hm]at this;cases this
theorem Eo {Γ:Ar} (hΓ:∀ k sp,Γ k=some sp->Bv P F0 (k % 4096) sp) (h:Az N w0 F0 M B0 σ F β a w) {ops:Array Oper} {draw:Bool} {i:Nat} {o:Oper} {o':As} (hop:Cm P N ops draw i o=some o') {nv:Nat} (hnv:β nv=none)
  (hc:((At Γ nv o').run σ).c) (K:Act->World->Prop) (Q:Exit->Act->World->Prop)
  (hK:∀ a' w' F' β',Az N w0 F0 M B0 (σ.app ((At Γ nv o').run σ)) F' β' a' w'->Aw β β'->(∀ v,v≠nv->β' v=β v)->K a' w') :
  if Region.wanted o (yielded ops a.tmps)then o.wp P a w K Q else K (a.put o.dst undef) w:=by
 cases hm:Dt o'.op with
 | false =>
  obtain⟨w1,F1,M1,B1,hb,hS,hmp⟩:=h
  exact Lk (λk sp hk=>(hΓ k sp hk).mono hb.stp.sub) hS hop hm hnv hc K Q λa' w' F' β' hS'=>hK a' w' F' β' ⟨w1,F1,M1,B1,hb,hS',hmp.app hS (Oc hm hc) hS'⟩
 | true =>
  exact Jr h.sim hop hc K Q (λdop hdop hdst e hc' e'=>Md h hdop hdst (by rw[<- e];exact hm) hc' K Q λa' w' hS=>hK a' w' F β (by rw[e'];exact hS) (Aw.refl _) λ_ _=>rfl)
   λhd e=>hK _ w F β (by rw[e];exact h.skip hd _) (Aw.refl _) λ_ _=>rfl
end
def S.get (σ:S):Key->D×Ac
 | .e t=>(σ.ge t,none)
 | .o g=>(.top,σ.go g)
theorem S.MR (σ τ:S) (k:Key):σ.same τ k↔σ.get k=τ.get k:=by
 cases k<;>simp[S.same,S.get]
def wrs (u:Out):List Key:=u.we.map (λx=>.e x.1)++u.wo.map (λx=>.o x.1)
theorem Dg (σ:S) (u:Out) (k:Key) (h:k∉wrs u):(σ.app u).get k=σ.get k:=by
 cases k with
 | e t =>
  simp only[S.get,S.ge,S.app,BH]
  cases hl:look u.we t with
  | none=>rfl
  | some d=>exact absurd (List.mem_append_left _ (aAX.2 ⟨_,Bl hl,rfl⟩)) h
 | o g =>
  simp only[S.get,S.go,S.app,BH]
  cases hl:look u.wo g with
  | none=>rfl
  | some d=>exact absurd (List.mem_append_right _ (aAX.2 ⟨_,Bl hl,rfl⟩)) h
theorem DB {α:Type} {l:List (Nat×α)} {t:Nat} (h:∃ x,(t,x)∈l):∃ x,look l t=some x:=by
 obtain⟨x,hx⟩:=h
 cases hl:look l t with
 | none=>exact absurd hx (Ei hl x)
 | some y=>exact⟨y,rfl⟩
theorem EF (σ τ:S) (u:Out) (k:Key) (h:k∈wrs u):(σ.app u).get k=(τ.app u).get k:=by
 cases k with
 | e t =>
  have:∃ d,look u.we t=some d:=by
   rcases aAG.1 h with h|h
   ·obtain⟨p,hp,e⟩:=aAX.1 h
    cases e
    exact DB ⟨p.2,hp⟩
   ·obtain⟨p,_,e⟩:=aAX.1 h
    cases e
  obtain⟨d,hd⟩:=this
  simp[S.get,S.ge,S.app,BH,hd]
 | o g =>
  have:∃ d,look u.wo g=some d:=by
   rcases aAG.1 h with h|h
   ·obtain⟨p,_,e⟩:=aAX.1 h
    cases e
   ·obtain⟨p,hp,e⟩:=aAX.1 h
    cases e
    exact DB ⟨p.2,hp⟩
  obtain⟨d,hd⟩:=this
  simp[S.get,S.go,S.app,BH,hd]
def Bj (L:Nat->Bool):List Out->Nat->S->S
 | [],_,σ=>σ
 | u::r,i,σ=>Bj L r (i+1) (if L i then σ.app u else σ)
theorem DW (L L':Nat->Bool) (k:Key):∀ (us:List Out) (i:Nat) (σ σ':S),(∀ (j:Nat) u,us[j]? =some u->k∈wrs u->L (i+j)=L' (i+j))->σ.get k=σ'.get k->(Bj L us i σ).get k=(Bj L' us i σ').get k
 | [],_,_,_,_,h=>h
 | u::us,i,σ,σ',hL,h=>by
  simp only[Bj]
  refine DW L L' k us (i+1) _ _ (λj v hj hk=>by
   have:=hL (j+1) v (by simpa using hj) hk
   rw[show i+(j+1)=i+1+j by omega]at this
   exact this) ?_
  by_cases hm:k∈wrs u
  ·have h0:=hL 0 u rfl hm
   simp only[aAq]at h0
   rw[<- h0]
   cases L i with
   | true=>simp only[if_true];exact EF _ _ _ _ hm
   | false=>simpa using h
  ·have e1:(if L i=true then σ.app u else σ).get k=σ.get k:=by
    split
    ·exact Dg _ _ _ hm
    ·rfl
   have e2:(if L' i=true then σ'.app u else σ').get k=σ'.get k:=by
    split
    ·exact Dg _ _ _ hm
    ·rfl
   rw[e1,e2,h]
section
variable {N:Nat} {w0:World} {F0:Fz} {M:Nat->Prop} {B0:Bt} {σ:S} {F:Fz} {β:Bt} {a:Act} {w:World} {P:Program}
theorem Sim.congr {σ':S} (h:Sim N w0 F0 M B0 σ F β a w) (hk:∀ k,σ'.get k=σ.get k):Sim N w0 F0 M B0 σ' F β a w:=by
 have he:∀ t,σ'.ge t=σ.ge t:=λt=>by have:=hk (.e t);simpa[S.get]using this
 have ho:∀ g,σ'.go g=σ.go g:=λg=>by have:=hk (.o g);simpa[S.get]using this
 refine{ nam:=h.nam,size:=h.size,defers:=h.defers,env:=λt=>by rw[he];exact h.env t,own:=?_,dist:=?_,sep:=?_,Ab:=(by obtain⟨φ,hφ⟩:=h.Ab;exact⟨φ,hφ.congr ho⟩),frz:=h.frz,fin:=h.fin,step:=h.step }
 ·intro g v o hg;rw[ho]at hg;exact h.own g v o hg
 ·intro g g' v v' o o' L L' b hg hg';rw[ho]at hg hg';exact h.dist g g' v v' o o' L L' b hg hg'
 ·intro g v o L b hg;rw[ho]at hg;exact h.sep g v o L b hg
theorem Az.congr {σ':S} (h:Az N w0 F0 M B0 σ F β a w) (hk:∀ k,σ'.get k=σ.get k):Az N w0 F0 M B0 σ' F β a w:=by
 obtain⟨w1,F1,M1,B1,hb,hS,hm⟩:=h
 have ho:∀ g,σ'.go g=σ.go g:=λg=>by have:=hk (.o g);simpa[S.get]using this
 exact⟨w1,F1,M1,B1,hb,hS.congr hk,hm.sub λg v o hg _=>by rw[<- ho];exact hg⟩
theorem Lh {Γ:Ar} (hΓ:∀ k sp,Γ k=some sp->Bv P F0 (k % 4096) sp) {ops:Array Oper} {Q:Exit->Act->World->Prop} {KD:S->Prop}:∀ (l:List Oper) (i:Nat) (ds:List As),BE P N ops false i l=some ds ->
  ∀ (σ:S) (F:Fz) (β:Bt) (a:Act) (w:World) (nv:Nat),Az N w0 F0 M B0 σ F β a w->(∀ v,nv<=v->β v=none)->Dw.wpOps Γ ds nv σ KD ->
  (∀ τ F' β' a' w',Az N w0 F0 M B0 τ F' β' a' w'->(∀ v,nv+ds.length<=v->β' v=none)->KD τ->Q .normal a' w')->wpList P ops Q l a w
 | [],i,ds,hds,σ,F,β,a,w,nv,h,hf,hw,hQ=>by
  simp only[BE,Option.some.injEq]at hds
  subst hds
  exact wpList_nil (hQ σ F β a w h (by simpa using hf) hw)
 | o::l,i,ds,hds,σ,F,β,a,w,nv,h,hf,hw,hQ=>by
  simp only[BE,aAA,aA]at hds
  obtain⟨o',ho',r,hr,he⟩:=hds
  cases he
  obtain⟨hc,hw'⟩:=hw
  refine wpList_step λK hK=>?_
  refine Eo hΓ h ho' (hf nv (aAL _)) hc K Q λa' w' F' β' hS hb1 hb2=>hK a' w' ?_
  refine Lh hΓ l (i+1) r hr _ F' β' a' w' (nv+1) hS (λv hv=>?_) hw' (λτ F2 β2 a2 w2 h2 hf2 hk=>hQ τ F2 β2 a2 w2 h2 (λv hv=>hf2 v (by simp at hv;omega)) hk)
  rw[hb2 v (by omega)]
  exact hf v (by omega)
def outs (Γ:Ar):List As->Nat->S->List Out
 | [],_,_=>[]
 | o::r,nv,σ=>(At Γ nv o).run σ::outs Γ r (nv+1) (σ.app ((At Γ nv o).run σ))
theorem DC (Γ:Ar):∀ (ds:List As) (nv:Nat) (σ:S) (i:Nat) (L:Nat->Bool),(∀ j,L (i+j)=true) ->
  (outs Γ ds nv σ).length=ds.length/\(∀ K,Dw.wpOps Γ ds nv σ K->K (Bj L (outs Γ ds nv σ) i σ)/\∀ u∈outs Γ ds nv σ,u.c)
 | [],nv,σ,i,L,hL=>⟨rfl,λK hK=>⟨hK,λu hu=>by cases hu⟩⟩
 | o::ds,nv,σ,i,L,hL=>by
  obtain⟨h1,h2⟩:=DC Γ ds (nv+1) (σ.app ((At Γ nv o).run σ)) (i+1) L (λj=>by have:=hL (j+1);rw[show i+(j+1)=i+1+j by omega]at this;exact this)
  refine⟨by simp[outs,h1],λK hK=>?_⟩
  obtain⟨k1,k2⟩:=hK
  obtain⟨k3,k4⟩:=h2 K k2
  have hi:L i=true:=by have:=hL 0;simpa using this
  refine⟨by simpa[outs,Bj,hi]using k3,λu hu=>?_⟩
  simp only[outs,aAx]at hu
  rcases hu with rfl|hu
  ·exact k1
  ·exact k4 u hu
theorem GX (Γ:Ar):∀ (ds:List As) (nv:Nat) (σ:S) (i j:Nat) (o:As),ds[j]? =some o ->
  ∃ u,(outs Γ ds nv σ)[j]? =some u/\u=(At Γ (nv+j) o).run (Bj (λq=>decide (q<i+j)) (outs Γ ds nv σ) i σ) /\
   (CZ Γ ds nv σ)[j]? =some ((At Γ (nv+j) o).rd (Bj (λq=>decide (q<i+j)) (outs Γ ds nv σ) i σ),wrs u,o.after)
 | [],nv,σ,i,j,o,h=>by simp at h
 | o0::ds,nv,σ,i,j,o,h=>by
  rcases j with _|j
  ·simp only[aAH,Option.some.injEq]at h
   subst h
   have hz:∀ (us:List Out) (k:Nat) (τ:S),i<=k->Bj (λq=>decide (q<i+0)) us k τ=τ:=by
    intro us
    induction us with
    | nil=>intro k τ _;rfl
    | cons u us ih =>
     intro k τ hk
     simp only[Bj]
     have:¬ k<i+0:=by omega
     simp only[this,decide_false,aAj,if_false]
     exact ih (k+1) τ (by omega)
   refine⟨_,rfl,?_,?_⟩
   ·rw[hz _ i σ (aAL _)];rfl
   ·rw[hz _ i σ (aAL _)];rfl
  ·simp only[aAI]at h
   obtain⟨u,h1,h2,h3⟩:=GX Γ ds (nv+1) (σ.app ((At Γ nv o0).run σ)) (i+1) j o h
   have e1:i+1+j=i+(j+1):=by omega
   have e2:nv+1+j=nv+(j+1):=by omega
   rw[e1,e2]at h2 h3
   have hi:(decide (i<i+(j+1)))=true:=by simp
   refine⟨u,by simpa[outs]using h1,?_,?_⟩
   ·simp only[outs,Bj,hi,if_true]
    exact h2
   ·simp only[outs,Bj,hi,if_true,CZ,aAI]
    exact h3
inductive Dep (L:List (List Nat)):Nat->Nat->Prop
 | one {j e:Nat} {a:List Nat} (h:L[j]? =some a) (he:e∈a):Dep L j e
 | more {j e i:Nat} {a:List Nat} (h:L[j]? =some a) (he:e∈a) (hd:Dep L e i):Dep L j i
theorem JX (L:List (List Nat)):∀ (r acc:List (List Nat)) (pre:List (List Nat)),L=pre++r->pre.length=acc.length->(∀ j i,i∈acc.getD j []->Dep L j i)->∀ j i,i∈(MB acc r).getD j []->Dep L j i
 | [],acc,_,_,_,h=>h
 | a::r,acc,pre,hL,hlen,h=>by
  refine JX L r _ (pre++[a]) (by simp[hL]) (by simp[hlen]) (λj i hi=>?_)
  have ha:L[acc.length]? =some a:=by rw[hL,<- hlen];simp
  rcases aBG j acc.length with hj|hj|hj
  ·rw[aAJ,aAP hj,<- aAJ]at hi
   exact h j i hi
  ·subst hj
   rw[aAJ,aAN (aAL _),Nat.sub_self]at hi
   simp only[aAH,aAC,List.mem_eraseDups,aAG,List.mem_flatMap]at hi
   rcases hi with hi|⟨e,he,hi⟩
   ·exact .one ha hi
   ·exact .more ha he (h e i hi)
  ·rw[aAJ,aAN (by omega)]at hi
   have:j-acc.length=(j-acc.length-1)+1:=by omega
   rw[this,aAI]at hi
   simp at hi
theorem Gs {f:List (List Key×List Key×List Nat)} (h:EB f=true) {i j:Nat} {x y:List Key×List Key×List Nat} (hij:i<j) (hx:f[i]? =some x) (hy:f[j]? =some y) (hc:AaR x y=true):Dep (f.map λx=>x.2.2) j i:=by
 unfold EB JZ at h
 rw[aAS]at h
 have hj:j<f.length:=(aAF.1 hy).1
 have h1:=h j (aAg.2 hj)
 rw[aAS]at h1
 have h2:=h1 i (aAg.2 hij)
 have ex:f.getD i ([],[],[])=x:=by rw[aAJ,hx];rfl
 have ey:f.getD j ([],[],[])=y:=by rw[aAJ,hy];rfl
 rw[ex,ey,hc]at h2
 exact JX _ _ [] [] rfl rfl (λj i hi=>by simp at hi) j i (by simpa using h2)
theorem Ib {a b:List Key} {k:Key} (h1:k∈a) (h2:k∈b):meet a b=true:=by
 simp only[meet,List.any_eq_true]
 exact⟨k,h1,by simpa using h2⟩
theorem DI {ops:Array Oper} {draw:Bool}:∀ (l:List Oper) (i:Nat) (ds:List As),BE P N ops draw i l=some ds->ds.length=l.length/\∀ (j:Nat) o,l[j]? =some o->∃ o',ds[j]? =some o'/\Cm P N ops draw (i+j) o=some o'
 | [],i,ds,h=>by
  simp only[BE,Option.some.injEq]at h
  subst h
  exact⟨rfl,λj o h=>by simp at h⟩
 | o0::l,i,ds,h=>by
  simp only[BE,aAA,aA]at h
  obtain⟨o',ho',r,hr,he⟩:=h
  cases he
  obtain⟨k1,k2⟩:=DI l (i+1) r hr
  refine⟨by simp[k1],λj o hj=>?_⟩
  rcases j with _|j
  ·simp only[aAH,Option.some.injEq]at hj
   subst hj
   exact⟨o',rfl,ho'⟩
  ·simp only[aAI]at hj ⊢
   obtain⟨o'',h1,h2⟩:=k2 j o hj
   exact⟨o'',h1,by rw[show i+(j+1)=i+1+j by omega];exact h2⟩
theorem Dn {ops:Array Oper} {draw:Bool} {i:Nat} {o:Oper} {o':As} (h:Cm P N ops draw i o=some o'):o'.after=AO draw o/\∀ e∈AO draw o,e<i:=by
 unfold Cm at h
 simp only[aA]at h
 obtain⟨_,_,_,_,he⟩:=h
 split at he
 ·rename_i hc
  cases he
  simp only[aAY,aAS,decide_eq_true_eq]at hc
  exact⟨rfl,hc.2⟩
 ·cases he
theorem Hq (p:Nat->Bool) (i:Nat):∀ l:List Nat,l.Nodup->i∈l->p i=true->l.countP p=l.countP (λj=>p j&&j != i)+1
 | [],_,h,_=>by cases h
 | x::l,hn,h,hp=>by
  simp only[List.nodup_cons]at hn
  by_cases hx:x=i
  ·subst hx
   have:l.countP p=l.countP (λj=>p j&&j != x):=by
    apply List.countP_congr
    intro y hy
    have:y≠x:=λe=>hn.1 (by rw[<- e];exact hy)
    simp[this]
   simp[hp,this]
  ·have hm:i∈l:=by
    rcases aAx.1 h with h|h
    ·exact absurd h.symm hx
    ·exact h
   have ih:=Hq p i l hn.2 hm hp
   simp only[List.countP_cons,ih]
   have:(x != i)=true:=by simpa using hx
   simp only[this,Bool.and_true]
   omega
end
section
variable {N:Nat} {w0:World} {F0:Fz} {M:Nat->Prop} {B0:Bt} {P:Program}
theorem Ir {Γ:Ar} (hΓ:∀ k sp,Γ k=some sp->Bv P F0 (k % 4096) sp) {ops:Array Oper} {ds:List As} (hds:BE P N ops true 0 ops.toList=some ds) {σ:S} {n:Nat} {KD:S->Prop} (hw:Dw.wpOps Γ ds n σ KD) (hdraw:EB (CZ Γ ds n σ)=true)
  {Q:Exit->Act->World->Prop} (hQ:∀ τ F' β' a' w',Az N w0 F0 M B0 τ F' β' a' w'->(∀ v,n+ds.length<=v->β' v=none)->(∃ τ',KD τ'/\∀ k,τ'.get k=τ.get k)->Q .normal a' w') :
  ∀ (fuel:Nat) (listed:Array Bool) (F:Fz) (β:Bt) (a:Act) (w:World),listed.size=ops.size->(aBP ops.size).countP (λi=>!listed.getD i true)=fuel ->
   (∀ (j:Nat) o,ops[j]? =some o->listed.getD j true=true->∀ e∈AO true o,listed.getD e true=true) ->
   (∀ v,n<=v->β v≠none->v-n<ops.size/\listed.getD (v-n) true=true) ->
   Az N w0 F0 M B0 (Bj (λi=>listed.getD i true) (outs Γ ds n σ) 0 σ) F β a w->wpAny P .any ops Q fuel listed a w:=by
 obtain⟨hlen,hget⟩:=DI ops.toList 0 ds hds
 simp only[Array.length_toList]at hlen
 have hall:=(DC Γ ds n σ 0 (λ_=>true) (λ_=>rfl)).2 KD hw
 have hol:=(DC Γ ds n σ 0 (λ_=>true) (λ_=>rfl)).1
 have hready:∀ (listed:Array Bool) i,i∈Region.ready .any ops listed↔i<ops.size/\listed.getD i true=false/\∃ o,ops[i]? =some o/\∀ e∈AO true o,listed.getD e false=true:=by
  intro listed i
  simp only[Region.ready,aAl,aAg,aAY,Bool.not_eq_true']
  constructor
  ·rintro⟨h1,h2,h3⟩
   refine⟨h1,h2,ops[i],aAD h1,λe he=>?_⟩
   rw[aAD h1]at h3
   simp only[aBC,aAC,aAs]at h3
   simp only[AO,if_true,aAX,aAl]at he
   obtain⟨ed,⟨he1,he2⟩,rfl⟩:=he
   have:=h3 ed (by simpa using he1)
   rw[he2]at this
   simpa using this
  ·rintro⟨h1,h2,o,ho,h3⟩
   refine⟨h1,h2,?_⟩
   rw[ho]
   simp only[aBC,aAC,aAs]
   intro ed hed
   cases hb:Region.binds .any ed with
   | false=>rfl
   | true =>
    have:=h3 ed.on (by
     simp only[AO,if_true,aAX,aAl]
     exact⟨ed,⟨by simpa using hed,hb⟩,rfl⟩)
    simpa using this
 have hafter:∀ (j:Nat) o,ops[j]? =some o->∀ e∈AO true o,e<j:=by
  intro j o ho
  obtain⟨o',_,h2⟩:=hget j o (by simpa using ho)
  have:=(Dn h2).2
  simpa using this
 have hnone:∀ (listed:Array Bool),listed.size=ops.size->Region.ready .any ops listed=[]->∀ i,i<ops.size->listed.getD i true=true:=by
  intro listed hsz hr i
  induction i using Nat.strongRecOn with
  | _ i ih =>
   intro hi
   cases hli:listed.getD i true with
   | true=>rfl
   | false =>
    exfalso
    have:i∈Region.ready .any ops listed:=by
     rw[hready]
     refine⟨hi,hli,ops[i],aAD hi,λe he=>?_⟩
     have hlt:=hafter i _ (aAD hi) e he
     have:=ih e hlt (by omega)
     have hel:e<listed.size:=by omega
     simpa[hel]using this
    rw[hr]at this
    cases this
 have hfin:∀ (listed:Array Bool) (F:Fz) (β:Bt) (a:Act) (w:World),listed.size=ops.size->(∀ i,i<ops.size->listed.getD i true=true)->(∀ v,n<=v->β v≠none->v-n<ops.size/\listed.getD (v-n) true=true) ->
   Az N w0 F0 M B0 (Bj (λi=>listed.getD i true) (outs Γ ds n σ) 0 σ) F β a w->Q .normal a w:=by
  intro listed F β a w hsz hl hfr hS
  refine hQ _ F β a w hS (λv hv=>?_) ⟨_,hall.1,λk=>?_⟩
  ·cases hb:β v with
   | none=>rfl
   | some L =>
    have:=(hfr v (by omega) (by rw[hb];simp)).1
    omega
  ·refine DW _ _ k _ 0 σ σ (λj u hj _=>?_) rfl
   have hj':j<ops.size:=by rw[<- hlen,<- hol];exact(aAF.1 hj).1
   simp only[aAa]
   exact(hl j hj').symm
 intro fuel
 induction fuel with
 | zero =>
  intro listed F β a w hsz hcount hclosed hfr hS
  have hl:∀ i,i<ops.size->listed.getD i true=true:=by
   intro i hi
   rw[List.countP_eq_zero]at hcount
   have:=hcount i (aAg.2 hi)
   simpa using this
  refine⟨?_,hfin listed F β a w hsz hl hfr hS⟩
  rw[aAW]
  intro i hi
  obtain⟨h1,h2,_⟩:=(hready listed i).1 hi
  rw[hl i h1]at h2
  cases h2
 | succ fuel ih =>
  intro listed F β a w hsz hcount hclosed hfr hS
  refine⟨λhr=>hfin listed F β a w hsz (hnone listed hsz hr) hfr hS,λi hi=>?_⟩
  obtain⟨hi1,hi2,o,ho,hdone⟩:=(hready listed i).1 hi
  obtain⟨o',ho1,ho2⟩:=hget i o (by simpa using ho)
  simp only[aAa]at ho2
  obtain⟨haf,_⟩:=Dn ho2
  obtain⟨u,u1,u2,u3⟩:=GX Γ ds n σ 0 i o' ho1
  simp only[aAa]at u2 u3
  have hdone':∀ e∈o'.after,listed.getD e true=true:=by
   intro e he
   rw[haf]at he
   have h1:=hdone e he
   have hel:e<listed.size:=by
    have:=hafter i o ho e he
    omega
   simpa[hel]using h1
  have hother:∀ (j:Nat) v,(outs Γ ds n σ)[j]? =some v->∃ oj,ops[j]? =some oj/\∃ oj',ds[j]? =some oj'/\oj'.after=AO true oj/\∃ rd,(CZ Γ ds n σ)[j]? =some (rd,wrs v,oj'.after):=by
   intro j v hv
   have hj:j<ops.size:=by rw[<- hlen,<- hol];exact(aAF.1 hv).1
   obtain⟨oj',q1,q2⟩:=hget j ops[j] (by simp[hj])
   obtain⟨v',v1,_,v3⟩:=GX Γ ds n σ 0 j oj' q1
   rw[hv]at v1;cases v1
   exact⟨ops[j],aAD hj,oj',q1,(Dn q2).1,_,v3⟩
  have hfeet:∀ (j:Nat) a,((CZ Γ ds n σ).map λx=>x.2.2)[j]? =some a->∃ oj,ops[j]? =some oj/\a=AO true oj:=by
   intro j a hja
   rw[aAK,aAM]at hja
   obtain⟨x,hx,rfl⟩:=hja
   have hfl:∀ (ds:List As) (nv:Nat) (σ:S),(CZ Γ ds nv σ).length=(outs Γ ds nv σ).length:=by
    intro ds
    induction ds with
    | nil=>intro _ _;rfl
    | cons o r ih=>intro nv σ;simp[CZ,outs,ih]
   have hjl:j<(outs Γ ds n σ).length:=by rw[<- hfl];exact(aAF.1 hx).1
   obtain⟨oj,p1,oj',_,p3,rd,p4⟩:=hother j _ (aAQ hjl)
   rw[hx]at p4
   cases p4
   exact⟨oj,p1,p3⟩
  have hdep:∀ (j q:Nat),Dep ((CZ Γ ds n σ).map λx=>x.2.2) j q->listed.getD j true=true->listed.getD q true=true:=by
   intro j q hd
   induction hd with
   | one h he =>
    intro hl
    obtain⟨oj,p1,rfl⟩:=hfeet _ _ h
    exact hclosed _ oj p1 hl _ he
   | more h he _ ih =>
    intro hl
    obtain⟨oj,p1,rfl⟩:=hfeet _ _ h
    exact ih (hclosed _ oj p1 hl _ he)
  have hlater:∀ (j:Nat) v (k:Key),i<j->(outs Γ ds n σ)[j]? =some v->k∈wrs v->(k∈(At Γ (n+i) o').rd (Bj (λq=>decide (q<i)) (outs Γ ds n σ) 0 σ)\/k∈wrs u)->listed.getD j true=false:=by
   intro j v k hij hv hk hk'
   obtain⟨oj,p1,oj',_,p3,rd,p4⟩:=hother j v hv
   have hmem:=Gs hdraw hij u3 p4 (by
    unfold AaR
    rcases hk' with hk'|hk'
    ·rw[Ib hk' hk];simp
    ·rw[Ib hk' hk];simp)
   cases hlj:listed.getD j true with
   | false=>rfl
   | true =>
    have:=hdep j i hmem hlj
    rw[hi2]at this;cases this
  have hsame:∀ k∈(At Γ (n+i) o').rd (Bj (λq=>decide (q<i)) (outs Γ ds n σ) 0 σ),(Bj (λq=>decide (q<i)) (outs Γ ds n σ) 0 σ).same (Bj (λq=>listed.getD q true) (outs Γ ds n σ) 0 σ) k:=by
   intro k hk
   rw[S.MR]
   refine DW _ _ k _ 0 σ σ (λj v hv hkv=>?_) rfl
   simp only[aAa]
   rcases aBG j i with hji|hji|hji
   ·have hlj:listed.getD j true=true:=by
     obtain⟨oj,p1,oj',_,_,rd,p4⟩:=hother j v hv
     have hmem:=Gs hdraw hji p4 u3 (by unfold AaR;rw[Ib hkv hk];simp)
     cases hmem with
     | one h he =>
      rw[aAK,u3]at h
      cases h
      exact hdone' j he
     | more h he hd =>
      rw[aAK,u3]at h
      cases h
      exact hdep _ j hd (hdone' _ he)
    rw[hlj];simp[hji]
   ·subst hji;rw[hi2];simp
   ·rw[hlater j v k hji hv hkv (.inl hk)]
    have:¬ j<i:=by omega
    simp[this]
  obtain⟨hrun,_⟩:=R.local _ _ _ hsame
  have hu:(At Γ (n+i) o').run (Bj (λq=>listed.getD q true) (outs Γ ds n σ) 0 σ)=u:=by rw[hrun,<- u2]
  have hβi:β (n+i)=none:=by
   cases hb:β (n+i)with
   | none=>rfl
   | some L =>
    have:=(hfr (n+i) (by omega) (by rw[hb];simp)).2
    rw[show n+i-n=i by omega,hi2]at this
    cases this
  have huc:u.c:=hall.2 u (aAB u1)
  unfold wpOp
  rw[ho]
  simp only
  have key:=Eo hΓ hS ho2 hβi (by rw[hu];exact huc) (wpAny P .any ops Q fuel (listed.setIfInBounds i true)) Q (λa' w' F' β' hS' hb1 hb2=>by
   have hsetne:∀ j,j≠i->(listed.setIfInBounds i true).getD j true=listed.getD j true:=λj hj=>getD_set_ne true (Ne.symm hj)
   have hset:(listed.setIfInBounds i true).getD i true=true:=by
    rw[aAE,Array.getElem?_setIfInBounds_self_of_lt (by omega)];rfl
   refine ih _ F' β' a' w' (by simpa using hsz) ?_ ?_ ?_ (hS'.congr λk=>?_)
   ·have hcl:=Hq (λj=>!listed.getD j true) i (aBP ops.size) List.nodup_range (aAg.2 hi1) (by rw[hi2];rfl)
    rw[hcount]at hcl
    have:(aBP ops.size).countP (λj=>!(listed.setIfInBounds i true).getD j true)=(aBP ops.size).countP (λj=>(!listed.getD j true)&&j != i):=by
     apply List.countP_congr
     intro j _
     by_cases hj:j=i
     ·subst hj;rw[hset];simp
     ·rw[hsetne j hj];simp[hj]
    omega
   ·intro j oj hoj hlj e he
    by_cases hj:j=i
    ·subst hj
     rw[ho]at hoj;cases hoj
     have h1:=hdone' e (by rw[haf];exact he)
     by_cases hei:e=j
     ·subst hei;exact hset
     ·rw[hsetne e hei];exact h1
    ·rw[hsetne j hj]at hlj
     have h1:=hclosed j oj hoj hlj e he
     by_cases hei:e=i
     ·subst hei;exact hset
     ·rw[hsetne e hei];exact h1
   ·intro v hv hb
    by_cases hvi:v=n+i
    ·subst hvi
     rw[show n+i-n=i by omega]
     exact⟨hi1,hset⟩
    ·rw[hb2 v hvi]at hb
     obtain⟨h1,h2⟩:=hfr v hv hb
     refine⟨h1,?_⟩
     rw[hsetne _ (by omega)]
     exact h2
   ·rw[hu]
    by_cases hk:k∈wrs u
    ·
     have h2:∀ (us:List Out) (i0:Nat) (τ τ':S) (L:Nat->Bool) (q:Nat),us[q]? =some u->L (i0+q)=true->(∀ (j:Nat) v,q<j->us[j]? =some v->k∈wrs v->L (i0+j)=false)->(Bj L us i0 τ).get k=(τ'.app u).get k:=by
      intro us
      induction us with
      | nil=>intro i0 τ τ' L q hq;simp at hq
      | cons v us ihu =>
       intro i0 τ τ' L q hq hL hlast
       rcases q with _|q
       ·simp only[aAH,Option.some.injEq]at hq
        subst hq
        simp only[aAq]at hL
        simp only[Bj,hL,if_true]
        have:=DW L (λ_=>false) k us (i0+1) (τ.app v) (τ.app v) (λj v' hj hk'=>by
         have:=hlast (j+1) v' (by omega) (by simpa using hj) hk'
         rw[show i0+(j+1)=i0+1+j by omega]at this
         exact this) rfl
        rw[this]
        have hid:∀ (us:List Out) (i:Nat) (τ:S),Bj (λ_=>false) us i τ=τ:=by
         intro us
         induction us with
         | nil=>intro i τ;rfl
         | cons v us ih=>intro i τ;simp only[Bj,aAj,if_false];exact ih _ _
        rw[hid]
        exact EF _ _ _ _ hk
       ·simp only[aAI]at hq
        simp only[Bj]
        exact ihu (i0+1) _ τ' L q hq (by rw[show i0+1+q=i0+(q+1)by omega];exact hL) (λj v' hj hv' hk'=>by
         rw[show i0+1+j=i0+(j+1)by omega]
         exact hlast (j+1) v' (by omega) (by simpa using hv') hk')
     exact h2 _ 0 σ (Bj (λq=>listed.getD q true) (outs Γ ds n σ) 0 σ) _ i u1 (by rw[aAa];exact hset) (λj v hj hv hk'=>by
      simp only[aAa]
      rw[hsetne j (by omega)]
      exact hlater j v k hj hv hk' (.inr hk))
    ·rw[Dg _ _ _ hk]
     refine DW _ _ k _ 0 σ σ (λj v hv hkv=>?_) rfl
     simp only[aAa]
     refine hsetne j ?_
     rintro rfl
     rw[u1]at hv;cases hv
     exact hk hkv)
  split
  ·rename_i hwant
   rw[if_pos hwant]at key
   exact .inl key
  ·rename_i hwant
   rw[if_neg hwant]at key
   exact key
theorem JI {o:Oper} {a:Act} {w:World} {K:Act->World->Prop} {Q Q':Exit->Act->World->Prop} (h:∀ e a w,e≠Exit.normal->Q' e a w->Q e a w) (hh:o.wp P a w K Q'):o.wp P a w K Q:=by
 unfold Oper.wp at *
 generalize(execOp a.eval o).run P w=r at *
 cases r with
 | ok n w' =>
  cases n<;>simp only[Oper.upon]at hh ⊢ <;>first|exact hh|exact Calls.mono hh λe w'' he=>by cases e<;>first|exact he|exact h _ _ _ (by simp) he|exact he.elim λa he=>he.elim λw he=>⟨a,w,h _ _ _ (by simp) he⟩
 | halt x w'=>cases x<;>simp only[Oper.upon]at hh ⊢ <;>first|exact hh|exact h _ _ _ (by simp) hh
theorem BI {ops:Array Oper} (listed:Array Bool) (i:Nat):i∈Region.ready .any ops listed↔i<ops.size/\listed.getD i true=false/\∃ o,ops[i]? =some o/\∀ e∈AO true o,listed.getD e false=true:=by
 simp only[Region.ready,aAl,aAg,aAY,Bool.not_eq_true']
 constructor
 ·rintro⟨h1,h2,h3⟩
  refine⟨h1,h2,ops[i],aAD h1,λe he=>?_⟩
  rw[aAD h1]at h3
  simp only[aBC,aAC,aAs]at h3
  simp only[AO,if_true,aAX,aAl]at he
  obtain⟨ed,⟨he1,he2⟩,rfl⟩:=he
  have:=h3 ed (by simpa using he1)
  rw[he2]at this
  simpa using this
 ·rintro⟨h1,h2,o,ho,h3⟩
  refine⟨h1,h2,?_⟩
  rw[ho]
  simp only[aBC,aAC,aAs]
  intro ed hed
  cases hb:Region.binds .any ed with
  | false=>rfl
  | true =>
   have:=h3 ed.on (by
    simp only[AO,if_true,aAX,aAl]
    exact⟨ed,⟨by simpa using hed,hb⟩,rfl⟩)
   simpa using this
theorem Iu {init:Array Oper} {listed:Array Bool} (hc:∀ (j:Nat) o,init[j]? =some o->listed.getD j false=true->∀ e∈AO true o,listed.getD e false=true) :
  ∀ (n:Nat) (A:List Nat),(∀ e∈A,listed.getD e false=true)->Ez init n A=true->∀ j,j<n->listed.getD j false=true
 | 0,_,_,_,j,hj=>by omega
 | n+1,A,hA,h,j,hj=>by
  simp only[Ez,aAY,List.contains_iff_mem]at h
  have hn:=hA n h.1
  by_cases e:j=n
  ·subst e;exact hn
  ·refine Iu hc n _ (λe he=>?_) h.2 j (by omega)
   rcases aAG.1 he with he|he
   ·exact hA e he
   ·cases ho:init[n]? with
    | none=>rw[ho]at he;cases he
    | some o=>rw[ho]at he;exact hc n o ho hn e he
theorem MC {init:Array Oper} {l:Oper} {Q Q':Exit->Act->World->Prop} (hg:∀ o∈(init.push l).toList,o.guard=none) (haf:∀ (j:Nat) o,init[j]? =some o->∀ e∈AO true o,e<j) (hcov:Ez init init.size (AO true l)=true) (hl:∀ e∈AO true l,e<init.size)
  (hex:∀ e a w,e≠Exit.normal->Q' e a w->Q e a w) (hQ:∀ a w,Q' .normal a w->l.wp P a w (Q .normal) Q\/(l.asks P a w/\LetsOut Q)) :
  ∀ (fuel:Nat) (listed:Array Bool) (a:Act) (w:World),listed.size=init.size->(∀ (j:Nat) o,init[j]? =some o->listed.getD j false=true->∀ e∈AO true o,listed.getD e false=true) ->
   wpAny P .any init Q' fuel listed a w->wpAny P .any (init.push l) Q (fuel+1) (listed.push false) a w:=by
 have hop:∀ i,i<init.size->(init.push l)[i]? =init[i]?:=λi hi=>by rw[aAw hi,aAD hi]
 have hopl:(init.push l)[init.size]? =some l:=by simp
 have hL:∀ (listed:Array Bool) (i:Nat) (b:Bool),listed.size=init.size->i<init.size->(listed.push false).getD i b=listed.getD i b:=λlisted i b hs hi=>by
  simp only[aAE,aAw (show i<listed.size by omega),aAD (show i<listed.size by omega)]
 have hLm:∀ (listed:Array Bool) (b:Bool),listed.size=init.size->(listed.push false).getD init.size b=false:=λlisted b hs=>by
  rw[<- hs];simp[aAE]
 have hft:∀ (listed:Array Bool) (i:Nat),listed.size=init.size->i<init.size->(listed.getD i true=listed.getD i false):=λlisted i hs hi=>by
  simp[aAE,aAD (show i<listed.size by omega)]
 have key1:∀ (listed:Array Bool) (i:Nat),listed.size=init.size->i<init.size->(i∈Region.ready .any (init.push l) (listed.push false)↔i∈Region.ready .any init listed):=by
  intro listed i hs hi
  rw[BI,BI,hL listed i true hs hi,hop i hi]
  simp only[aBL]
  refine⟨λ⟨_,h2,o,ho,h3⟩=>⟨hi,h2,o,ho,λe he=>?_⟩,λ⟨_,h2,o,ho,h3⟩=>⟨by omega,h2,o,ho,λe he=>?_⟩⟩
  ·rw[<- hL listed e false hs (by have:=haf i o ho e he;omega)];exact h3 e he
  ·rw[hL listed e false hs (by have:=haf i o ho e he;omega)];exact h3 e he
 have key2:∀ (listed:Array Bool),listed.size=init.size->(∀ (j:Nat) o,init[j]? =some o->listed.getD j false=true->∀ e∈AO true o,listed.getD e false=true)->init.size∈Region.ready .any (init.push l) (listed.push false)->∀ j,j<init.size->listed.getD j false=true:=by
  intro listed hs hc hm
  rw[BI]at hm
  obtain⟨_,_,o,ho,h3⟩:=hm
  rw[hopl]at ho;cases ho
  exact Iu hc _ _ (λe he=>by rw[<- hL listed e false hs (hl e he)];exact h3 e he) hcov
 have allr:∀ (listed:Array Bool),listed.size=init.size->(∀ j,j<init.size->listed.getD j false=true)->Region.ready .any init listed=[]:=by
  intro listed hs h
  rw[aAW]
  intro i hi
  rw[BI]at hi
  obtain⟨h1,h2,_⟩:=hi
  rw[hft listed i hs h1,h i h1]at h2
  cases h2
 have never:∀ (listed:Array Bool),listed.size=init.size->Region.ready .any (init.push l) (listed.push false)≠[]:=by
  intro listed hs hr
  have hall:∀ i,i<init.size->listed.getD i true=true:=by
   intro i
   induction i using Nat.strongRecOn with
   | _ i ih =>
    intro hi
    cases hli:listed.getD i true with
    | true=>rfl
    | false =>
     exfalso
     have:i∈Region.ready .any (init.push l) (listed.push false):=by
      rw[key1 listed i hs hi,BI]
      refine⟨hi,hli,init[i],aAD hi,λe he=>?_⟩
      have hlt:=haf i _ (aAD hi) e he
      rw[<- hft listed e hs (by omega)]
      exact ih e hlt (by omega)
     rw[hr]at this
     cases this
  have:init.size∈Region.ready .any (init.push l) (listed.push false):=by
   rw[BI]
   refine⟨by simp,hLm listed true hs,l,hopl,λe he=>?_⟩
   rw[hL listed e false hs (hl e he),<- hft listed e hs (hl e he)]
   exact hall e (hl e he)
  rw[hr]at this
  cases this
 have lastStep:∀ (k:Nat) (listed:Array Bool) (a:Act) (w:World),listed.size=init.size->(∀ j,j<init.size->listed.getD j false=true)->Q' .normal a w ->
   wpOp P (init.push l) Q init.size (wpAny P .any (init.push l) Q k ((listed.push false).setIfInBounds init.size true)) a w:=by
  intro k listed a w hs hall hq
  have hr:Region.ready .any (init.push l) ((listed.push false).setIfInBounds init.size true)=[]:=by
   rw[aAW]
   intro i hi
   rw[BI]at hi
   obtain⟨h1,h2,_⟩:=hi
   simp only[aBL]at h1
   by_cases e:i=init.size
   ·subst e
    rw[<- hs]at h2
    simp[aAE]at h2
   ·have h3:((listed.push false).setIfInBounds init.size true).getD i true=listed.getD i true:=by
     simp only[aAE,aAZ,if_neg (Ne.symm e),aAw (show i<listed.size by omega),aAD (show i<listed.size by omega)]
    rw[h3,hft listed i hs (by omega),hall i (by omega)]at h2
    cases h2
  unfold wpOp
  rw[hopl]
  have hgl:l.guard=none:=hg l (by simp)
  have hw:Region.wanted l (yielded (init.push l) a.tmps)=true:=by simp[Region.wanted,hgl]
  simp only[hw,if_true]
  refine(hQ a w hq).imp (Oper.wp_mono λa w hq=>?_) id
  cases k with
  | zero=>exact⟨hr,hq⟩
  | succ k=>exact⟨λ_=>hq,λi hi=>by rw[hr]at hi;cases hi⟩
 intro fuel
 induction fuel with
 | zero =>
  intro listed a w hs hc ⟨h1,h2⟩
  refine⟨λe=>(never listed hs e).elim,λi hi=>?_⟩
  have hi':i<init.size+1:=by have:=((BI _ _).1 hi).1;simpa using this
  by_cases e:i=init.size
  ·subst e
   exact lastStep 0 listed a w hs (key2 listed hs hc hi) h2
  ·rw[key1 listed i hs (by omega),h1]at hi
   cases hi
 | succ fuel ih =>
  intro listed a w hs hc ⟨h1,h2⟩
  refine⟨λe=>(never listed hs e).elim,λi hi=>?_⟩
  have hi':i<init.size+1:=by have:=((BI _ _).1 hi).1;simpa using this
  by_cases e:i=init.size
  ·subst e
   have hall:=key2 listed hs hc hi
   exact lastStep _ listed a w hs hall (h1 (allr listed hs hall))
  ·have hlt:i<init.size:=by omega
   have hr:=(key1 listed i hs hlt).1 hi
   have hk:=h2 i hr
   obtain⟨_,hli,o,ho,hdone⟩:=(BI _ _).1 hr
   have hset:(listed.push false).setIfInBounds i true=(listed.setIfInBounds i true).push false:=by
    apply aAT
    simp only[Array.toList_setIfInBounds,Array.toList_push]
    rw[List.set_append_left _ _ (by simpa using(show i<listed.size by omega))]
   have hc':∀ (j:Nat) o,init[j]? =some o->(listed.setIfInBounds i true).getD j false=true->∀ e∈AO true o,(listed.setIfInBounds i true).getD e false=true:=by
    intro j oj hj hjl e he
    have hej:=haf j oj hj e he
    have up:listed.getD e false=true->(listed.setIfInBounds i true).getD e false=true:=λh=>by
     by_cases q:i=e
     ·subst q;simp[aAE,show i<listed.size by omega]
     ·simpa[aAE,aAZ,q]using h
    by_cases q:i=j
    ·subst q
     rw[ho]at hj;cases hj
     exact up (hdone e he)
    ·refine up (hc j oj hj ?_ e he)
     simpa[aAE,aAZ,q]using hjl
   have hgo:o.guard=none:=hg o (by
    have:=Array.mem_of_getElem? ho
    simp[this])
   unfold wpOp at hk ⊢
   rw[hop i hlt]
   rw[ho]at hk ⊢
   simp only[Region.wanted,hgo,if_true]at hk ⊢
   rw[hset]
   refine hk.imp (λhk=>JI hex (Oper.wp_mono (λa w hk=>ih _ a w (by simpa using hs) hc' hk) hk)) λhk=>⟨hk.1,?_⟩
   obtain⟨a',w',h⟩:=hk.2
   exact⟨a',w',hex _ _ _ (by simp) h⟩
end
theorem BP (g g':Nat):∀ l:List D,Ha g g' l=l.map (ren g g')
 | []=>rfl
 | d::r=>by simp[Ha,BP g g' r]
theorem Bq (g v:Nat) (z:D):∀ l:List D,GP g v z l=l.map (frp g v z)
 | []=>rfl
 | d::r=>by simp[GP,Bq g v z r]
section
variable {N:Nat} {w0:World} {F0:Fz} {M:Nat->Prop} {B0:Bt} {σ:S} {F:Fz} {β:Bt} {a:Act} {w:World}
theorem NT (g g':Nat) {d:D} {x:Value} (h:Fro F d x):Fro F (ren g g' d) x:=by
 have key:∀ (cs:List D) (vs:List Value),(∀ (j:Nat) c v,cs[j]? =some c->vs[j]? =some v->Fro F (ren g g' c) v)->∀ (j:Nat) c v,(Ha g g' cs)[j]? =some c->vs[j]? =some v->Fro F c v:=by
  intro cs vs h j c v hc hv
  rw[BP,aAK,aAM]at hc
  obtain⟨c',hc',rfl⟩:=hc
  exact h j c' v hc' hv
 induction h with
 | agg cs vs hl h1 _ ih=>exact .agg _ vs (by simpa[BP]using hl) h1 (key cs vs ih)
 | clo f cs vs hl _ ih=>exact .clo f _ vs (by simpa[BP]using hl) (key cs vs ih)
 | tup cs vs hl _ ih=>exact .tup _ vs (by simpa[BP]using hl) (key cs vs ih)
 | top v=>exact .top v
 | row s ty es v=>exact .row s ty es v
 | hole nm u n v=>exact .hole nm u n v
 | int k n=>exact .int k n
 | bool b=>exact .bool b
 | str s=>exact .str s
 | nils=>exact .nils
 | nilf=>exact .nilf
 | ifc t d v h _=>exact .ifc t d v h
 | nilp=>exact .nilp
 | sl0 a c=>exact .sl0 a c
 | sl es b o c s vf hc hs hF h1 h _=>exact .sl es b o c s vf hc hs hF h1 h
 | fptr e b o off vf hF h1 h _=>exact .fptr e b o off vf hF h1 h
theorem Kp (g g':Nat) {d:D} {x:Value} (h:Ref F β d x):Ref F β (ren g g' d) x:=by
 cases d<;>first|exact h|exact Ref.Af (NT g g' h)
theorem AW (g g':Nat) {d:D} {x:Value} (h:Cel F β d x):Cel F β (ren g g' d) x:=by
 by_cases hcl:∃ f cs,d= .clo f cs
 case neg =>
  have h':Ref F β d x:=by cases d<;>first|exact h|exact(hcl ⟨_,_,rfl⟩).elim
  exact Cel.CL (Kp g g' h')
 obtain⟨f,cs,rfl⟩:=hcl
 obtain⟨vs,rfl,hl,hv⟩:=h
 refine⟨vs,rfl,by simpa[BP]using hl,λj c v hc hv'=>?_⟩
 rw[BP,aAK,aAM]at hc
 obtain⟨c',hc',rfl⟩:=hc
 exact Kp g g' (hv j c' v hc' hv')
theorem Bc (g g':Nat) {d:D} {x:Value} (h:Val F β d x):Val F β (ren g g' d) x:=by
 cases d with
 | agg cs =>
  obtain⟨vs,rfl,hl,h1,hv⟩:=h
  refine⟨vs,rfl,by simpa[BP]using hl,h1,λj c v' hc hv'=>?_⟩
  rw[BP,aAK,aAM]at hc
  obtain⟨c',hc',rfl⟩:=hc
  exact AW g g' (hv j c' v' hc' hv')
 | tup cs =>
  obtain⟨vs,rfl,hl,hv⟩:=h
  refine⟨vs,rfl,by simpa[BP]using hl,λj c v' hc hv'=>?_⟩
  rw[BP,aAK,aAM]at hc
  obtain⟨c',hc',rfl⟩:=hc
  exact AW g g' (hv j c' v' hc' hv')
 | top =>exact Val.Ap (AW g g' (show Cel F β (.top ) x from h))
 | int x0 x1=>exact Val.Ap (AW g g' (show Cel F β (.int x0 x1) x from h))
 | bool x0=>exact Val.Ap (AW g g' (show Cel F β (.bool x0) x from h))
 | str x0=>exact Val.Ap (AW g g' (show Cel F β (.str x0) x from h))
 | sl x0=>exact Val.Ap (AW g g' (show Cel F β (.sl x0) x from h))
 | nils =>exact Val.Ap (AW g g' (show Cel F β (.nils ) x from h))
 | osl x0 x1 x2 x3=>exact Val.Ap (AW g g' (show Cel F β (.osl x0 x1 x2 x3) x from h))
 | optr x0 x1 x2 x3=>exact Val.Ap (AW g g' (show Cel F β (.optr x0 x1 x2 x3) x from h))
 | mref x0 x1=>exact Val.Ap (AW g g' (show Cel F β (.mref x0 x1) x from h))
 | vsl x0 x1 x2=>exact Val.Ap (AW g g' (show Cel F β (.vsl x0 x1 x2) x from h))
 | fptr x0 x1=>exact Val.Ap (AW g g' (show Cel F β (.fptr x0 x1) x from h))
 | clo x0 x1=>exact Val.Ap (AW g g' (show Cel F β (.clo x0 x1) x from h))
 | nilf =>exact Val.Ap (AW g g' (show Cel F β (.nilf ) x from h))
 | ifc x0 x1=>exact Val.Ap (AW g g' (show Cel F β (.ifc x0 x1) x from h))
 | nilp=>exact Val.Ap (AW g g' (show Cel F β (.nilp) x from h))
 | when x0 x1=>exact Val.Ap (AW g g' (show Cel F β (.when x0 x1) x from h))
 | row x0 x1 x2=>exact Val.Ap (AW g g' (show Cel F β (.row x0 x1 x2) x from h))
 | hole x0 x1 x2=>exact Val.Ap (AW g g' (show Cel F β (.hole x0 x1 x2) x from h))
theorem NQ (g g':Nat) {d:D} {x:Value} (h:Env F β d x):Env F β (ren g g' d) x:=by
 cases d with
 | top =>exact Env.Ah (Bc g g' (show Val F β (.top ) x from h))
 | int x0 x1=>exact Env.Ah (Bc g g' (show Val F β (.int x0 x1) x from h))
 | bool x0=>exact Env.Ah (Bc g g' (show Val F β (.bool x0) x from h))
 | str x0=>exact Env.Ah (Bc g g' (show Val F β (.str x0) x from h))
 | agg x0=>exact Env.Ah (Bc g g' (show Val F β (.agg x0) x from h))
 | sl x0=>exact Env.Ah (Bc g g' (show Val F β (.sl x0) x from h))
 | nils =>exact Env.Ah (Bc g g' (show Val F β (.nils ) x from h))
 | osl x0 x1 x2 x3=>exact Env.Ah (Bc g g' (show Val F β (.osl x0 x1 x2 x3) x from h))
 | optr x0 x1 x2 x3=>exact Env.Ah (Bc g g' (show Val F β (.optr x0 x1 x2 x3) x from h))
 | mref x0 x1=>exact Env.Ah (Bc g g' (show Val F β (.mref x0 x1) x from h))
 | vsl x0 x1 x2=>exact Env.Ah (Bc g g' (show Val F β (.vsl x0 x1 x2) x from h))
 | fptr x0 x1=>exact Env.Ah (Bc g g' (show Val F β (.fptr x0 x1) x from h))
 | clo x0 x1=>exact Env.Ah (Bc g g' (show Val F β (.clo x0 x1) x from h))
 | nilf =>exact Env.Ah (Bc g g' (show Val F β (.nilf ) x from h))
 | ifc x0 x1=>exact Env.Ah (Bc g g' (show Val F β (.ifc x0 x1) x from h))
 | nilp=>exact Env.Ah (Bc g g' (show Val F β (.nilp) x from h))
 | tup x0=>exact Env.Ah (Bc g g' (show Val F β (.tup x0) x from h))
 | row x0 x1 x2=>exact Env.Ah (Bc g g' (show Val F β (.row x0 x1 x2) x from h))
 | hole x0 x1 x2=>exact Env.Ah (Bc g g' (show Val F β (.hole x0 x1 x2) x from h))
 | when p d=>exact h
structure IY (F':Fz) (β:Bt) (v:Nat) (z:D):Prop where
 at_:∀ L b off,β v=some L->L.b=some b->Fro F' (.fptr z off) (.pointer (some ⟨b,off,none⟩))
theorem NS {g v:Nat} {z:D} {d:D} {x:Value} (h:Fro F d x):Fro F (frp g v z d) x:=by
 have key:∀ (cs:List D) (vs:List Value),(∀ (j:Nat) c v',cs[j]? =some c->vs[j]? =some v'->Fro F (frp g v z c) v')->∀ (j:Nat) c v',(GP g v z cs)[j]? =some c->vs[j]? =some v'->Fro F c v':=by
  intro cs vs h j c v' hc hv
  rw[Bq,aAK,aAM]at hc
  obtain⟨c',hc',rfl⟩:=hc
  exact h j c' v' hc' hv
 induction h with
 | agg cs vs hl h1 _ ih=>exact .agg _ vs (by simpa[Bq]using hl) h1 (key cs vs ih)
 | clo f cs vs hl _ ih=>exact .clo f _ vs (by simpa[Bq]using hl) (key cs vs ih)
 | tup cs vs hl _ ih=>exact .tup _ vs (by simpa[Bq]using hl) (key cs vs ih)
 | top v=>exact .top v
 | row s ty es v=>exact .row s ty es v
 | hole nm u n v=>exact .hole nm u n v
 | int k n=>exact .int k n
 | bool b=>exact .bool b
 | str s=>exact .str s
 | nils=>exact .nils
 | nilf=>exact .nilf
 | ifc t d v h _=>exact .ifc t d v h
 | nilp=>exact .nilp
 | sl0 a c=>exact .sl0 a c
 | sl es b o c s vf hc hs hF h1 h _=>exact .sl es b o c s vf hc hs hF h1 h
 | fptr e b o off vf hF h1 h _=>exact .fptr e b o off vf hF h1 h
theorem Ko {g v:Nat} {z:D} (hz:IY F β v z) {d:D} {x:Value} (h:Ref F β d x):Ref F β (frp g v z d) x:=by
 cases d<;>first|exact h|exact Ref.Af (NS h)|skip
 rename_i k u i off
 simp only[frp]
 cases hb:(Nat.beq k g&&Nat.beq u v&&Nat.beq i 0)with
 | false=>exact h
 | true =>
  simp only[aAY]at hb
  obtain⟨⟨_,h2⟩,h3⟩:=hb
  have h2:=aB h2
  have h3:=aB h3
  subst h2;subst h3
  obtain⟨L,b,hL,hb,rfl⟩:=h
  have:=hz.at_ L b off hL hb
  simp only[cond_true]
  exact Ref.Af (by simpa using this)
theorem AQ {g v:Nat} {z:D} (hz:IY F β v z) {d:D} {x:Value} (h:Cel F β d x):Cel F β (frp g v z d) x:=by
 by_cases hcl:∃ f cs,d= .clo f cs
 case neg =>
  have h':Ref F β d x:=by cases d<;>first|exact h|exact(hcl ⟨_,_,rfl⟩).elim
  exact Cel.CL (Ko hz h')
 obtain⟨f,cs,rfl⟩:=hcl
 obtain⟨vs,rfl,hl,hv⟩:=h
 refine⟨vs,rfl,by simpa[Bq]using hl,λj c v' hc hv'=>?_⟩
 rw[Bq,aAK,aAM]at hc
 obtain⟨c',hc',rfl⟩:=hc
 exact Ko hz (hv j c' v' hc' hv')
theorem Bb {g v:Nat} {z:D} (hz:IY F β v z) {d:D} {x:Value} (h:Val F β d x):Val F β (frp g v z d) x:=by
 cases d with
 | agg cs =>
  obtain⟨vs,rfl,hl,h1,hv⟩:=h
  refine⟨vs,rfl,by simpa[Bq]using hl,h1,λj c v' hc hv'=>?_⟩
  rw[Bq,aAK,aAM]at hc
  obtain⟨c',hc',rfl⟩:=hc
  exact AQ hz (hv j c' v' hc' hv')
 | tup cs =>
  obtain⟨vs,rfl,hl,hv⟩:=h
  refine⟨vs,rfl,by simpa[Bq]using hl,λj c v' hc hv'=>?_⟩
  rw[Bq,aAK,aAM]at hc
  obtain⟨c',hc',rfl⟩:=hc
  exact AQ hz (hv j c' v' hc' hv')
 | top =>exact Val.Ap (AQ hz (show Cel F β (.top ) x from h))
 | int x0 x1=>exact Val.Ap (AQ hz (show Cel F β (.int x0 x1) x from h))
 | bool x0=>exact Val.Ap (AQ hz (show Cel F β (.bool x0) x from h))
 | str x0=>exact Val.Ap (AQ hz (show Cel F β (.str x0) x from h))
 | sl x0=>exact Val.Ap (AQ hz (show Cel F β (.sl x0) x from h))
 | nils =>exact Val.Ap (AQ hz (show Cel F β (.nils ) x from h))
 | osl x0 x1 x2 x3=>exact Val.Ap (AQ hz (show Cel F β (.osl x0 x1 x2 x3) x from h))
 | optr x0 x1 x2 x3 =>
  exact Val.Ap (AQ (g:=g) hz (show Cel F β (.optr x0 x1 x2 x3) x from h))
 | mref x0 x1=>exact Val.Ap (AQ hz (show Cel F β (.mref x0 x1) x from h))
 | vsl x0 x1 x2=>exact Val.Ap (AQ hz (show Cel F β (.vsl x0 x1 x2) x from h))
 | fptr x0 x1=>exact Val.Ap (AQ hz (show Cel F β (.fptr x0 x1) x from h))
 | clo x0 x1=>exact Val.Ap (AQ hz (show Cel F β (.clo x0 x1) x from h))
 | nilf =>exact Val.Ap (AQ hz (show Cel F β (.nilf ) x from h))
 | ifc x0 x1=>exact Val.Ap (AQ hz (show Cel F β (.ifc x0 x1) x from h))
 | nilp=>exact Val.Ap (AQ hz (show Cel F β (.nilp) x from h))
 | when x0 x1=>exact Val.Ap (AQ hz (show Cel F β (.when x0 x1) x from h))
 | row x0 x1 x2=>exact Val.Ap (AQ hz (show Cel F β (.row x0 x1 x2) x from h))
 | hole x0 x1 x2=>exact Val.Ap (AQ hz (show Cel F β (.hole x0 x1 x2) x from h))
theorem NP {g v:Nat} {z:D} (hz:IY F β v z) {d:D} {x:Value} (h:Env F β d x):Env F β (frp g v z d) x:=by
 cases d with
 | top =>exact Env.Ah (Bb hz (show Val F β (.top ) x from h))
 | int x0 x1=>exact Env.Ah (Bb hz (show Val F β (.int x0 x1) x from h))
 | bool x0=>exact Env.Ah (Bb hz (show Val F β (.bool x0) x from h))
 | str x0=>exact Env.Ah (Bb hz (show Val F β (.str x0) x from h))
 | agg x0=>exact Env.Ah (Bb hz (show Val F β (.agg x0) x from h))
 | sl x0=>exact Env.Ah (Bb hz (show Val F β (.sl x0) x from h))
 | nils =>exact Env.Ah (Bb hz (show Val F β (.nils ) x from h))
 | osl x0 x1 x2 x3=>exact Env.Ah (Bb hz (show Val F β (.osl x0 x1 x2 x3) x from h))
 | optr x0 x1 x2 x3=>exact Env.Ah (Bb hz (show Val F β (.optr x0 x1 x2 x3) x from h))
 | mref x0 x1=>exact Env.Ah (Bb hz (show Val F β (.mref x0 x1) x from h))
 | vsl x0 x1 x2=>exact Env.Ah (Bb hz (show Val F β (.vsl x0 x1 x2) x from h))
 | fptr x0 x1=>exact Env.Ah (Bb hz (show Val F β (.fptr x0 x1) x from h))
 | clo x0 x1=>exact Env.Ah (Bb hz (show Val F β (.clo x0 x1) x from h))
 | nilf =>exact Env.Ah (Bb hz (show Val F β (.nilf ) x from h))
 | ifc x0 x1=>exact Env.Ah (Bb hz (show Val F β (.ifc x0 x1) x from h))
 | nilp=>exact Env.Ah (Bb hz (show Val F β (.nilp) x from h))
 | tup x0=>exact Env.Ah (Bb hz (show Val F β (.tup x0) x from h))
 | row x0 x1 x2=>exact Env.Ah (Bb hz (show Val F β (.row x0 x1 x2) x from h))
 | hole x0 x1 x2=>exact Env.Ah (Bb hz (show Val F β (.hole x0 x1 x2) x from h))
 | when p d=>exact h
theorem Jk (f:D->D) (hf:f .top= .top) (e:List (Nat×D)) (o:List (Nat×Ac)) (n t:Nat):(S.mk (e.map λp=>(p.1,f p.2)) o n).ge t=f ((S.mk e o n).ge t):=by
 simp only[S.ge]
 induction e with
 | nil=>simp[look,hf]
 | cons p e ih =>
  simp only[aAh,look]
  split
  ·rfl
  ·exact ih
theorem Lq {φ:Nat->Nat->Nat->Nat->Prop} (hφ:AE F β w0.heap.size M σ w φ) {L:Loc} {o:Own} (hok:AA F β w L o) (hvar:o.var=false) (hfz:o.fz=false) {g v n:Nat} {x:Value} (hg:σ.go g=some (v,o)) (hx:Ref F β (.osl g v 0 n) x) (hL:β v=some L) (hn:n<=o.es.length)
  (hp:(Ab g=true/\∀ e∈o.es,∀ c∈cells e,∀ nm u n,c≠ .hole nm u n)\/∀ e∈o.es,AD e=true):Br F w (λb=>L.b=some b\/∃ i j,φ g i j b) o.s o.ty (o.es.take n) x:=by
 obtain⟨L',A,hL',rfl,hcap,hA,_⟩:=hx
 rw[hL]at hL';cases hL'
 obtain⟨e1,e2,e3,e4,e5,e6⟩:=hok
 have hA:=hA rfl
 subst hA
 cases hb:L.b with
 | none =>
  rw[hb]at e6
  have hn0:n=0:=by omega
  subst hn0
  have hc0:L.cap-0=0:=by omega
  rw[hc0]
  simp only[Option.map_none,List.take_zero]
  exact .nil _ _ _ e2
 | some b =>
  rw[hb]at e6
  obtain⟨C,hC,hCs,hcell⟩:=e6
  have hlen:(o.es.take n).length=n:=by simp;omega
  have hidx:∀ (k:Nat) e,(o.es.take n)[k]? =some e->o.es[k]? =some e:=by
   intro k e he
   rw[aAV]at he
   split at he
   ·exact he
   ·cases he
  have hx':∀ (i j:Nat) e d,(o.es.take n)[i]? =some e->(cells e)[j]? =some d->C[i*o.s+j]? =some ((C[i*o.s+j]?).getD undef)/\((C[i*o.s+j]?).getD undef).oneCell'=true/\Fro F d ((C[i*o.s+j]?).getD undef):=by
   intro i j e d he hd
   obtain⟨y,y1,y2,y3⟩:=hcell i j e d (hidx i e he) hd
   rw[hvar]at y3
   rw[y1]
   exact⟨rfl,y2,by simpa using y3⟩
  have:=Br.row (F:=F) (w:=w) (λb'=>some b=some b'\/∃ i j,φ g i j b') o.s o.ty (o.es.take n) b L.cap C (λi j=>φ g i j) (λi j=>(C[i*o.s+j]?).getD undef) e2 (by rw[hlen];omega) (by simpa[hvar]using e4) (λe he=>e5 e (aAU he)) hC hCs (.inl rfl)
   hx'
   (λi j e s' ty' es' he hj=>by
    rcases hp with⟨hr,_⟩|hp
    ·exact hφ.row g v o L b C i j e _ s' ty' es' hr hg hfz hL hb hC (hidx i e he) hj (hx' i j e _ he hj).1
    ·have:=aAS.1 (hp e (aAB (hidx i e he))) _ (aAB hj)
     cases this)
   (λi j e nm u n' he hj=>by
    rcases hp with⟨_,hp⟩|hp
    ·exact hp e (aAB (hidx i e he)) _ (aAB hj) nm u n' rfl
    ·have:=aAS.1 (hp e (aAB (hidx i e he))) _ (aAB hj)
     cases this)
   (λi j b' hb'=>⟨.inr ⟨i,j,hb'⟩,λe=>by subst e;exact hφ.sep g i j _ g v o L hb' hg hfz hL hb⟩) (λi j i' j' b' h1 h2=>(hφ.dis _ _ _ _ _ _ _ h1 h2).2)
  rw[hlen]at this
  simpa using this
theorem MO (h:Sim N w0 F0 M B0 σ F β a w) {g v i off g' v' m:Nat} {og o':Own} {c:D} (hg:σ.go g=some (v,og)) (hr:Ab g=true) (hfz:og.fz=false) (hi:i<og.es.length) (hc:(cells (og.es.getD i .top))[off]? =some c)
  (hh:c= .hole g' v' m\/(c= .osl g' v' 0 m/\og.var=true)) (hg':σ.go g'=some (v',o')) (hfz':o'.fz=false) (hvar:o'.var=false) (hm:m<=o'.es.length) (hp:(Ab g'=true/\∀ e∈o'.es,∀ c∈cells e,∀ nm u n,c≠ .hole nm u n)\/∀ e∈o'.es,AD e=true) (hne:g≠g') :
  Sim N w0 F0 M B0 ⟨σ.e,(g,some (v,{ og with es:=og.es.set i (QG (og.es.getD i .top) off [.row o'.s o'.ty (o'.es.take m)]) }))::(g',none)::σ.o,σ.n⟩ F β a w:=by
 obtain⟨φ,hφ⟩:=h.Ab
 obtain⟨L,hL,_,hk⟩:=h.own g v og hg
 obtain⟨e1,e2,e3,e4,e5,e6⟩:=hk hfz
 have hget:og.es[i]? =some (og.es.getD i .top):=by simp[hi]
 have hoff:off<(cells (og.es.getD i .top)).length:=(aAF.1 hc).1
 cases hb:L.b with
 | none =>
  rw[hb]at e6
  have:og.es.length<=L.cap:=e3
  omega
 | some b =>
 rw[hb]at e6
 obtain⟨C,hC,hCs,hcell⟩:=e6
 obtain⟨x,x1,x2,x3⟩:=hcell i off _ _ hget hc
 obtain⟨L',hL',_,hk'⟩:=h.own g' v' o' hg'
 have hok':=hk' hfz'
 have hx:Ref F β (.osl g' v' 0 m) x:=by
  rcases hh with rfl|⟨rfl,hv⟩
  ·exact hφ.hole g v og L b C i off _ x _ v' m hr hg hfz hL hb hC hget hc x1
  ·rw[if_pos hv]at x3;exact x3
 have hrat:=Lq hφ hok' hvar hfz' hg' hx hL' hm hp
 obtain⟨on,hon⟩:∃ on:Own,on={ og with es:=og.es.set i (QG (og.es.getD i .top) off [.row o'.s o'.ty (o'.es.take m)]) }:=⟨_,rfl⟩
 obtain⟨og1,og2,og3,og4⟩:on.fz=false/\on.var=og.var/\on.s=og.s/\on.ty=og.ty:=by subst hon;exact⟨hfz,rfl,rfl,rfl⟩
 have hogc:∀ (i' j':Nat) e d,on.es[i']? =some e->(cells e)[j']? =some d->(i'=i/\j'=off/\d= .row o'.s o'.ty (o'.es.take m))\/(¬ (i'=i/\j'=off)/\∃ e',og.es[i']? =some e'/\(cells e')[j']? =some d):=by
  intro i' j' e d he hd
  subst hon
  simp only at he
  by_cases hii:i'=i
  ·subst hii
   rw[aAm hi]at he
   cases he
   obtain⟨_,q2⟩:=BZ (d:=.row o'.s o'.ty (o'.es.take m)) hoff rfl j'
   rw[q2]at hd
   by_cases hj:j'=off
   ·rw[if_pos hj]at hd;cases hd
    exact .inl ⟨rfl,hj,rfl⟩
   ·rw[if_neg hj]at hd
    exact .inr ⟨λe=>hj e.2,_,hget,hd⟩
  ·rw[aAd (λe=>hii e.symm)]at he
   exact .inr ⟨λe=>hii e.1,e,he,hd⟩
 have honok:AA F β w L on:=by
  refine⟨by rw[og3];exact e1,by rw[og3];exact e2,by subst hon;simpa using e3,by rw[og2];exact e4,λe he=>?_,?_⟩
  ·subst hon
   simp only at he ⊢
   rcases aAp he with hm'|hm'
   ·exact e5 e hm'
   ·subst hm'
    rw[(BZ (d:=.row o'.s o'.ty (o'.es.take m)) hoff rfl 0).1]
    exact e5 _ (aAB hget)
  ·rw[hb]
   refine⟨C,by rw[og4];exact hC,by rw[og3];exact hCs,λi' j' e d he hd=>?_⟩
   rw[og3,og2]
   rcases hogc i' j' e d he hd with⟨rfl,rfl,rfl⟩|⟨_,e',k1,k2⟩
   ·refine⟨x,x1,x2,?_⟩
    split
    ·exact Cel.Af (.row _ _ _ _)
    ·exact .row _ _ _ _
   ·exact hcell i' j' e' d k1 k2
 rw[<- hon]
 have hgo:∀ k u q,(S.mk σ.e ((g,some (v,on))::(g',none)::σ.o) σ.n).go k=some (u,q)->(k=g/\u=v/\q=on)\/(k≠g/\k≠g'/\σ.go k=some (u,q)):=by
  intro k u q hk
  rw[CD]at hk
  split at hk
  ·rename_i e;cases hk;exact .inl ⟨e,rfl,rfl⟩
  ·rename_i n1
   rw[CD]at hk
   split at hk
   ·cases hk
   ·rename_i n2;exact .inr ⟨n1,n2,hk⟩
 refine h.change (row:=λx=>x=b) rfl rfl rfl (aAL _) (λ_ _ _=>rfl) ?_ (Ag.refl _) (λ_ _ _ _=>rfl) h.frz h.fin (Aw.refl _) h.size h.defers h.env ?_ ?_ ?_
 ·rintro b' rfl
  exact(h.sep g v og L b' hg hfz hL hb).2.2.imp id And.left
 ·intro k u q hk
  rcases hgo k u q hk with⟨rfl,rfl,rfl⟩|⟨n1,n2,hk⟩
  ·refine .inr ⟨L,hL,og1,honok,λb' hb'=>?_⟩
   obtain⟨s1,s2,s3⟩:=h.sep k u og L b' hg hfz hL hb'
   rw[hb]at hb';cases hb'
   exact⟨s1,s2,s3,.inl rfl⟩
  ·refine .inl ⟨hk,λL1 b1 hf hL1 hb1 e=>?_⟩
   subst e
   exact n1 (h.dist k g u v q og L1 L b1 hk hg hf hfz hL1 hL hb1 hb)
 ·intro g1 g2 v1 v2 o1 o2 L1 L2 b' hg1 hg2 hf1 hf2 hL1 hL2 hb1 hb2 _
  have key:∀ k u q,(S.mk σ.e ((g,some (v,on))::(g',none)::σ.o) σ.n).go k=some (u,q)->∃ q',σ.go k=some (u,q')/\q'.fz=q.fz:=by
   intro k u q hk
   rcases hgo k u q hk with⟨rfl,rfl,rfl⟩|⟨_,_,hk⟩
   ·exact⟨og,hg,by rw[og1,hfz]⟩
   ·exact⟨q,hk,rfl⟩
  obtain⟨p1,q1,r1⟩:=key _ _ _ hg1
  obtain⟨p2,q2,r2⟩:=key _ _ _ hg2
  exact h.dist g1 g2 v1 v2 p1 p2 L1 L2 b' q1 q2 (r1.trans hf1) (r2.trans hf2) hL1 hL2 hb1 hb2
 ·intro _ _
  let K:Nat->Prop:=λb'=>L'.b=some b'\/∃ i j,φ g' i j b'
  let φ':Nat->Nat->Nat->Nat->Prop:=λg1 i1 j1 b'=>(g1=g/\i1=i/\j1=off/\K b')\/(¬ (g1=g/\i1=i/\j1=off)/\g1≠g'/\φ g1 i1 j1 b')
  have hKs:∀ b' k u q L1,K b'->k≠g'->σ.go k=some (u,q)->q.fz=false->β u=some L1->L1.b≠some b':=by
   rintro b' k u q L1 (hK|⟨i1,j1,hK⟩) hk hgk hf hL1 hb1
   ·exact hk (h.dist k g' u v' q o' L1 L' b' hgk hg' hf hfz' hL1 hL' hb1 hK)
   ·exact hφ.sep g' i1 j1 b' k u q L1 hK hgk hf hL1 hb1
  have hKφ:∀ b' g1 i1 j1,K b'->g1≠g'->¬ φ g1 i1 j1 b':=by
   rintro b' g1 i1 j1 (hK|⟨i2,j2,hK⟩) hk h1
   ·exact hφ.sep g1 i1 j1 b' g' v' o' L' h1 hg' hfz' hL' hK
   ·exact hk (hφ.dis _ _ _ _ _ _ _ h1 hK).1
  refine⟨φ',?_,?_,?_,?_,?_,?_,?_⟩
  ·intro k u q L1 b1 C1 i' j' e y s ty es hr' hk hf' hL1 hb1 hC1 he hj hy
   rcases hgo k u q hk with⟨rfl,rfl,rfl⟩|⟨n1,n2,hk⟩
   ·rw[hL]at hL1;cases hL1
    rw[hb]at hb1;cases hb1
    rw[og4]at hC1;rw[og3]at hy
    rcases hogc i' j' e _ he hj with⟨rfl,rfl,z⟩|⟨z0,e',z1,z2⟩
    ·cases z
     rw[hC]at hC1;cases hC1
     rw[x1]at hy;cases hy
     exact hrat.QA (Ag.refl _) (λ_ _=>rfl) (λb' hb'=>.inl ⟨rfl,rfl,rfl,hb'⟩)
    ·exact(hφ.row k u og _ b C1 i' j' e' y s ty es hr' hg hfz hL hb hC1 z1 z2 hy).QA (Ag.refl _) (λ_ _=>rfl) (λb' hb'=>.inr ⟨λe=>z0 e.2,hne,hb'⟩)
   ·exact(hφ.row k u q L1 b1 C1 i' j' e y s ty es hr' hk hf' hL1 hb1 hC1 he hj hy).QA (Ag.refl _) (λ_ _=>rfl) (λb' hb'=>.inr ⟨λe=>n1 e.1,n2,hb'⟩)
  ·intro k u q L1 b1 C1 i' j' e y nm u' n' hr' hk hf' hL1 hb1 hC1 he hj hy
   rcases hgo k u q hk with⟨rfl,rfl,rfl⟩|⟨n1,n2,hk⟩
   ·rw[hL]at hL1;cases hL1
    rw[hb]at hb1;cases hb1
    rw[og4]at hC1;rw[og3]at hy
    rcases hogc i' j' e _ he hj with⟨rfl,rfl,z⟩|⟨z0,e',z1,z2⟩
    ·cases z
    ·exact hφ.hole k u og _ b C1 i' j' e' y _ u' n' hr' hg hfz hL hb hC1 z1 z2 hy
   ·exact hφ.hole k u q L1 b1 C1 i' j' e y _ u' n' hr' hk hf' hL1 hb1 hC1 he hj hy
  ·rintro g1 i1 j1 b' (⟨_,_,_,hK|⟨i2,j2,hK⟩⟩|⟨_,_,hb'⟩)
   ·exact(h.sep g' v' o' L' b' hg' hfz' hL' hK).1
   ·exact hφ.none_ _ _ _ _ hK
   ·exact hφ.none_ _ _ _ _ hb'
  ·rintro g1 i1 j1 b' (⟨_,_,_,hK|⟨i2,j2,hK⟩⟩|⟨_,_,hb'⟩)
   ·exact(h.sep g' v' o' L' b' hg' hfz' hL' hK).2.1
   ·exact hφ.lt _ _ _ _ hK
   ·exact hφ.lt _ _ _ _ hb'
  ·rintro g1 i1 j1 b' (⟨_,_,_,hK|⟨i2,j2,hK⟩⟩|⟨_,_,hb'⟩)
   ·exact(h.sep g' v' o' L' b' hg' hfz' hL' hK).2.2.imp id And.left
   ·exact hφ.new _ _ _ _ hK
   ·exact hφ.new _ _ _ _ hb'
  ·intro g1 i1 j1 b' k u q L1 hb' hk hf hL1 hb1
   rcases hgo k u q hk with⟨rfl,rfl,rfl⟩|⟨n1,n2,hk⟩
   ·rcases hb' with⟨_,_,_,hK⟩|⟨_,_,hb'⟩
    ·exact hKs b' k u og L1 hK hne hg hfz hL1 hb1
    ·exact hφ.sep g1 i1 j1 b' k u og L1 hb' hg hfz hL1 hb1
   ·rcases hb' with⟨_,_,_,hK⟩|⟨_,_,hb'⟩
    ·exact hKs b' k u q L1 hK n2 hk hf hL1 hb1
    ·exact hφ.sep g1 i1 j1 b' k u q L1 hb' hk hf hL1 hb1
  ·rintro g1 i1 j1 g2 i2 j2 b' (⟨rfl,rfl,rfl,hK⟩|⟨n1,m1,h1⟩) (⟨rfl,rfl,rfl,hK'⟩|⟨n2,m2,h2⟩)
   ·exact⟨rfl,rfl,rfl⟩
   ·exact(hKφ b' g2 i2 j2 hK m2 h2).elim
   ·exact(hKφ b' g1 i1 j1 hK' m1 h1).elim
   ·exact hφ.dis _ _ _ _ _ _ _ h1 h2
end
end Go.Dw
