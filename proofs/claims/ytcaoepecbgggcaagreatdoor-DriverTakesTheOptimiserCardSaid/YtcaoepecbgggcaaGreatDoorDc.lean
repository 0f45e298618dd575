/-
  THE LAYER: symbolic semantics of compiled code, and programs on typed data.
-/
import Derived.Test.YtcaoepecbgggcaaGreatDoorDb
import Derived.ProofKit
import Derived.OpenShut
import Derived.Deep.Strs
import Derived.SizedLaws
import Derived.Sort.Grow
import Derived.Lib.SlicesCompact
import Derived.Shelf.Spec.TrailingZeros
import Derived.LaidMore
import Derived.Lib.ItoaNum
import Derived.Lib.Join
import Derived.Lib.Bytealg
open BitVec renaming ofInt->aAL
open Bool renaming false_eq_true->aAR
open Go.DataW renaming trod->aAO,trod_int->aAV,weights->aAX,TrodAll->aAa,weightsAll->aAd,weights_mem_each->aAh
open Function renaming comp_def->aAc
open List renaming getElem?_eq_some_iff->aA,take_of_length_le->aAB,getElem?_eq_getElem->aAE,replicate->aAG,length_map->aAK,take->aAN,range->aAP,map_congr_left->aAQ,append_nil->aAT,map_map->aAU,mem_cons->aAY,getD_eq_getElem?_getD->aAZ,getElem?_map->aAb,drop->aAf,mem_append->aAg,mem_append_right->aAk,map_set->aAl
open Nat renaming le_of_ble_eq_true->aAC,blt->aAD,ble_eq_true_of_le->aAF,ble->aAH,beq->aAM,eq_of_beq_eq_true->aAS,testBit_two_pow_mul_add->aAW,zero_le->aAi
open Option renaming getD_some->aAA,bind_eq_some_iff->aAI
open Go.Value renaming int->aAJ,okWide->aAe
open Go.World renaming cell?->aAj
namespace Go.Dw
section
variable {N:Nat} {Δ:List Deferred} {w0:World} {F0:Fz} {M:Nat->Prop} {B0:Bt} {P:Program} {σ:S} {F:Fz} {β:Bt} {a:Act} {w:World}
theorem Sim.MD (hM:Sim N Δ w0 F0 M B0 σ F β a w):Sim N Δ w0 F M β σ F β a w:=by
 exact{ hM with nam:=Aw.refl _,step:=⟨hM.step.os,hM.step.tape,hM.step.output,hM.step.size,hM.step.block,Og.refl _,λ_ _ _ _=>rfl⟩ }
theorem Sim.MQ (hM:Sim N Δ w0 F0 M B0 σ F β a w) {Δ':List Deferred} {σ':S} {F':Fz} {β':Bt} {a':Act} {w':World} (k:Sim N Δ' w0 F M β σ' F' β' a' w'):Sim N Δ' w0 F0 M B0 σ' F' β' a' w':=by
 exact{ k with nam:=hM.nam.trans k.nam,step:=⟨k.step.os,k.step.tape,k.step.output,k.step.size,k.step.block,hM.step.sub.trans k.step.sub,λb i hb hm=>(k.step.old b i hb hm).trans (hM.step.old b i hb hm)⟩ }
theorem Sim.dfr (hM:Sim N Δ w0 F0 M B0 σ F β a w) (Δ':List Deferred):Sim N Δ' w0 F0 M B0 σ F β { a with defers:=Δ' } w:=by
 exact{ hM with defers:=rfl }
def JY (P:Program) (N:Nat):Code->Option (List As×List As×Nat×Pc)
 | .seq (.region _ ops0 false) (.seq (.region _ ops1 false) rest) =>
  match ops1.toList with
  | [o1,⟨none,.defer ⟨.value (.tmp t),⟨[]⟩,_⟩,_,_,_,none⟩]=>do
   let d0<-BB P N ops0 false 0 ops0.toList
   let d1<-BB P N ops1 false 0 [o1]
   let r<-Pv P N rest
   some (d0,d1,t,r)
  | _=>none
 | _=>none
def nog:D->D
 | .optr _ v i off=>.optr 0 v i off
 | d=>d
theorem Lt {d d':D} {x:Value} (h:Ref F β d x) (hd:nog d'=nog d):Ref F β d' x:=by
 have e:∀ d:D,Ref F β (nog d) x↔Ref F β d x:=λd=>by cases d<;>rfl
 exact(e d').1 (hd▸(e d).2 h)
def GG (Γ:An) (np:Nat) (rs:List Az) (dc:Pc) (caps:List D) (K:S->Prop):Ar->S->Prop:=λe τ =>
 match e with
 | .exit _=>False
 | _=>Wk (λτ=>∃ caps',caps'.map nog=caps.map nog/\DW Γ np rs dc caps' τ λ_ τ'=>K τ') τ
def Mh (Γ Γ':An) (f np:Nat) (rs:List Az) (dc:Pc) (t:Nat) (r:Pc) (K:S->Prop):Ar->S->Prop:=λ_ =>
 Wk λτ=>∃ caps,τ.ge t= .clo f caps/\DWp Γ r (GG Γ' np rs dc caps K) τ
def Nx (Γ Γ':An) (f np:Nat) (rs:List Az) (dc:Pc) (c:List As×List As×Nat×Pc) (K:S->Prop):S->Prop :=
 DWp Γ (.seq (.reg c.1 false) (.reg c.2.1 false)) (Mh Γ Γ' f np rs dc c.2.2.1 c.2.2.2 K)
theorem IG {Γ Γ':An} (hΓ':∀ k sp,Γ' k=some sp->NK P (k % 4096) sp) {fn fn':Func} {c:List As×List As×Nat×Pc} {dc:Pc} {f np:Nat} {rs:List Az} (hc:(fn.body.bind (JY P fn.ntmps))=some c)
  (hf:P.funcs[f]? =some fn') (hlt:aAD f 4096=true) (hname:(fn'.name == "runtime.NumGoroutine")=false) (hc':(fn'.body.bind (Pv P fn'.ntmps))=some dc) (hr:fn'.results.toList.mapM (UZ P)=some rs) (hnp:np<=fn'.ntmps):GK P Γ (Nx Γ Γ' f np rs dc c) fn:=by
 intro c0 F w0 M B0 σ F' β a w K R hb hG hΓ h hfr hw hK;rw[hb,Option.bind_some]at hc;obtain⟨cf,hbf,hcf⟩:=aAI.1 hc';unfold JY at hc;split at hc
 ·rename_i i0 ops0 i1 ops1 rest;split at hc
  ·rename_i o1 t args ty pos af hops;simp only[Option.bind_eq_bind,aAI]at hc;obtain⟨d0,h0,d1,h1,r,h2,he⟩:=hc;cases he;obtain⟨σ0,hchg0,hw⟩:=hw;obtain⟨F1,β1,k1,kf1⟩:=h.chg hfr hchg0;refine wp_seq (wp_region_list ?_);refine aAT ops0.toList▸BT (rest:=[]) hΓ ops0.toList 0 d0 h0 σ0 F1 β1 a w σ0.n k1 kf1 hw λτ F2 β2 a2 w2 k2 kf2 hw2=>?_
   refine wp_seq (wp_region_list ?_);rw[hops];obtain⟨σ1,hchg1,σ2,hchg2,hw2⟩:=hw2;obtain⟨F3,β3,k3,kf3⟩:=k2.chg kf2 (hchg1.trans hchg2);refine BT (rest:=[_]) hΓ [o1] 0 d1 h1 σ2 F3 β3 a2 w2 σ2.n k3 kf3 hw2 λτ4 F4 β4 a4 w4 k4 kf4 hw4=>?_
   obtain⟨τ5,hchg5,caps,hcap,hw5⟩:=hw4;obtain⟨F5,β5,k5,kf5⟩:=k4.chg kf4 hchg5;have hv:=k5.env t;rw[hcap]at hv;obtain⟨vs,hvs,hvl,hvr⟩:=hv;rw[Fu hlt]at hvs;have hbd:¬ fn'.body=none:=by simp[hbf]
   have hnm':¬ fn'.name = "runtime.NumGoroutine":=by simpa using hname
   refine wpList_step λK' hK'=>?_
   rw[if_pos (show Region.wanted _ _=true from rfl)]
   have hrun:(execOp a4.eval ⟨none,.defer ⟨.value (.tmp t),⟨[]⟩,args⟩,ty,pos,af,none⟩).run P w4= .ok (.defer ⟨.fn (.func f) vs.toArray,#[]⟩) w4:=by
    simp[execOp,resolve,Deferred.ofValue,Act.eval,hvs]
   unfold Oper.wp;rw[hrun,Oper.upon_defer];refine hK' _ _ (wpList_nil ?_);rw[k4.defers];show rest.wp P (bodyPostD P fn R) { a4 with defers:=[⟨.fn (.func f) vs.toArray,#[]⟩] } w4
   refine wp_mono (Bg (λk sp h=>(hΓ k sp h).mono k5.step.sub) rest r h2 _ τ5 F5 β5 _ w4 (k5.MD.dfr _) kf5 hw5) λe a6 w6 ⟨τ6,F6,β6,k6,kf6,k3⟩=>?_
   have fin:Wk (λτ=>∃ caps',caps'.map nog=caps.map nog/\DW Γ' np rs dc caps' τ λ_ τ'=>K τ') τ6->Leaves P fn a6.tmps R a6.defers .returning w6:=by
    rintro⟨τ7,hchg7,caps',hcp,hop⟩;have hcl:caps'.length=caps.length:=by simpa using congrArg List.length hcp
    obtain⟨F7,β7,k7,kf7⟩:=k6.chg kf6 hchg7;rw[k7.defers];refine leaves_cons (f:=f) (args:=vs.toArray) (by simp) (by simp[invoke,callFunc,hf,hnm',hbd]) ?_
    refine(callsD_of_wp hf hbf (JJ hΓ' hcf hr hnp hG k5.step.sub k7 kf7 (hcl.trans hvl) (λi d x hd hx=>?_) hop)).mono ?_
    ·have hi:i<caps.length:=hcl▸(aA.1 hd).1;have e:=congrArg (·[i]?) hcp;simp only[aAb,hd,aAE hi,Option.map_some,Option.some.injEq]at e;exact Val.Ao (Cel.BZ (Lt (Ref.mono k7.step.sub k7.nam (hvr i _ x (aAE hi) hx)) e))
    ·rintro e u' w7 ⟨rfl,v,d,o',n',F8,β8,rfl,k8,kf8,_,hK8⟩;exact hK _ _ F8 β8 a6 w7 (k5.MQ k8) kf8 hK8
   cases e<;>first|exact fin k3|exact k3.elim|simp_all
  ·cases hc
 ·cases hc
end
section
variable {ι R:Type} {body:ι->Option (ι⊕R)} {s:ι} {r r':R} {n m:Nat}
def AcI (body:ι->Option (ι⊕R)):Nat->ι->Option R
 | 0,_=>none
 | n+1,s=>match body s with
  | none=>none
  | some (.inr r)=>some r
  | some (.inl s')=>AcI body n s'
theorem Yn:AcI body (n+1) s=match body s with
  | none=>none
  | some (.inr r)=>some r
  | some (.inl s')=>AcI body n s':=rfl
theorem Fv:∀ {n m:Nat} {s:ι},AcI body n s=some r->n<=m->AcI body m s=some r
 | 0,_,_,h,_=>by cases h
 | n+1,0,_,_,h'=>by omega
 | n+1,m+1,s,h,h'=>by
  rw[Yn]at h ⊢;cases hb:body s with
  | none=>simp_all
  | some x =>
   rw[hb]at h;cases x with
   | inr y=>exact h
   | inl s'=>exact Fv h (Nat.le_of_succ_le_succ h')
theorem JF (h:AcI body n s=some r) (h':AcI body m s=some r'):r=r':=by
 grind [Fv]
open Classical in
noncomputable def NW (body:ι->Option (ι⊕R)) (s:ι):Option R :=
 if h:∃ r,∃ n,AcI body n s=some r then some (Classical.choose h)else none
theorem Aeu:NW body s=some r↔∃ n,AcI body n s=some r:=by
 unfold NW;split
 all_goals grind [JF]
theorem Vy (body:ι->Option (ι⊕R)) (s:ι):NW body s=match body s with
  | none=>none
  | some (.inr r)=>some r
  | some (.inl s')=>NW body s':=by
 apply Option.ext;intro r;rw[Aeu];cases hb:body s with
 | none =>
  simp only[reduceCtorEq,iff_false,not_exists];intro n hn;cases n with
  | zero=>cases hn
  | succ n=>grind [Yn]
 | some x =>
  cases x with
  | inr y =>
   constructor
   ·rintro⟨n,hn⟩;cases n with
    | zero=>cases hn
    | succ n=>grind [Yn]
   ·intro e;exact⟨1,by grind [Yn]⟩
  | inl s' =>
   simp only[Aeu];constructor
   ·rintro⟨n,hn⟩;cases n with
    | zero=>cases hn
    | succ n=>grind [Yn]
   ·rintro⟨n,hn⟩;exact⟨n+1,by grind [Yn]⟩
theorem Apl (I:ι->Prop) (P:R->Prop) (μ:ι->Nat) (h0:I s)
  (hb:∀ s,I s->(∃ s',body s=some (.inl s')/\I s'/\μ s'<μ s)\/∃ r,body s=some (.inr r)/\P r):∃ r,NW body s=some r/\P r:=by
 generalize hk:μ s=k
 induction k using Nat.strongRecOn generalizing s with
 | _ k ih =>
  grind [Vy]
end
variable {d agg:Bool} {x z':D} {Γ:An} {fn:Func} {c p:Prop} {dc:Pc} {np i id ty' q bytes k ty j:Nat} {rs:List Az} {α H:Type} {σ:S} {ops:List As} {E we e e':List (Nat×D)} {O wo o':List (Nat×Ad)} {op:DOp} {cs cs' ds l:List D} {parts:List (Nat×Nat×Arg)} {ps:List (Nat×Nat×D)} {rk:List Key} {sp:Spec} {fl:List Int->List Int} {fk:List Int->Nat} {v:Value} {s:ChangeSpec} {a:Addr} {before:List MemPlace} {fa:Arg} {ex:Ar} {F:Fz} {laid:List (String×DataW Unit)} {nm:String}
def chk {R:Type} (p:Prop) [Decidable p] (t:Option R):Option R:=if p then t else none
def ixO {α:Type} (l:List α) (i:Int):Option α:=if i<0 then none else l[i.toNat]?
def lft {ι R:Type} (t:Option R):Option (ι⊕R):=t.map .inr
def cnt {ι R:Type} (s:ι):Option (ι⊕R):=some (.inl s)
theorem Ou {R:Type} [Decidable p] {t:Option R} (h:p):chk p t=t:=if_pos h
theorem Kd {R:Type} [Decidable p] {t:Option R} {r:R} (h:chk p t=some r):p/\t=some r:=by
 grind [chk]
theorem AbF {l:List α} {i:Int} {x:α} (h:ixO l i=some x):0<=i/\i<l.length/\l[i.toNat]? =some x:=by
 grind [ixO]
section
variable {Γ:An} {R ι γ:Type}
def Has (σ:S) (E:List (Nat×D)) (O:List (Nat×Ad)):Prop:=∃ n,Chg σ ⟨E,O,n⟩
def Tr (Γ:An) (c:Pc) (K:R->Ar->S->Prop) (σ:S) (t:Option R):Prop:=∀ r,t=some r->DWp Γ c (K r) σ
def TrX (e:Ar) (K:R->Ar->S->Prop) (σ:S) (t:Option R):Prop:=∀ r,t=some r->K r e σ
abbrev Ck:=List Key×List Key×List Nat
structure KR (R:Type) where
 N:Nat
 K:R->Ar->S->Prop
def TrO (Γ:An) (ops:List As) (nv:Nat) (σ:S) (d:Bool) (acc:List Ck) (K:KR R) (t:Option R):Prop :=
 ∀ r,t=some r->(d=false->wpS Γ ops nv σ (K.K r .normal))/\(d=true->Dw.wpOps Γ ops nv σ (λτ=>K.K r .normal { τ with n:=K.N })/\DG (acc++Cx Γ ops nv σ)=true)
def Fa (N:Nat) (K:R->Ar->S->Prop):KR R:=⟨N,K⟩
def He (Γ:An) (b:Pc) (K:R->Ar->S->Prop):R->Ar->S->Prop:=λr=>Ar.then (Wk (DWp Γ b (K r))) (K r)
def EZ (id:Nat) (K:R->Ar->S->Prop):R->Ar->S->Prop:=λr=>Ar.inBlock id (K r)
def Hc (E:ι->γ->List (Nat×D)) (O:ι->γ->List (Nat×Ad)) (j:ι->Option R) (K:R->Ar->S->Prop):R->Ar->S->Prop:=λr e τ =>
 match e with
 | .normal=>∃ s g,j s=some r/\Has τ (E s g) (O s g)
 | e=>K r e τ
def CQ (id:Nat) (E:ι->γ->List (Nat×D)) (O:ι->γ->List (Nat×Ad)) (j:ι->Option R) (K:R->Ar->S->Prop):R->Ar->S->Prop:=λr e τ =>
 match e with
 | .normal=>∃ s g,j s=some r/\Has τ (E s g) (O s g)
 | .exit id'=>if id'=id then ∃ s g,j s=some r/\Has τ (E s g) (O s g)else K r (.exit id') τ
 | .ret=>K r .ret τ
def Fw (E:ι->γ->List (Nat×D)) (O:ι->γ->List (Nat×Ad)) (K:R->Ar->S->Prop):(ι⊕R)->Ar->S->Prop:=λx e τ =>
 match x,e with
 | .inl s,.normal=>∃ g,Has τ (E s g) (O s g)
 | .inl _,_=>False
 | .inr _,.normal=>False
 | .inr r,e=>K r e τ
theorem FH:∀ (ops:List As) (nv:Nat) (σ:S) (K K':S->Prop),(∀ τ,K τ->K' τ)->Dw.wpOps Γ ops nv σ K->Dw.wpOps Γ ops nv σ K'
 | [],_,_,_,_,hK,h=>hK _ h
 | _::ops,_,_,_,_,hK,h=>⟨h.1,FH ops _ _ _ _ hK h.2⟩
theorem Wk.mono {f g:S->Prop} (h:∀ τ,f τ->g τ):Wk f σ->Wk g σ:=λ⟨τ,h1,h2⟩=>⟨τ,h1,h τ h2⟩
theorem Jl {o:As} {K K':S->Prop} (hK:∀ τ,K τ->K' τ):FI Γ o σ K->FI Γ o σ K':=by
 rintro⟨h1,fa,args,f,caps,sp,φ,K0,h2,h⟩;exact⟨h1,fa,args,f,caps,sp,φ,K0,λτ hτ=>hK τ (h2 τ hτ),h⟩
theorem Fl:∀ (ops:List As) (nv:Nat) (σ:S) (K K':S->Prop),(∀ τ,K τ->K' τ)->wpS Γ ops nv σ K->wpS Γ ops nv σ K'
 | [],_,_,_,_,hK,h=>hK _ h
 | _::ops,_,_,_,_,hK,h=>h.imp (λh=>⟨h.1,Fl ops _ _ _ _ hK h.2⟩) (Wk.mono λ_=>Jl λ_ ⟨τ,h1,h2⟩=>⟨τ,h1,Fl ops _ _ _ _ hK h2⟩)
theorem AJ:∀ (b:Pc) (Q Q':Ar->S->Prop) (σ:S),(∀ e τ,Q e τ->Q' e τ)->DWp Γ b Q σ->DWp Γ b Q' σ
 | .skip,_,_,_,h,hd=>h _ _ hd
 | .ret,_,_,_,h,hd=>h _ _ hd
 | .exit _,_,_,_,h,hd=>h _ _ hd
 | .reg ops d,_,_,_,h,hd=>Wk.mono (λτ hq=>by
   cases d with
   | true=>rw[if_pos rfl]at hq ⊢;grind [FH]
   | false=>rw[if_neg (by simp)]at hq ⊢;grind [Fl]) hd
 | .seq a b,Q,Q',σ,h,hd=>AJ a _ _ σ (λe τ hq=>by
   cases e with
   | normal=>exact Wk.mono (λτ' h'=>AJ b _ _ τ' h h') hq
   | exit id=>exact h _ _ hq
   | ret=>exact h _ _ hq) hd
 | .cond c a b,Q,Q',σ,h,hd=>by
  simp only[DWp]at hd ⊢;generalize CO σ c=d at *;cases d<;>try exact hd.elim
  exact⟨λht=>AJ a _ _ σ h (hd.1 ht),λht=>AJ b _ _ σ h (hd.2 ht)⟩
 | .block id b,Q,Q',σ,h,hd=>AJ b _ _ σ (λe τ hq=>by
   cases e with
   | normal=>exact h _ _ hq
   | ret=>exact h _ _ hq
   | exit id' =>
    simp only[Ar.inBlock]at hq ⊢;split
    ·rename_i e;rw[if_pos e]at hq;grind [Wk.mono]
    simp_all) hd
 | .loop b,Q,Q',σ,h,⟨ι,St,μ,i₀,h1,h2⟩=>⟨ι,St,μ,i₀,h1,λi=>AJ b _ _ _ (λe τ hq=>by
   cases e with
   | normal=>exact hq
   | exit id=>exact h _ _ hq
   | ret=>exact h _ _ hq) (h2 i)⟩
variable {K:R->Ar->S->Prop} {t t1 t2:Option R} {e:List (Nat×D)} {o:List (Nat×Ad)} {n N nv:Nat} {σ τ:S} {a b:Pc}
theorem MM (h:TrO Γ ops n ⟨e,o,n⟩ d [] (Fa (n+ops.length) K) t):Tr Γ (.reg ops d) K ⟨e,o,n⟩ t :=
 λr hr=>⟨_,.refl _,by
  cases d with
  | true=>rw[if_pos rfl];exact(h r hr).2 rfl
  | false=>rw[if_neg (by simp)];exact(h r hr).1 rfl⟩
theorem AfH (hh:Has ⟨e,o,n⟩ E O) (h:∀ n,TrO Γ ops n ⟨E,O,n⟩ d [] (Fa (n+ops.length) K) t):Tr Γ (.reg ops d) K ⟨e,o,n⟩ t :=
 λr hr=>hh.elim λm hh=>⟨_,hh,by
  cases d with
  | true=>rw[if_pos rfl];exact(h m r hr).2 rfl
  | false=>rw[if_neg (by simp)];exact(h m r hr).1 rfl⟩
theorem LS {acc:List Ck} (h:TrX .normal K ⟨e,o,nv⟩ t):TrO Γ [] nv ⟨e,o,n⟩ false acc (Fa N K) t :=
 λr hr=>⟨λ_=>h r hr,λhd=>by cases hd⟩
theorem Hr {acc:List Ck} (ha:DG acc=true) (h:TrX .normal K ⟨e,o,N⟩ t):TrO Γ [] nv ⟨e,o,n⟩ true acc (Fa N K) t :=
 λr hr=>⟨λhd=>(by cases hd),λ_=>⟨h r hr,by grind [Cx]⟩⟩
def TrE (Γ:An) (c:Pc) (K:R->Ar->S->Prop) (σ:S) (t:Option R):Prop:=∀ r,t=some r->Wk (DWp Γ c (K r)) σ
theorem ML (h:Tr Γ a K σ t):TrE Γ a K σ t:=λr hr=>⟨_,.refl _,h r hr⟩
theorem MO (h:Tr Γ a (He Γ b K) σ t):Tr Γ (.seq a b) K σ t:=h
theorem LV (h:Tr Γ b K τ t):TrX .normal (He Γ b K) τ t:=λr hr=>⟨_,.refl _,h r hr⟩
theorem Qq (hh:Has τ E O) (h:∀ n,Tr Γ b K ⟨E,O,n⟩ t):TrX .normal (He Γ b K) τ t :=
 λr hr=>hh.elim λn hh=>⟨_,hh,h n r hr⟩
theorem Hy (h:TrX (.exit id) K τ t):TrX (.exit id) (He Γ b K) τ t:=h
theorem HS (h:TrX .ret K τ t):TrX .ret (He Γ b K) τ t:=h
theorem KB (h:Tr Γ b (EZ id K) σ t):Tr Γ (.block id b) K σ t:=h
theorem FY (h:TrX .normal K τ t):TrX .normal (EZ id K) τ t:=h
theorem HQ (h:TrX .ret K τ t):TrX .ret (EZ id K) τ t:=h
theorem Hv (h:TrX .normal K τ t):TrX (.exit id) (EZ id K) τ t :=
 λr hr=>by
  show(if id=id then Wk (K r .normal) τ else K r (.exit id) τ)
  rw[if_pos rfl];exact⟨_,.refl _,h r hr⟩
theorem Hu {id':Nat} (hne:aAM id' id=false) (h:TrX (.exit id') K τ t):TrX (.exit id') (EZ id K) τ t :=
 λr hr=>by
  show(if id'=id then Wk (K r .normal) τ else K r (.exit id') τ)
  rw[if_neg (λe=>by simp_all)]
  exact h r hr
theorem LX (h:TrX .normal K σ t):Tr Γ .skip K σ t:=h
theorem MN (h:TrX .ret K σ t):Tr Γ .ret K σ t:=h
theorem LW (h:TrX (.exit id) K σ t):Tr Γ (.exit id) K σ t:=h
def AL {α:Type}:List (Nat×α)->Nat->Option α
 | [],_=>none
 | (k,x)::r,t=>bif aAM t k then some x else AL r t
theorem BE {α:Type}:∀ (l:List (Nat×α)) (t:Nat),AL l t=look l t
 | [],_=>rfl
 | (k,x)::r,t=>by
  simp only[AL,look,BE r t];simp_all
def Aa (e:List (Nat×D)):Arg->Option D
 | .t n=>AL e n
 | .c d=>some d
theorem PL {x:Arg} {c:Bool} (hx:Aa e x=some (.bool c)) (h1:Tr Γ a K ⟨e,o,n⟩ t1) (h2:Tr Γ b K ⟨e,o,n⟩ t2):Tr Γ (.cond x a b) K ⟨e,o,n⟩ (bif c then t1 else t2):=by
 intro r hr;have hv:CO ⟨e,o,n⟩ x= .bool c:=by cases x<;>simp_all[Aa,CO,S.ge,BE]
 simp only[DWp,hv];cases c with
 | true=>exact⟨λ_=>h1 r hr,λh=>by cases h⟩
 | false=>exact⟨λh=>(by cases h),λ_=>h2 r hr⟩
theorem Hz {x:Arg} (hx:Aa e x=some (.bool true)) (h1:Tr Γ a K ⟨e,o,n⟩ t):Tr Γ (.cond x a b) K ⟨e,o,n⟩ t:=by
 intro r hr;have hv:CO ⟨e,o,n⟩ x= .bool true:=by cases x<;>simp_all[Aa,CO,S.ge,BE]
 simp only[DWp,hv];exact⟨λ_=>h1 r hr,λh=>(by cases h)⟩
theorem GC {x:Arg} (hx:Aa e x=some (.bool false)) (h1:Tr Γ b K ⟨e,o,n⟩ t):Tr Γ (.cond x a b) K ⟨e,o,n⟩ t:=by
 intro r hr;have hv:CO ⟨e,o,n⟩ x= .bool false:=by cases x<;>simp_all[Aa,CO,S.ge,BE]
 simp only[DWp,hv];exact⟨λh=>(by cases h),λ_=>h1 r hr⟩
variable {E:ι->γ->List (Nat×D)} {O:ι->γ->List (Nat×Ad)} {j:ι->Option R}
theorem PI (h1:Tr Γ a (Hc E O j K) σ t) (h2:∀ s g n,Tr Γ b K ⟨E s g,O s g,n⟩ (j s)):Tr Γ (.seq a b) K σ t:=by
 intro r hr;refine AJ a _ _ σ (λe τ hq=>?_) (h1 r hr)
 cases e with
 | normal =>
  obtain⟨s,g,hj,m,hw⟩:=hq;exact⟨_,hw,h2 s g _ r hj⟩
 | exit id=>exact hq
 | ret=>exact hq
theorem QZ {s:ι} (g:γ) (h:Has τ (E s g) (O s g)):TrX .normal (Hc E O j K) τ (j s):=λ_ hr=>⟨s,g,hr,h⟩
theorem Hw (h:TrX (.exit id) K τ t):TrX (.exit id) (Hc E O j K) τ t:=h
theorem HR (h:TrX .ret K τ t):TrX .ret (Hc E O j K) τ t:=h
theorem Rr {c:Pc} (h1:Tr Γ b (CQ id E O j K) σ t) (h2:∀ s g n,Tr Γ c K ⟨E s g,O s g,n⟩ (j s)):Tr Γ (.seq (.block id b) c) K σ t:=by
 intro r hr;refine AJ b _ _ σ (λe τ hq=>?_) (h1 r hr)
 cases e with
 | normal =>
  obtain⟨s,g,hj,m,hw⟩:=hq;exact⟨_,hw,h2 s g _ r hj⟩
 | exit id' =>
  simp only[CQ]at hq;simp only[Ar.inBlock];split
  ·rename_i e;rw[if_pos e]at hq;obtain⟨s,g,hj,m,hw⟩:=hq;exact⟨_,hw,_,.refl _,h2 s g _ r hj⟩
  ·rename_i e;rw[if_neg e]at hq;exact hq
 | ret=>exact hq
theorem Aho {s:ι} (g:γ) (h:Has τ (E s g) (O s g)):TrX .normal (CQ id E O j K) τ (j s):=λ_ hr=>⟨s,g,hr,h⟩
theorem GA {s:ι} (g:γ) (h:Has τ (E s g) (O s g)):TrX (.exit id) (CQ id E O j K) τ (j s):=λr hr=>by
 show(if id=id then _ else _)
 grind
theorem Gz {id':Nat} (hne:aAM id' id=false) (h:TrX (.exit id') K τ t):TrX (.exit id') (CQ id E O j K) τ t:=λr hr=>by
 show(if id'=id then _ else _)
 rw[if_neg (λe=>by simp_all)]
 exact h r hr
theorem Ht (h:TrX .ret K τ t):TrX .ret (CQ id E O j K) τ t:=h
theorem Pn {s:ι} (g:γ) (h:Has τ (E s g) (O s g)):TrX .normal (Fw E O K) τ (cnt s):=λr hr=>by
 cases hr;exact⟨g,h⟩
theorem GB (h:TrX (.exit id) K τ t):TrX (.exit id) (Fw E O K) τ (lft t):=λr hr=>by
 cases t with
 | none=>cases hr
 | some x=>cases hr;exact h x rfl
theorem Hx (h:TrX .ret K τ t):TrX .ret (Fw E O K) τ (lft t):=λr hr=>by
 cases t with
 | none=>cases hr
 | some x=>cases hr;exact h x rfl
theorem Qb {body:ι->Option (ι⊕R)} {s:ι} (g:γ) (h0:Has ⟨e,o,n⟩ (E s g) (O s g)) (hb:∀ s g n,Tr Γ b (Fw E O K) ⟨E s g,O s g,n⟩ (body s)):Tr Γ (.loop b) K ⟨e,o,n⟩ (NW body s):=by
 intro r hr;obtain⟨k,hk⟩:=Aeu.1 hr;refine⟨{ x:(ι×γ×Nat)×Nat // AcI body x.2 x.1.1=some r },λx=>⟨E x.1.1.1 x.1.1.2.1,O x.1.1.1 x.1.1.2.1,x.1.1.2.2⟩,λx=>x.1.2,⟨((s,g,h0.choose),k),hk⟩,h0.choose_spec,?_⟩
 rintro⟨⟨⟨s,g,n⟩,k⟩,hk⟩;simp only at hk;cases k with
 | zero=>cases hk
 | succ k =>
  rw[Yn]at hk;cases hx:body s with
  | none=>simp_all
  | some x =>
   rw[hx]at hk;refine AJ b _ _ _ (λe τ hq=>?_) (hb s g n x hx)
   cases x with
   | inr r' =>
    cases hk;cases e with
    | normal=>exact hq.elim
    | exit id=>exact hq
    | ret=>exact hq
   | inl s' =>
    cases e with
    | normal =>
     obtain⟨g',m,hw⟩:=hq;exact⟨⟨((s',g',m),k),hk⟩,Nat.lt_succ_self _,hw⟩
    | exit id=>exact hq.elim
    | ret=>exact hq.elim
end
def rdK:Arg->List Key
 | .t n=>[.e n]
 | .c _=>[]
def lkO (o:List (Nat×Ad)) (g:Nat):Ad:=(AL o g).getD none
def gOn (e:List (Nat×D)):Option (Nat×Bool)->Bool
 | none=>true
 | some (t,want)=>match (AL e t).getD .top with
  | .bool b=>b==want
  | .when p (.bool b)=>p&&(b==want)
  | _=>false
def Mm (e:List (Nat×D)):Option (Nat×Bool)->Bool
 | none=>false
 | some (t,want)=>match (AL e t).getD .top with
  | .bool b=>!(b==want)
  | .when p (.bool b)=>!(p&&(b==want))
  | _=>false
def gK:Option (Nat×Bool)->List Key
 | none=>[]
 | some (t,_)=>[.e t]
section
variable {Γ:An} {X:Type} {K:KR X} {t t1 t2:Option X} {e:List (Nat×D)} {o:List (Nat×Ad)} {n nv:Nat} {d:Bool} {acc:List Ck}
 {r:List As} {dst:Nat} {g:Option (Nat×Bool)} {af:List Nat} {α:Type}
@[simp] theorem Bk (x:Arg):(raw x).run ⟨e,o,n⟩=(Aa e x).getD .top:=by cases x<;>simp[raw,Aa,BE,S.ge]
@[simp] theorem FB (x:Arg):(raw x).rd ⟨e,o,n⟩=rdK x:=by cases x<;>rfl
@[simp] theorem BN (i:Nat):(S.mk e o n).go i=lkO o i:=by simp[S.go,lkO,BE]
@[simp] theorem BF (x:Arg):(rdA x).run ⟨e,o,n⟩=strip ((Aa e x).getD .top):=by simp[rdA]
@[simp] theorem Ik (x:Arg):(rdA x).rd ⟨e,o,n⟩=rdK x:=by simp[rdA]
theorem ON {m:Option α} {k:α->Option X} (h:∀ x,m=some x->TrO Γ ops nv σ d acc K (k x)):TrO Γ ops nv σ d acc K (m.bind k):=by
 intro r hr;obtain⟨x,hx,hk⟩:=aAI.1 hr;exact h x hx r hk
theorem Qa [Decidable p] (h:p->TrO Γ ops nv σ d acc K t):TrO Γ ops nv σ d acc K (chk p t):=by
 intro r hr;obtain⟨hp,ht⟩:=Kd hr;exact h hp r ht
theorem Ap {dst:Option Nat} {rd:List Key} (hg:gOn e g=true) (hu:(evalOp Γ nv dst op).run ⟨e,o,n⟩=⟨c,we,wo⟩) (hrd:(evalOp Γ nv dst op).rd ⟨e,o,n⟩=rd) (hc:c) (h:TrO Γ r (nv+1) ⟨we++e,wo++o,n⟩ d (acc++[(gK g++rd,we.map (λx=>.e x.1)++wo.map (λx=>.o x.1),af)]) K t) :
  TrO Γ (⟨dst,op,g,af⟩::r) nv ⟨e,o,n⟩ d acc K t:=by
 intro x hx;obtain⟨h1,h2⟩:=h x hx;have key:((At Γ nv ⟨dst,op,g,af⟩).run ⟨e,o,n⟩).c/\((At Γ nv ⟨dst,op,g,af⟩).run ⟨e,o,n⟩).we=we/\((At Γ nv ⟨dst,op,g,af⟩).run ⟨e,o,n⟩).wo=wo /\
   (At Γ nv ⟨dst,op,g,af⟩).rd ⟨e,o,n⟩=gK g++rd:=by
  cases g with
  | none =>
   simp_all[At,gK]
  | some p =>
   obtain⟨tt,want⟩:=p;have hg2:(guardOf ((S.mk e o n).ge tt) want).2=true/\(guardOf ((S.mk e o n).ge tt) want).1:=by
    grind [gOn,BE,S.ge,guardOf]
   simp only[At,R.JM,R.Nu,hg2.1,if_true,R.run_bind,R.CL,R.run_pure,R.FU,hu,hrd,gK];simp_all
 obtain⟨k1,k2,k3,k4⟩:=key;have happ:(S.mk e o n).app ((At Γ nv ⟨dst,op,g,af⟩).run ⟨e,o,n⟩)=⟨we++e,wo++o,n⟩:=by grind [S.app]
 refine⟨λhd=>.inl ⟨k1,by simp_all⟩,λhd=>⟨⟨k1,by simp_all⟩,?_⟩⟩
 grind [Cx]
theorem LU (hg:Mm e g=true) (h:TrO Γ r (nv+1) ⟨(dst,.when false (.bool false))::e,o,n⟩ d (acc++[(gK g,[.e dst],af)]) K t):TrO Γ (⟨some dst,op,g,af⟩::r) nv ⟨e,o,n⟩ d acc K t:=by
 intro x hx;obtain⟨h1,h2⟩:=h x hx;cases g with
 | none=>cases hg
 | some p =>
  obtain⟨tt,want⟩:=p;have hg2:(guardOf ((S.mk e o n).ge tt) want).2=false/\(guardOf ((S.mk e o n).ge tt) want).1:=by
   grind [Mm,BE,S.ge,guardOf]
  have hu:(At Γ nv ⟨some dst,op,some (tt,want),af⟩).run ⟨e,o,n⟩=⟨(guardOf ((S.mk e o n).ge tt) want).1,[(dst,.when false (.bool false))],[]⟩:=by
   simp_all[At,Ah]
  have hr:(At Γ nv ⟨some dst,op,some (tt,want),af⟩).rd ⟨e,o,n⟩=[.e tt]:=by
   simp_all[At]
  refine⟨λhd=>.inl ⟨by simp_all,by rw[hu];exact h1 hd⟩,λhd=>⟨⟨by simp_all,by rw[hu];exact(h2 hd).1⟩,?_⟩⟩
  grind [Cx,gK,S.app]
def Dj:List (Nat×D)->Nat->D->List (Nat×D)
 | [],_,_=>[]
 | (k,y)::r,t,v=>bif aAM t k then(k,v)::r else(k,y)::Dj r t v
theorem ET:∀ {e:List (Nat×D)} {x:Nat} {v:D},AL e x=some v->Dj e x v=e
 | [],_,_,h=>by cases h
 | (k,y)::r,x,v,h=>by
  simp only[AL]at h;simp only[Dj];cases hb:aAM x k with
  | true =>
   simp_all
  | false =>
   rw[hb]at h;simp only[cond_false]at h ⊢;rw[ET h]
theorem JS (x:Nat) {b:Bool} (hx:AL e x=some (.bool b)) (h1:TrO Γ ops nv ⟨Dj e x (.bool true),o,n⟩ d acc K t1) (h2:TrO Γ ops nv ⟨Dj e x (.bool false),o,n⟩ d acc K t2) :
  TrO Γ ops nv ⟨e,o,n⟩ d acc K (bif b then t1 else t2):=by
 grind [ET]
variable {x y:Arg} {v w:D} {k k':IntKind} {a b:Int} {s ty gi vi ii off m:Nat} {fz var:Bool} {es:List D} {z z':D} {l l':List α} {en:α->D}
attribute [local simp] evalOp Ah AV Bv strip Oy
theorem DY (p q u w:Nat):strip (.optr p q u w)=(true,.optr p q u w):=rfl
theorem MJ (hg:gOn e g=true) (hx:Aa e x=some v) (h:TrO Γ r (nv+1) ⟨(dst,v)::e,o,n⟩ d (acc++[(gK g++rdK x,[.e dst],af)]) K t) :
  TrO Γ (⟨some dst,.mv x,g,af⟩::r) nv ⟨e,o,n⟩ d acc K t :=
 Ap hg (c:=True) (we:=[(dst,v)]) (wo:=[]) (rd:=rdK x) (by simp[hx]) (by simp) trivial h
theorem LI (hg:gOn e g=true) (hx:Aa e x=some v) (h:TrO Γ r (nv+1) ⟨(dst,v)::e,o,n⟩ d (acc++[(gK g++rdK x,[.e dst],af)]) K t) :
  TrO Γ (⟨some dst,.asg x none,g,af⟩::r) nv ⟨e,o,n⟩ d acc K t :=
 Ap hg (c:=True) (we:=[(dst,v)]) (wo:=[]) (rd:=rdK x) (by simp_all) (by simp_all) trivial h
theorem HL (hg:gOn e g=true) (en:α->D) (hx:Aa e x=some .nils) (h:TrO Γ r (nv+1) ⟨(dst,.osl dst nv 0 ([]:List α).length)::e,(dst,some (nv,⟨false,false,s,ty,([]:List α).map en⟩))::o,n⟩ d (acc++[(gK g++rdK x,[.e dst,.o dst],af)]) K t) :
  TrO Γ (⟨some dst,.asg x (some (s,ty)),g,af⟩::r) nv ⟨e,o,n⟩ d acc K t :=
 Ap hg (c:=True) (we:=[(dst,.osl dst nv 0 0)]) (wo:=[(dst,some (nv,⟨false,false,s,ty,[]⟩))]) (rd:=rdK x) (by simp[hx]) (by simp[hx]) trivial h
theorem Jg (hg:gOn e g=true) (hx:Aa e x=some (.sl es)) (h:TrO Γ r (nv+1) ⟨(dst,.sl es)::e,o,n⟩ d (acc++[(gK g++rdK x,[.e dst],af)]) K t) :
  TrO Γ (⟨some dst,.asg x (some (s,ty)),g,af⟩::r) nv ⟨e,o,n⟩ d acc K t :=
 Ap hg (c:=True) (we:=[(dst,.sl es)]) (wo:=[]) (rd:=rdK x) (by simp[hx]) (by simp[hx]) trivial h
theorem HM {s':Nat} (hq:q=l.length) (hg:gOn e g=true) (hx:Aa e x=some (.osl gi vi 0 q)) (ho:lkO o gi=some (vi,⟨false,false,s,ty,l.map en⟩)) (h:TrO Γ r (nv+1) ⟨(dst,.osl dst nv 0 l.length)::e,(dst,some (nv,⟨false,false,s,ty,l.map en⟩))::(gi,none)::o,n⟩ d (acc++[(gK g++(rdK x++[.o gi]),[.e dst,.o dst,.o gi],af)]) K t) (hrg:Ae gi=false:=by rfl) :
  TrO Γ (⟨some dst,.asg x (some (s',ty')),g,af⟩::r) nv ⟨e,o,n⟩ d acc K t :=
 Ap hg (c:=True) (we:=[(dst,.osl dst nv 0 l.length)]) (wo:=[(dst,some (nv,⟨false,false,s,ty,l.map en⟩)),(gi,none)]) (rd:=rdK x++[Key.o gi]) (by simp_all[nmR,Dy,aAB]) (by simp_all) trivial h
theorem HK {s':Nat} (hg:gOn e g=true) (hx:Aa e x=some (.osl gi vi 0 q)) (ho:lkO o gi=some (vi,⟨false,false,s,ty,l.map en⟩)) (hq:q<=l.length) (h:TrO Γ r (nv+1) ⟨(dst,.osl dst nv 0 (l.take q).length)::e,(dst,some (nv,⟨false,false,s,ty,(l.take q).map en⟩))::(gi,none)::o,n⟩ d (acc++[(gK g++(rdK x++[.o gi]),[.e dst,.o dst,.o gi],af)]) K t) (hrg:Ae gi=false:=by rfl) :
  TrO Γ (⟨some dst,.asg x (some (s',ty')),g,af⟩::r) nv ⟨e,o,n⟩ d acc K t :=
 Ap hg (c:=True) (we:=[(dst,.osl dst nv 0 (l.take q).length)]) (wo:=[(dst,some (nv,⟨false,false,s,ty,(l.take q).map en⟩)),(gi,none)]) (rd:=rdK x++[Key.o gi]) (by simp_all[nmR,Dy]) (by simp_all) trivial h
theorem Jf {s':Nat} (hq:q=l.length) (hg:gOn e g=true) (hx:Aa e x=some (.osl gi vi 0 q)) (ho:lkO o gi=some (vi,⟨true,false,s,ty,l.map en⟩)) (h:TrO Γ r (nv+1) ⟨(dst,.sl (l.map en))::e,o,n⟩ d (acc++[(gK g++(rdK x++[.o gi]),[.e dst],af)]) K t) :
  TrO Γ (⟨some dst,.asg x (some (s',ty')),g,af⟩::r) nv ⟨e,o,n⟩ d acc K t :=
 Ap hg (c:=True) (we:=[(dst,.sl (l.map en))]) (wo:=[]) (rd:=rdK x++[Key.o gi]) (by simp_all[aAB]) (by simp_all) trivial h
def isB:Option D->Bool
 | some (.bool _)=>true
 | some (.when _ (.bool _))=>true
 | _=>false
theorem JE {x:Option D} (h:isB x=true):∃ (p q:Bool),strip (x.getD .top)=(p,.bool q):=by
 unfold isB at h;split at h
 all_goals simp_all
theorem Gw {c:Arg} {p:Bool} (hg:gOn e g=true) (hc:Aa e c=some (.bool true)) (hx:Aa e x=some (.bool p)) (hy:isB (Aa e y)=true)
  (h:TrO Γ r (nv+1) ⟨(dst,.bool p)::e,o,n⟩ d (acc++[(gK g++(rdK c++(rdK x++rdK y)),[.e dst],af)]) K t) :
  TrO Γ (⟨some dst,.pick c x y,g,af⟩::r) nv ⟨e,o,n⟩ d acc K t:=by
 obtain⟨b1,q,hq'⟩:=JE hy;refine Ap hg (c:=True) (we:=[(dst,.bool p)]) (wo:=[]) (rd:=rdK c++(rdK x++rdK y)) ?_ ?_ trivial h
 ·simp_all
 simp_all
theorem FX {c:Arg} {p:Bool} (hg:gOn e g=true) (hc:Aa e c=some (.bool false)) (hx:isB (Aa e x)=true) (hy:Aa e y=some (.bool p))
  (h:TrO Γ r (nv+1) ⟨(dst,.bool p)::e,o,n⟩ d (acc++[(gK g++(rdK c++(rdK x++rdK y)),[.e dst],af)]) K t) :
  TrO Γ (⟨some dst,.pick c x y,g,af⟩::r) nv ⟨e,o,n⟩ d acc K t:=by
 obtain⟨b1,q,hq'⟩:=JE hx;refine Ap hg (c:=True) (we:=[(dst,.bool p)]) (wo:=[]) (rd:=rdK c++(rdK x++rdK y)) ?_ ?_ trivial h
 ·simp_all
 simp_all
theorem LR (hg:gOn e g=true) (h:TrO Γ r (nv+1) ⟨(dst,.optr dst nv 0 0)::e,(dst,some (nv,⟨false,true,s,ty,[z]⟩))::o,n⟩ d (acc++[(gK g++[],[.e dst,.o dst],af)]) K t) :
  TrO Γ (⟨some dst,.new z s ty,g,af⟩::r) nv ⟨e,o,n⟩ d acc K t :=
 Ap hg (c:=True) (we:=[(dst,.optr dst nv 0 0)]) (wo:=[(dst,some (nv,⟨false,true,s,ty,[z]⟩))]) (rd:=[]) (by simp) (by simp) trivial h
theorem LK (hg:gOn e g=true) (hx:Aa e x=some v) (hw:strip v=(true,v)) (hk:known v=true) (hl:(cells v).length=s)
  (h:TrO Γ r (nv+1) ⟨(dst,.optr dst nv 0 0)::e,(dst,some (nv,⟨false,true,s,ty,[v]⟩))::o,n⟩ d (acc++[(gK g++rdK x,[.e dst,.o dst],af)]) K t) :
  TrO Γ (⟨some dst,.box x s ty,g,af⟩::r) nv ⟨e,o,n⟩ d acc K t :=
 Ap hg (c:=True) (we:=[(dst,.optr dst nv 0 0)]) (wo:=[(dst,some (nv,⟨false,true,s,ty,[v]⟩))]) (rd:=rdK x) (by simp_all) (by simp) trivial h
def Ca (e:List (Nat×D)):List (Nat×Nat×Arg)->List (Nat×Nat×D)
 | []=>[]
 | (a,b,x)::r=>(a,b,(Aa e x).getD .top)::Ca e r
def CK:List (Nat×Nat×Arg)->List Key
 | []=>[]
 | (_,_,x)::r=>rdK x++CK r
def DJ:Nat->List (Nat×Nat×D)->Bool
 | _,[]=>true
 | n,(off,s,d)::r=>known d&&(aAM (cells d).length s&&(aAH (off+s) n&&DJ n r))
theorem Ft:∀ {n:Nat} {l:List (Nat×Nat×D)},DJ n l=true->DI n l
 | _,[],_=>trivial
 | n,(off,s,d)::r,h=>by
  simp only[DJ,Bool.and_eq_true]at h;exact⟨h.1,aAS h.2.1,aAC h.2.2.1,Ft h.2.2.2⟩
theorem ER:∀ parts:List (Nat×Nat×Arg),(BU parts).run ⟨e,o,n⟩=Ca e parts
 | []=>rfl
 | (a,b,x)::r=>by simp[BU,Ca,ER r]
theorem FE:∀ parts:List (Nat×Nat×Arg),(BU parts).rd ⟨e,o,n⟩=CK parts
 | []=>rfl
 | (a,b,x)::r=>by simp[BU,CK,FE r]
theorem LJ {zs:List D} (hg:gOn e g=true) (hp:Ca e parts=ps) (hf:DJ zs.length ps=true) (hz:DS zs ps=cs) (h:TrO Γ r (nv+1) ⟨(dst,.agg cs)::e,o,n⟩ d (acc++[(gK g++CK parts,[.e dst],af)]) K t) :
  TrO Γ (⟨some dst,.bld zs parts,g,af⟩::r) nv ⟨e,o,n⟩ d acc K t :=
 Ap hg (c:=DI zs.length ps) (we:=[(dst,.agg cs)]) (wo:=[]) (rd:=CK parts) (by simp_all[ER]) (by simp[FE]) (Ft hf) h
def GU (s len:Nat) (ps:List (Nat×D)):Bool:=ps.all λp=>known p.2&&(aAM (cells p.2).length s&&aAD p.1 len)
theorem Ts {len:Nat} {parts:List (Nat×Arg)} {ps:List (Nat×D)} (l:List α) (en:α->D) (hg:gOn e g=true) (hr:(AQ parts).run ⟨e,o,n⟩=(c,ps,wo)) (hk:(AQ parts).rd ⟨e,o,n⟩=rk) (hc:c) (hp:GU s len ps=true) (hes:Zm (aAG len z) ps=l.map en) (hlen:l.length=len) (h:TrO Γ r (nv+1) ⟨(dst,.osl dst nv 0 l.length)::e,(dst,some (nv,⟨false,false,s,ty,l.map en⟩))::(wo++o),n⟩ d (acc++[(gK g++rk,[.e dst,.o dst]++wo.map (λx=>.o x.1),af)]) K t) :
  TrO Γ (⟨some dst,.bldS s ty z len parts,g,af⟩::r) nv ⟨e,o,n⟩ d acc K t:=by
 have h1:∀ p∈ps,known p.2=true/\(cells p.2).length=s/\p.1<len:=by
  intro p hp';have:=List.all_eq_true.1 hp p hp';simp_all
 subst hlen;exact Ap hg (c:=c/\∀ p∈ps,known p.2=true/\(cells p.2).length=s/\p.1<l.length) (we:=[(dst,.osl dst nv 0 l.length)]) (wo:=(dst,some (nv,⟨false,false,s,ty,l.map en⟩))::wo) (rd:=rk) (by simp_all) (by simp[hk]) ⟨hc,h1⟩ (by simp_all)
theorem Dc {q:α} (h:l[i]? =some q):(l.map en)[i]? =some (en q):=by simp[h]
theorem AfG (hg:gOn e g=true) (hx:Aa e x=some (.optr gi vi i off)) (ho:lkO o gi=some (vi,⟨fz,var,s,ty,es⟩)) (hz:es[i]? =some z) (hb:aAH (off+m) (cells z).length=true) (hv:On (cells z) off m agg=v) (h:TrO Γ r (nv+1) ⟨(dst,v)::e,o,n⟩ d (acc++[(gK g++(rdK x++[.o gi]),[.e dst],af)]) K t) (hpl:(plain v|| !Ae gi)=true:=by rfl) :
  TrO Γ (⟨some dst,.ld m agg x,g,af⟩::r) nv ⟨e,o,n⟩ d acc K t:=by
 obtain⟨hi,rfl⟩:=aA.1 hz;have hb':=aAC hb;have hgd:es.getD i .top=es[i]:=by simp[hi]
 refine Ap hg (c:=True) (we:=[(dst,v)]) (wo:=[]) (rd:=rdK x++[Key.o gi]) ?_ ?_ trivial h
 ·simp only[evalOp,R.run_bind,BF,aAA,hx,strip,R.Cg,BN,ho,Ah,hgd,hv];cases hrg:Ae gi with
  | false=>simp_all
  | true=>cases v<;>first|(simp[hi,hb'];done)|(rw[hrg]at hpl;cases hpl)
 ·simp only[evalOp,R.CL,BF,Ik,aAA,hx,strip,R.GI,BN,ho,hgd,hv];cases hrg:Ae gi with
  | false=>simp
  | true=>cases v<;>first|(simp;done)|(rw[hrg]at hpl;cases hpl)
theorem DZ (hg:gOn e g=true) (hx:Aa e x=some (.fptr z off)) (hb:aAH (off+m) (cells z).length=true) (hv:On (cells z) off m agg=v) (h:TrO Γ r (nv+1) ⟨(dst,v)::e,o,n⟩ d (acc++[(gK g++rdK x,[.e dst],af)]) K t) :
  TrO Γ (⟨some dst,.ld m agg x,g,af⟩::r) nv ⟨e,o,n⟩ d acc K t:=by
 have hb':=aAC hb;refine Ap hg (c:=True) (we:=[(dst,v)]) (wo:=[]) (rd:=rdK x) ?_ ?_ trivial h
 all_goals simp_all
theorem Vn (hg:gOn e g=true) (hx:Aa e x=some (.optr gi vi 0 off)) (hy:Aa e y=some v) (hw:strip v=(true,v)) (ho:lkO o gi=some (vi,⟨false,true,s,ty,[z]⟩)) (hk:known v=true) (hl:(cells v).length=m)
  (hb:aAH (off+m) (cells z).length=true) (hz:Qf z off (cells v)=z')
  (h:TrO Γ r (nv+1) ⟨e,(gi,some (vi,⟨false,true,s,ty,[z']⟩))::o,n⟩ d (acc++[(gK g++(rdK x++(rdK y++[.o gi])),[.o gi],af)]) K t) (hrg:Ae gi=false:=by rfl) :
  TrO Γ (⟨none,.st m x y,g,af⟩::r) nv ⟨e,o,n⟩ d acc K t:=by
 have hb':=aAC hb;refine Ap hg (c:=True) (we:=[]) (wo:=[(gi,some (vi,⟨false,true,s,ty,[z']⟩))]) (rd:=rdK x++(rdK y++[Key.o gi])) ?_ ?_ trivial h
 ·simp_all
 simp_all
theorem YU {q q':α} {v':D} (hg:gOn e g=true) (hx:Aa e x=some (.optr gi vi i off)) (hy:Aa e y=some v) (hw:strip v=(true,v)) (ho:lkO o gi=some (vi,⟨false,false,s,ty,l.map en⟩)) (hr:(res v).run ⟨e,o,n⟩=(c,v',wo)) (hrd:(res v).rd ⟨e,o,n⟩=rk) (hc:c) (hi:l[i]? =some q) (hk:known v'=true) (hl:(cells v').length=m) (hb:aAH (off+m) (cells (en q)).length=true) (hz:Qf (en q) off (cells v')=en q') (hwo:wo.all (λx=>x.1 != gi)=true) (h:TrO Γ r (nv+1) ⟨e,(gi,some (vi,⟨false,false,s,ty,(l.set i q').map en⟩))::(wo++o),n⟩ d (acc++[(gK g++(rdK x++(rdK y++(.o gi::rk))),.o gi::wo.map (λx=>.o x.1),af)]) K t) (hrg:Ae gi=false:=by rfl) :
  TrO Γ (⟨none,.st m x y,g,af⟩::r) nv ⟨e,o,n⟩ d acc K t:=by
 have hb':=aAC hb;obtain⟨hi',rfl⟩:=aA.1 hi;refine Ap hg (c:=True) (we:=[]) (wo:=(gi,some (vi,⟨false,false,s,ty,(l.set i q').map en⟩))::wo) (rd:=rdK x++(rdK y++(Key.o gi::rk))) ?_ ?_ trivial (by simp_all)
 ·simp only[evalOp,R.run_bind,BF,aAA,hx,hy,hw,DY,R.Cg,BN,ho,hrg,aAR,if_false,hr,R.run_pure]
  grind [aAl]
 simp_all
theorem JR (hg:gOn e g=true) (hx:Aa e x=some v) (hv:(match v with| .optr .. | .fptr ..=>true|_=>false)=true) (h:TrO Γ r (nv+1) ⟨(dst,v)::e,o,n⟩ d (acc++[(gK g++rdK x,[.e dst],af)]) K t) :
  TrO Γ (⟨some dst,.nilck x,g,af⟩::r) nv ⟨e,o,n⟩ d acc K t :=
 Ap hg (c:=True) (we:=[(dst,v)]) (wo:=[]) (rd:=rdK x) (by cases v<;>simp[hx]at hv ⊢) (by cases v<;>simp[hx]at hv ⊢) trivial h
theorem It {op:BinOp} (hg:gOn e g=true) (hx:Aa e x=some (.int k a)) (hy:Aa e y=some (.int k' b)) (hb:FK op (.int k a) (.int k' b)=(c,v)) (hc:c) (h:TrO Γ r (nv+1) ⟨(dst,v)::e,o,n⟩ d (acc++[(gK g++(rdK x++rdK y),[.e dst],af)]) K t) :
  TrO Γ (⟨some dst,.bin op x y,g,af⟩::r) nv ⟨e,o,n⟩ d acc K t :=
 Ap hg (c:=c) (we:=[(dst,v)]) (wo:=[]) (rd:=rdK x++rdK y) (by simp_all) (by simp) hc h
theorem EU {op:BinOp} {p q:List UInt8} (hg:gOn e g=true) (hx:Aa e x=some (.str p)) (hy:Aa e y=some (.str q)) (hb:FK op (.str p) (.str q)=(c,v)) (hc:c) (h:TrO Γ r (nv+1) ⟨(dst,v)::e,o,n⟩ d (acc++[(gK g++(rdK x++rdK y),[.e dst],af)]) K t) :
  TrO Γ (⟨some dst,.bin op x y,g,af⟩::r) nv ⟨e,o,n⟩ d acc K t :=
 Ap hg (c:=c) (we:=[(dst,v)]) (wo:=[]) (rd:=rdK x++rdK y) (by simp_all) (by simp) hc h
theorem Iu {neg p q:Bool} (hg:gOn e g=true) (hx:Aa e x=some (.bool p)) (hy:Aa e y=some (.bool q))
  (h:TrO Γ r (nv+1) ⟨(dst,.bool (if neg then !(p==q)else(p==q)))::e,o,n⟩ d (acc++[(gK g++(rdK x++rdK y),[.e dst],af)]) K t) :
  TrO Γ (⟨some dst,.eqB neg x y,g,af⟩::r) nv ⟨e,o,n⟩ d acc K t :=
 Ap hg (c:=True) (we:=[(dst,.bool (if neg then !(p==q)else(p==q)))]) (wo:=[]) (rd:=rdK x++rdK y) (by simp_all) (by simp_all) trivial h
theorem LM {neg p:Bool} (hg:gOn e g=true) (hx:Aa e x=some (.agg cs)) (hy:Aa e y=some (.agg cs')) (hq:eqL cs cs'=(c,p)) (hc:c) (hn:aAM cs.length m=true) (h:TrO Γ r (nv+1) ⟨(dst,.bool (if neg then !p else p))::e,o,n⟩ d (acc++[(gK g++(rdK x++rdK y),[.e dst],af)]) K t) :
  TrO Γ (⟨some dst,.eqA m neg x y,g,af⟩::r) nv ⟨e,o,n⟩ d acc K t:=by
 have hn':=aAS hn;exact Ap hg (c:=True) (we:=[(dst,.bool (if neg then !p else p))]) (wo:=[]) (rd:=rdK x++rdK y) (by simp_all) (by simp_all) trivial h
theorem MK {op:UnOp} (hg:gOn e g=true) (hx:Aa e x=some v) (hw:strip v=(true,v)) (hb:unD op v=(c,w)) (hc:c) (h:TrO Γ r (nv+1) ⟨(dst,w)::e,o,n⟩ d (acc++[(gK g++rdK x,[.e dst],af)]) K t) :
  TrO Γ (⟨some dst,.un op x,g,af⟩::r) nv ⟨e,o,n⟩ d acc K t :=
 Ap hg (c:=c) (we:=[(dst,w)]) (wo:=[]) (rd:=rdK x) (by simp_all) (by simp) hc h
theorem LL (hg:gOn e g=true) (hx:Aa e x=some (.int k' a)) (h:TrO Γ r (nv+1) ⟨(dst,.int k (k.wrap a))::e,o,n⟩ d (acc++[(gK g++rdK x,[.e dst],af)]) K t) :
  TrO Γ (⟨some dst,.cvt k x,g,af⟩::r) nv ⟨e,o,n⟩ d acc K t :=
 Ap hg (c:=True) (we:=[(dst,.int k (k.wrap a))]) (wo:=[]) (rd:=rdK x) (by simp[hx]) (by simp[hx]) trivial h
theorem LQ {q:α} (en:α->D) (hg:gOn e g=true) (hx:Aa e x=some (.int k a)) (hy:Aa e y=some (.int k' a)) (hz:z=en q) (hl:0<=a/\a<=16777216) (hby:aAH bytes 65536=true) (h:TrO Γ r (nv+1) ⟨(dst,.osl dst nv 0 (aAG a.toNat q).length)::e,(dst,some (nv,⟨false,false,s,ty,(aAG a.toNat q).map en⟩))::o,n⟩ d (acc++[(gK g++(rdK x++rdK y),[.e dst,.o dst],af)]) K t) :
  TrO Γ (⟨some dst,.mkS s ty bytes z x y,g,af⟩::r) nv ⟨e,o,n⟩ d acc K t:=by
 have:=aAC hby;subst hz;exact Ap hg (c:=True) (we:=[(dst,.osl dst nv 0 (aAG a.toNat q).length)]) (wo:=[(dst,some (nv,⟨false,false,s,ty,(aAG a.toNat q).map en⟩))]) (rd:=rdK x++rdK y) (by simp_all) (by simp_all) trivial h
theorem Kz (hg:gOn e g=true) (hx:Aa e x=some (.optr gi vi i off)) (h:TrO Γ r (nv+1) ⟨(dst,.optr gi vi i (off+m))::e,o,n⟩ d (acc++[(gK g++rdK x,[.e dst],af)]) K t) :
  TrO Γ (⟨some dst,.fldA m x,g,af⟩::r) nv ⟨e,o,n⟩ d acc K t :=
 Ap hg (c:=True) (we:=[(dst,.optr gi vi i (off+m))]) (wo:=[]) (rd:=rdK x) (by simp[hx]) (by simp[hx]) trivial h
theorem Jh (hg:gOn e g=true) (hx:Aa e x=some (.fptr z off)) (h:TrO Γ r (nv+1) ⟨(dst,.fptr z (off+m))::e,o,n⟩ d (acc++[(gK g++rdK x,[.e dst],af)]) K t) :
  TrO Γ (⟨some dst,.fldA m x,g,af⟩::r) nv ⟨e,o,n⟩ d acc K t :=
 Ap hg (c:=True) (we:=[(dst,.fptr z (off+m))]) (wo:=[]) (rd:=rdK x) (by simp[hx]) (by simp[hx]) trivial h
theorem Iv (hg:gOn e g=true) (hx:Aa e x=some (.agg cs)) (hb:aAH (off+m) cs.length=true) (hv:On cs off m agg=v) (h:TrO Γ r (nv+1) ⟨(dst,v)::e,o,n⟩ d (acc++[(gK g++rdK x,[.e dst],af)]) K t) :
  TrO Γ (⟨some dst,.fld off m agg x,g,af⟩::r) nv ⟨e,o,n⟩ d acc K t:=by
 have hb':=aAC hb;exact Ap hg (c:=True) (we:=[(dst,v)]) (wo:=[]) (rd:=rdK x) (by simp_all) (by simp[hx]) trivial h
theorem Da {q:α} (hg:gOn e g=true) (hx:Aa e x=some (.sl (l.map en))) (hy:Aa e y=some (.int k a)) (hi:ixO l a=some q) (hs:(cells (en q)).length=s)
  (h:TrO Γ r (nv+1) ⟨(dst,.fptr (en q) 0)::e,o,n⟩ d (acc++[(gK g++(rdK x++rdK y),[.e dst],af)]) K t) :
  TrO Γ (⟨some dst,.ixA s x y,g,af⟩::r) nv ⟨e,o,n⟩ d acc K t:=by
 obtain⟨h0,h1,h2⟩:=AbF hi;refine Ap hg (c:=True) (we:=[(dst,.fptr (en q) 0)]) (wo:=[]) (rd:=rdK x++rdK y) ?_ (by simp_all) trivial h
 simp_all
theorem Aeq (hq:q=l.length) (hg:gOn e g=true) (hx:Aa e x=some (.osl gi vi 0 q)) (hy:Aa e y=some (.int k a)) (ho:lkO o gi=some (vi,⟨fz,false,s,ty,l.map en⟩)) (hi:0<=a/\a<l.length) (h:TrO Γ r (nv+1) ⟨(dst,.optr gi vi a.toNat 0)::e,o,n⟩ d (acc++[(gK g++(rdK x++(rdK y++[.o gi])),[.e dst],af)]) K t) :
  TrO Γ (⟨some dst,.ixA s x y,g,af⟩::r) nv ⟨e,o,n⟩ d acc K t:=by
 subst hq;refine Ap hg (c:=True) (we:=[(dst,.optr gi vi a.toNat 0)]) (wo:=[]) (rd:=rdK x++(rdK y++[Key.o gi])) ?_ (by simp_all) trivial h
 simp_all
theorem LN (hg:gOn e g=true) (hx:Aa e x=some (.tup ds)) (hi:ds[i]? =some v) (h:TrO Γ r (nv+1) ⟨(dst,v)::e,o,n⟩ d (acc++[(gK g++rdK x,[.e dst],af)]) K t) :
  TrO Γ (⟨some dst,.ext x i,g,af⟩::r) nv ⟨e,o,n⟩ d acc K t:=by
 have hl:=(aA.1 hi).1;exact Ap hg (c:=True) (we:=[(dst,v)]) (wo:=[]) (rd:=rdK x) (by simp_all) (by simp[hx]) trivial h
theorem Jj (hg:gOn e g=true) (hx:Aa e x=some (.sl (l.map en))) (h:TrO Γ r (nv+1) ⟨(dst,.int .i64 l.length)::e,o,n⟩ d (acc++[(gK g++rdK x,[.e dst],af)]) K t) :
  TrO Γ (⟨some dst,.len false x,g,af⟩::r) nv ⟨e,o,n⟩ d acc K t :=
 Ap hg (c:=True) (we:=[(dst,.int .i64 l.length)]) (wo:=[]) (rd:=rdK x) (by simp[hx]) (by simp[hx]) trivial h
theorem HO (hg:gOn e g=true) (hx:Aa e x=some (.osl gi vi i q)) (h:TrO Γ r (nv+1) ⟨(dst,.int .i64 q)::e,o,n⟩ d (acc++[(gK g++rdK x,[.e dst],af)]) K t) :
  TrO Γ (⟨some dst,.len false x,g,af⟩::r) nv ⟨e,o,n⟩ d acc K t :=
 Ap hg (c:=True) (we:=[(dst,.int .i64 q)]) (wo:=[]) (rd:=rdK x) (by simp[hx]) (by simp[hx]) trivial h
theorem HN (hg:gOn e g=true) (hx:Aa e x=some .nils) (h:TrO Γ r (nv+1) ⟨(dst,.int .i64 0)::e,o,n⟩ d (acc++[(gK g++rdK x,[.e dst],af)]) K t) :
  TrO Γ (⟨some dst,.len false x,g,af⟩::r) nv ⟨e,o,n⟩ d acc K t :=
 Ap hg (c:=True) (we:=[(dst,.int .i64 0)]) (wo:=[]) (rd:=rdK x) (by simp[hx]) (by simp[hx]) trivial h
theorem HP {p:List UInt8} (hg:gOn e g=true) (hx:Aa e x=some (.str p)) (h:TrO Γ r (nv+1) ⟨(dst,.int .i64 p.length)::e,o,n⟩ d (acc++[(gK g++rdK x,[.e dst],af)]) K t) :
  TrO Γ (⟨some dst,.len true x,g,af⟩::r) nv ⟨e,o,n⟩ d acc K t :=
 Ap hg (c:=True) (we:=[(dst,.int .i64 p.length)]) (wo:=[]) (rd:=rdK x) (by simp[hx]) (by simp[hx]) trivial h
theorem Alu {c':Prop} {new old:List D} {rk':List Key} (l l':List α) (en:α->D) (hg:gOn e g=true) (hx:Aa e x=some v) (hy:Aa e y=some w) (hvw:strip v=(true,v)) (hww:strip w=(true,w)) (hv:(view w).run ⟨e,o,n⟩=(c,new)) (hvr:(view w).rd ⟨e,o,n⟩=rk) (hc:c) (hn:new=l'.map en) (ht:(target s ty v).run ⟨e,o,n⟩=(c',old,wo,false)) (htr:(target s ty v).rd ⟨e,o,n⟩=rk') (hc':c') (ho:old=l.map en) (hs:∀ q,(cells (en q)).length=s) (hby:aAH bytes 65536=true) (hl:l.length+l'.length<=16777216) (h:TrO Γ r (nv+1) ⟨(dst,.osl dst nv 0 (l++l').length)::e,(dst,some (nv,⟨false,false,s,ty,(l++l').map en⟩))::(wo++o),n⟩ d (acc++[(gK g++(rdK x++(rdK y++(rk++rk'))),[.e dst,.o dst]++wo.map (λx=>.o x.1),af)]) K t) :
  TrO Γ (⟨some dst,.app s ty bytes x y,g,af⟩::r) nv ⟨e,o,n⟩ d acc K t:=by
 have hb':=aAC hby;subst hn;subst ho;refine Ap hg (c:=True) (we:=[(dst,.osl dst nv 0 (l++l').length)]) (wo:=(dst,some (nv,⟨false,false,s,ty,(l++l').map en⟩))::wo) (rd:=rdK x++(rdK y++(rk++rk'))) ?_ ?_ trivial (by simp_all)
 ·simp only[evalOp,R.run_bind,BF,aAA,hx,hy,hvw,hww,source,hv,ht,R.run_pure,Ah,Dy,nmR,cond_false];simp_all
 grind [evalOp,R.CL,BF,Ik,source,R.FU]
theorem LO (hg:gOn e g=true) (hx:Aa e x=some (.int k a)) (hy:Aa e y=some (.int k b)) (h:TrO Γ r (nv+1) ⟨(dst,.int k (OI a b))::e,o,n⟩ d (acc++[(gK g++(rdK x++rdK y),[.e dst],af)]) K t) :
  TrO Γ (⟨some dst,.max [x,y],g,af⟩::r) nv ⟨e,o,n⟩ d acc K t :=
 Ap hg (c:=True) (we:=[(dst,.int k (OI a b))]) (wo:=[]) (rd:=rdK x++rdK y) (by simp[AF,hx,hy,Dv]) (by simp_all[AF]) trivial h
theorem LP (hg:gOn e g=true) (hx:Aa e x=some (.int k a)) (hy:Aa e y=some (.int k b)) (h:TrO Γ r (nv+1) ⟨(dst,.int k (SF a b))::e,o,n⟩ d (acc++[(gK g++(rdK x++rdK y),[.e dst],af)]) K t) :
  TrO Γ (⟨some dst,.min [x,y],g,af⟩::r) nv ⟨e,o,n⟩ d acc K t :=
 Ap hg (c:=True) (we:=[(dst,.int k (SF a b))]) (wo:=[]) (rd:=rdK x++rdK y) (by simp_all[AF,Dv]) (by simp_all[AF]) trivial h
theorem Gx {hi:Arg} (hg:gOn e g=true) (hx:Aa e x=some (.sl (l.map en))) (hy:Aa e hi=some (.int k a)) (hs:∀ q,(cells (en q)).length=s) (hp:aAD 0 s=true) (hl:0<=a/\a<=l.length)
  (h:TrO Γ r (nv+1) ⟨(dst,.sl ((l.take a.toNat).map en))::e,o,n⟩ d (acc++[(gK g++(rdK x++rdK hi),[.e dst],af)]) K t) :
  TrO Γ (⟨some dst,.slc s x none (some hi),g,af⟩::r) nv ⟨e,o,n⟩ d acc K t:=by
 have hp':0<s:=by simp_all
 refine Ap hg (c:=True) (we:=[(dst,.sl ((l.take a.toNat).map en))]) (wo:=[]) (rd:=rdK x++rdK hi) ?_ ?_ trivial h
 ·simp only[evalOp,R.run_bind,BF,aAA,hx,hy,strip,Bh,R.Bz,R.run_pure,Bk,fits,BJ,bound,Bv,Ah];simp_all
 simp_all[Bh,fits]
theorem Gy {lo:Arg} (hg:gOn e g=true) (hx:Aa e x=some (.sl (l.map en))) (hy:Aa e lo=some (.int k a)) (hs:∀ q,(cells (en q)).length=s) (hp:aAD 0 s=true) (hl:0<=a/\a<=l.length)
  (h:TrO Γ r (nv+1) ⟨(dst,.sl ((l.drop a.toNat).map en))::e,o,n⟩ d (acc++[(gK g++(rdK x++rdK lo),[.e dst],af)]) K t) :
  TrO Γ (⟨some dst,.slc s x (some lo) none,g,af⟩::r) nv ⟨e,o,n⟩ d acc K t:=by
 have hp':0<s:=by simp_all
 refine Ap hg (c:=True) (we:=[(dst,.sl ((l.drop a.toNat).map en))]) (wo:=[]) (rd:=rdK x++rdK lo) ?_ ?_ trivial h
 ·have ht:aAN (l.length-a.toNat) (aAf a.toNat (l.map en))=(l.drop a.toNat).map en:=by
   grind [List.map_drop,aAB]
  simp only[evalOp,R.run_bind,BF,aAA,hx,hy,strip,Bh,R.Bz,R.run_pure,Bk,fits,BJ,bound,Bv,Ah,aAK,Int.toNat_natCast];simp_all
 simp_all[Bh,fits]
theorem AiP {hi:Arg} (hq:q=l.length) (hg:gOn e g=true) (hx:Aa e x=some (.osl gi vi 0 q)) (hy:Aa e hi=some (.int k a)) (ho:lkO o gi=some (vi,⟨fz,var,s,ty,es⟩)) (hp:aAD 0 s=true) (hl:0<=a/\a<=l.length) (h:TrO Γ r (nv+1) ⟨(dst,.osl gi vi 0 a.toNat)::e,o,n⟩ d (acc++[(gK g++(rdK x++(rdK hi++[.o gi])),[.e dst],af)]) K t) :
  TrO Γ (⟨some dst,.slc s x none (some hi),g,af⟩::r) nv ⟨e,o,n⟩ d acc K t:=by
 subst hq;have hp':0<s:=by simp_all
 refine Ap hg (c:=True) (we:=[(dst,.osl gi vi 0 a.toNat)]) (wo:=[]) (rd:=rdK x++(rdK hi++[Key.o gi])) ?_ ?_ trivial h
 ·simp only[evalOp,R.run_bind,BF,aAA,hx,hy,strip,Bh,R.Bz,R.run_pure,Bk,fits,R.Cg,BN,ho,BJ,bound,Bv,Ah];simp_all
 simp_all[Bh,fits]
theorem AiQ {lo:Arg} (hq:q=l.length) (hg:gOn e g=true) (hx:Aa e x=some (.osl gi vi 0 q)) (hy:Aa e lo=some (.int k a)) (ho:lkO o gi=some (vi,⟨fz,var,s,ty,es⟩)) (hp:aAD 0 s=true) (hl:0<=a/\a<=l.length) (h:TrO Γ r (nv+1) ⟨(dst,.osl gi vi a.toNat (l.length-a.toNat))::e,o,n⟩ d (acc++[(gK g++(rdK x++(rdK lo++[.o gi])),[.e dst],af)]) K t) :
  TrO Γ (⟨some dst,.slc s x (some lo) none,g,af⟩::r) nv ⟨e,o,n⟩ d acc K t:=by
 subst hq;have hp':0<s:=by simp_all
 refine Ap hg (c:=True) (we:=[(dst,.osl gi vi a.toNat (l.length-a.toNat))]) (wo:=[]) (rd:=rdK x++(rdK lo++[Key.o gi])) ?_ ?_ trivial h
 ·simp only[evalOp,R.run_bind,BF,aAA,hx,hy,strip,Bh,R.Bz,R.run_pure,Bk,fits,R.Cg,BN,ho,BJ,bound,Bv,Ah];simp_all
 simp_all[Bh,fits]
theorem Jk {lo hi:Arg} {k2:IntKind} (hg:gOn e g=true) (hx:Aa e x=some (.sl (l.map en))) (hy:Aa e lo=some (.int k a)) (hz:Aa e hi=some (.int k2 b)) (hs:∀ q,(cells (en q)).length=s) (hp:aAD 0 s=true) (hl:0<=a/\a<=b/\b<=l.length)
  (h:TrO Γ r (nv+1) ⟨(dst,.sl (((l.drop a.toNat).take (b.toNat-a.toNat)).map en))::e,o,n⟩ d (acc++[(gK g++(rdK x++(rdK lo++rdK hi)),[.e dst],af)]) K t) :
  TrO Γ (⟨some dst,.slc s x (some lo) (some hi),g,af⟩::r) nv ⟨e,o,n⟩ d acc K t:=by
 have hp':0<s:=by simp_all
 refine Ap hg (c:=True) (we:=[(dst,.sl (((l.drop a.toNat).take (b.toNat-a.toNat)).map en))]) (wo:=[]) (rd:=rdK x++(rdK lo++rdK hi)) ?_ ?_ trivial h
 ·simp only[evalOp,R.run_bind,BF,aAA,hx,hy,hz,strip,Bh,R.Bz,R.run_pure,Bk,fits,BJ,bound,Bv,Ah];simp_all
 simp_all[Bh,fits]
end
section
variable {A B:Type}
def NO (ptr:List (Nat×(Nat×Nat))) (kind:Kind) (enc:A->List D) (dec:List D->A) (f:A->Option B) (encR:B->D) (encE:B->List D):Spec where
 ptr:=ptr
 kind:=kind
 pre:=λds=>∃ a b,ds=enc a/\f a=some b
 res:=λds=>match f (dec ds)with|some b=>encR b|none=>.top
 eff:=λds=>match f (dec ds)with|some b=>encE b|none=>[]
variable {ptr:List (Nat×(Nat×Nat))} {kind:Kind} {enc:A->List D} {dec:List D->A} {f:A->Option B} {encR:B->D} {encE:B->List D} {a:A} {b:B}
theorem SK (hde:∀ a,dec (enc a)=a) (hf:f a=some b):(NO ptr kind enc dec f encR encE).res (enc a)=encR b:=by grind [NO]
theorem Co (hde:∀ a,dec (enc a)=a) (hf:f a=some b):(NO ptr kind enc dec f encR encE).eff (enc a)=encE b:=by grind [NO]
def AW (ptr:List (Nat×(Nat×Nat))) (kind:Kind) (rs:List Az) (encR:B->D) (encE:B->List D):B->Ar->S->Prop:=λb e τ =>
 match e with
 | .exit _=>False
 | _=>Wk (Bs ⟨ptr,kind,λ_=>True,λ_=>encR b,λ_=>encE b⟩ rs []) τ
theorem MY {P:Program} (hΓ:∀ k sp,Γ k=some sp->NK P (k % 4096) sp) (hf:P.funcs[k]? =some fn) (hname:(fn.name == "runtime.NumGoroutine")=false) (hc:(fn.body.bind (Pv P fn.ntmps))=some dc) (hr:fn.results.toList.mapM (UZ P)=some rs) (hnp:np<=fn.ntmps) (hde:∀ a,dec (enc a)=a) (hlen:∀ a,(enc a).length=np) (hkeys:∀ a,Bd ptr 0 (enc a)=ptr.map Prod.fst) (hptr:Ds ptr=true) (hT:∀ a,TrE Γ dc (AW ptr kind rs encR encE) ⟨Cy ptr 0 (enc a),Cj ptr 0 (enc a),262144⟩ (f a)) (hni:Br kind=none:=by rfl) (hno:Cz kind=none:=by rfl):NK P k (NO ptr kind enc dec f encR encE):=by
 refine Lj hΓ hf hname hc hr hnp (by rintro ds ⟨a,b,rfl,_⟩;exact⟨hlen a,hkeys a⟩) hptr ?_ hni hno
 rintro ds ⟨a,b,rfl,hb⟩ _;have h:=hT a b hb;refine h.mono λτ0 h=>AJ _ _ _ _ (λe τ hq=>?_) h
 have key:∀ τ,Bs ⟨ptr,kind,λ_=>True,λ_=>encR b,λ_=>encE b⟩ rs [] τ->Bs (NO ptr kind enc dec f encR encE) rs (enc a) τ:=by
  simp only[Bs,SK hde hb,Co hde hb];exact λ_ h=>h
 cases e with
 | exit id=>exact hq.elim
 | normal=>exact hq.mono key
 | ret=>exact hq.mono key
end
def Aj (e:List (Nat×D)):List Arg->List D
 | []=>[]
 | x::r=>(Aa e x).getD .top::Aj e r
def Bc:List Arg->List Key
 | []=>[]
 | x::r=>rdK x++Bc r
section
variable {Γ:An} {X A B:Type} {K:KR X} {t:Option X} {e:List (Nat×D)} {o:List (Nat×Ad)} {n nv:Nat} {d:Bool} {acc:List Ck}
 {r:List As} {dst:Nat} {g:Option (Nat×Bool)} {af:List Nat} {α:Type}
 {ptr:List (Nat×(Nat×Nat))} {kind:Kind} {enc:A->List D} {dec:List D->A} {f:A->Option B} {encR:B->D} {encE:B->List D} {b:B}
 {fa:Arg} {args:List Arg} {caps:List D} {k:Nat} {c:Prop} {ds:List D} {w:List (Nat×Ad)} {ps:List (Nat×Nat×Own)} {rk:List Key} {s ty:Nat}
theorem Bi:∀ args:List Arg,(AF args).run ⟨e,o,n⟩=Aj e args
 | []=>rfl
 | x::r=>by simp[AF,Aj,Bi r]
theorem CJ:∀ args:List Arg,(AF args).rd ⟨e,o,n⟩=Bc args
 | []=>rfl
 | x::r=>by simp[AF,Bc,CJ r]
theorem Dk {dst:Option Nat} {c2:Prop} (hg:gOn e g=true) (hf:Aa e fa=some (.clo k caps)) (hΓ:Γ (k+4096*AE (Aj e args))=some sp) (hr:(Af sp.ptr 0 (Aj e args++caps)).run ⟨e,o,n⟩=(c,ds,w,ps)) (hk:(Af sp.ptr 0 (Aj e args++caps)).rd ⟨e,o,n⟩=rk) (hco:Bj dst nv sp c ds w ps=⟨c2,we,wo⟩) (hc:c2) (h:TrO Γ r (nv+1) ⟨we++e,wo++o,n⟩ d (acc++[(gK g++(rdK fa++(Bc args++rk)),we.map (λx=>.e x.1)++wo.map (λx=>.o x.1),af)]) K t) (hin:Br sp.kind=none:=by rfl) (hkb:aAD k 4096=true:=by rfl) :
  TrO Γ (⟨dst,.call fa args,g,af⟩::r) nv ⟨e,o,n⟩ d acc K t:=by
 refine Ap hg (c:=c2) (we:=we) (wo:=wo) (rd:=rdK fa++(Bc args++rk)) ?_ ?_ hc h
 ·grind [evalOp,R.run_bind,Bk,CB,Bi,R.run_pure]
 ·simp only[evalOp,R.CL,Bk,FB,aAA,hf,CB hkb,hkb,Bi,hΓ,hin,CJ,hr,hk,R.FU,aAT]
theorem KA {vi gi m:Nat} {l l':List Int} (hg:gOn e g=true) (hf:Aa e fa=some (.clo k caps)) (hΓ:Γ (k+4096*AE (Aj e args))=some sp) (hin:Br sp.kind=some (inQ false fl fk)) (hr:Aj e args++caps=[.osl gi vi 0 m]) (hm:m=l.length) (ho:lkO o gi=some (vi,⟨false,false,1,ty',l.map (.int .i64)⟩)) (hl:l.length<4611686018427387904) (hfl:fl l=l') (h:TrO Γ r (nv+1) ⟨e,(gi,some (vi,⟨false,false,1,ty',l'.map (.int .i64)⟩))::o,n⟩ d (acc++[(gK g++(rdK fa++(Bc args++[.o gi])),[.o gi],af)]) K t) (hkb:aAD k 4096=true:=by rfl) :
  TrO Γ (⟨none,.call fa args,g,af⟩::r) nv ⟨e,o,n⟩ d acc K t:=by
 subst hm hfl;have hd:(l.map (D.int .i64)).map Bb=l:=by simp[aAc,Bb]
 refine Ap hg (c:=True) (we:=[]) (wo:=[(gi,some (vi,⟨false,false,1,ty',(fl l).map (.int .i64)⟩))]) (rd:=rdK fa++(Bc args++[Key.o gi])) ?_ ?_ trivial ?_
 ·simp only[evalOp,R.run_bind,Bk,aAA,hf,CB hkb,hkb,Bi,hΓ,hin,hr,CP,R.Cg,BN,ho,R.Bz];simp_all[Ah,aAB,AH,cells,plain,inQ]
 ·simp only[evalOp,R.CL,Bk,FB,aAA,hf,CB hkb,hkb,Bi,hΓ,hin,CJ,hr,CP,R.GI,BN,ho,R.Hj]
 ·exact h
theorem Ji {vi gi m:Nat} {l l':List Int} (hg:gOn e g=true) (hf:Aa e fa=some (.clo k caps)) (hΓ:Γ (k+4096*AE (Aj e args))=some sp) (hin:Br sp.kind=some (inQ false fl fk)) (hr:Aj e args++caps=[.osl gi vi 0 m]) (hm:m=l.length) (ho:lkO o gi=some (vi,⟨false,false,1,ty',l.map (.int .i64)⟩)) (hl:l.length<4611686018427387904) (hfl:fl l=l') (h:TrO Γ r (nv+1) ⟨(dst,.top)::e,(gi,some (vi,⟨false,false,1,ty',l'.map (.int .i64)⟩))::o,n⟩ d (acc++[(gK g++(rdK fa++(Bc args++[.o gi])),[.e dst,.o gi],af)]) K t) (hkb:aAD k 4096=true:=by rfl) :
  TrO Γ (⟨some dst,.call fa args,g,af⟩::r) nv ⟨e,o,n⟩ d acc K t:=by
 subst hm hfl;have hd:(l.map (D.int .i64)).map Bb=l:=by simp[aAc,Bb]
 refine Ap hg (c:=True) (we:=[(dst,.top)]) (wo:=[(gi,some (vi,⟨false,false,1,ty',(fl l).map (.int .i64)⟩))]) (rd:=rdK fa++(Bc args++[Key.o gi])) ?_ ?_ trivial ?_
 ·simp only[evalOp,R.run_bind,Bk,aAA,hf,CB hkb,hkb,Bi,hΓ,hin,hr,CP,R.Cg,BN,ho,R.Bz];simp_all[Ah,aAB,AH,cells,plain,inQ,CD.FR]
 ·simp only[evalOp,R.CL,Bk,FB,aAA,hf,CB hkb,hkb,Bi,hΓ,hin,CJ,hr,CP,R.GI,BN,ho,R.Hj]
 ·exact h
theorem Hq {vi gi m:Nat} {l l':List Int} (hg:gOn e g=true) (hf:Aa e fa=some (.clo k caps)) (hΓ:Γ (k+4096*AE (Aj e args))=some sp) (hin:Br sp.kind=some (inQ true fl fk)) (hr:Aj e args++caps=[.osl gi vi 0 m]) (hm:m=l.length) (ho:lkO o gi=some (vi,⟨false,false,1,ty',l.map (.int .i64)⟩)) (hl:l.length<4611686018427387904) (hfl:(fl l).take (fk l)=l') (hfk:fk l=l'.length) (h:TrO Γ r (nv+1) ⟨(dst,.osl gi vi 0 l'.length)::e,(gi,some (vi,⟨false,false,1,ty',l'.map (.int .i64)⟩))::o,n⟩ d (acc++[(gK g++(rdK fa++(Bc args++[.o gi])),[.e dst,.o gi],af)]) K t) (hkb:aAD k 4096=true:=by rfl) :
  TrO Γ (⟨some dst,.call fa args,g,af⟩::r) nv ⟨e,o,n⟩ d acc K t:=by
 subst hm hfl;have hd:(l.map (D.int .i64)).map Bb=l:=by simp[aAc,Bb]
 refine Ap hg (c:=True) (we:=[(dst,.osl gi vi 0 ((fl l).take (fk l)).length)]) (wo:=[(gi,some (vi,⟨false,false,1,ty',((fl l).take (fk l)).map (.int .i64)⟩))]) (rd:=rdK fa++(Bc args++[Key.o gi])) ?_ ?_ trivial ?_
 ·simp only[evalOp,R.run_bind,Bk,aAA,hf,CB hkb,hkb,Bi,hΓ,hin,hr,CP,R.Cg,BN,ho,R.Bz];simp[Ah,hd,hl,aAB,AH,cells,plain,inQ]
  grind
 ·simp only[evalOp,R.CL,Bk,FB,aAA,hf,CB hkb,hkb,Bi,hΓ,hin,CJ,hr,CP,R.GI,BN,ho,R.Hj]
 ·exact h
theorem AgD (a:A) (hg:gOn e g=true) (hf:Aa e fa=some (.clo k caps)) (hΓ:Γ (k+4096*AE (Aj e args))=some (NO ptr .val enc dec f encR encE)) (hde:∀ a,dec (enc a)=a) (hr:(Af ptr 0 (Aj e args++caps)).run ⟨e,o,n⟩=(c,ds,w,ps))
  (hk:(Af ptr 0 (Aj e args++caps)).rd ⟨e,o,n⟩=rk) (hc:c) (hds:ds=enc a) (hb:f a=some b)
  (h:TrO Γ r (nv+1) ⟨(dst,encR b)::e,(Ak ps (encE b)++w)++o,n⟩ d (acc++[(gK g++(rdK fa++(Bc args++rk)),.e dst::(Ak ps (encE b)++w).map (λx=>.o x.1),af)]) K t) (hkb:aAD k 4096=true:=by rfl) :
  TrO Γ (⟨some dst,.call fa args,g,af⟩::r) nv ⟨e,o,n⟩ d acc K t:=by
 subst hds;refine Dk (hkb:=hkb) hg hf hΓ (sp:=NO ptr .val enc dec f encR encE) hr hk (c2:=c/\∃ a' b',enc a=enc a'/\f a'=some b') (we:=[(dst,encR b)]) (wo:=Ak ps (encE b)++w) ?_ ⟨hc,a,b,rfl,hb⟩ h;simp only[Bj,SK hde hb,Co hde hb,Ah];rfl
theorem Eh (a:A) (hg:gOn e g=true) (hf:Aa e fa=some (.clo k caps)) (hΓ:Γ (k+4096*AE (Aj e args))=some (NO ptr .val enc dec f encR encE)) (hde:∀ a,dec (enc a)=a) (hr:(Af ptr 0 (Aj e args++caps)).run ⟨e,o,n⟩=(c,ds,w,ps))
  (hk:(Af ptr 0 (Aj e args++caps)).rd ⟨e,o,n⟩=rk) (hc:c) (hds:ds=enc a) (hb:f a=some b)
  (h:TrO Γ r (nv+1) ⟨e,(Ak ps (encE b)++w)++o,n⟩ d (acc++[(gK g++(rdK fa++(Bc args++rk)),(Ak ps (encE b)++w).map (λx=>.o x.1),af)]) K t) (hkb:aAD k 4096=true:=by rfl) :
  TrO Γ (⟨none,.call fa args,g,af⟩::r) nv ⟨e,o,n⟩ d acc K t:=by
 subst hds;refine Dk (hkb:=hkb) hg hf hΓ (sp:=NO ptr .val enc dec f encR encE) hr hk (c2:=c/\∃ a' b',enc a=enc a'/\f a'=some b') (we:=[]) (wo:=Ak ps (encE b)++w) ?_ ⟨hc,a,b,rfl,hb⟩ h;simp only[Bj,SK hde hb,Co hde hb,Ah];rfl
theorem Sj (a:A) (hg:gOn e g=true) (hf:Aa e fa=some (.clo k caps)) (hΓ:Γ (k+4096*AE (Aj e args))=some (NO [] .ground enc dec f encR encE)) (hde:∀ a,dec (enc a)=a) (hr:(Af [] 0 (Aj e args++caps)).run ⟨e,o,n⟩=(c,ds,w,ps))
  (hk:(Af [] 0 (Aj e args++caps)).rd ⟨e,o,n⟩=rk) (hc:c) (hds:ds=enc a) (hb:f a=some b) (hgr:isGround (encR b)=true)
  (h:TrO Γ r (nv+1) ⟨(dst,encR b)::e,o,n⟩ d (acc++[(gK g++(rdK fa++(Bc args++rk)),[.e dst],af)]) K t) (hkb:aAD k 4096=true:=by rfl) :
  TrO Γ (⟨some dst,.call fa args,g,af⟩::r) nv ⟨e,o,n⟩ d acc K t:=by
 subst hds;refine Dk (hkb:=hkb) hg hf hΓ (sp:=NO [] .ground enc dec f encR encE) hr hk (c2:=c/\(∃ a' b',enc a=enc a'/\f a'=some b')/\isGround (encR b)=true/\([]:List (Nat×(Nat×Nat)))=[]) (we:=[(dst,encR b)]) (wo:=[]) ?_ ⟨hc,⟨a,b,rfl,hb⟩,hgr,rfl⟩ h;simp_all[Bj,Ah,NO]
theorem EA (a:A) {l:List α} {en:α->D} (hg:gOn e g=true) (hf:Aa e fa=some (.clo k caps)) (hΓ:Γ (k+4096*AE (Aj e args))=some (NO ptr (.row s ty) enc dec f encR encE)) (hde:∀ a,dec (enc a)=a) (hr:(Af ptr 0 (Aj e args++caps)).run ⟨e,o,n⟩=(c,ds,w,ps))
  (hk:(Af ptr 0 (Aj e args++caps)).rd ⟨e,o,n⟩=rk) (hc:c) (hds:ds=enc a) (hb:f a=some b) (hl:encR b= .sl (l.map en))
  (h:TrO Γ r (nv+1) ⟨(dst,.osl dst nv 0 l.length)::e,((dst,some (nv,⟨false,false,s,ty,l.map en⟩))::(Ak ps (encE b)++w))++o,n⟩ d (acc++[(gK g++(rdK fa++(Bc args++rk)),.e dst:: .o dst::(Ak ps (encE b)++w).map (λx=>.o x.1),af)]) K t) (hkb:aAD k 4096=true:=by rfl) :
  TrO Γ (⟨some dst,.call fa args,g,af⟩::r) nv ⟨e,o,n⟩ d acc K t:=by
 subst hds;refine Dk (hkb:=hkb) hg hf hΓ (sp:=NO ptr (.row s ty) enc dec f encR encE) hr hk (c2:=c/\(∃ a' b',enc a=enc a'/\f a'=some b')/\(some dst).isSome=true) (we:=[(dst,.osl dst nv 0 l.length)]) (wo:=(dst,some (nv,⟨false,false,s,ty,l.map en⟩))::(Ak ps (encE b)++w)) ?_ ⟨hc,⟨a,b,rfl,hb⟩,rfl⟩ h;simp_all[Bj,Ah,AV,NO]
theorem AgC (a:A) (hg:gOn e g=true) (hf:Aa e fa=some (.clo k caps)) (hΓ:Γ (k+4096*AE (Aj e args))=some (NO ptr (.ptr s ty) enc dec f encR encE)) (hde:∀ a,dec (enc a)=a) (hr:(Af ptr 0 (Aj e args++caps)).run ⟨e,o,n⟩=(c,ds,w,ps))
  (hk:(Af ptr 0 (Aj e args++caps)).rd ⟨e,o,n⟩=rk) (hc:c) (hds:ds=enc a) (hb:f a=some b)
  (h:TrO Γ r (nv+1) ⟨(dst,.optr dst nv 0 0)::e,((dst,some (nv,⟨false,true,s,ty,[encR b]⟩))::(Ak ps (encE b)++w))++o,n⟩ d (acc++[(gK g++(rdK fa++(Bc args++rk)),.e dst:: .o dst::(Ak ps (encE b)++w).map (λx=>.o x.1),af)]) K t) (hkb:aAD k 4096=true:=by rfl) :
  TrO Γ (⟨some dst,.call fa args,g,af⟩::r) nv ⟨e,o,n⟩ d acc K t:=by
 subst hds;refine Dk (hkb:=hkb) hg hf hΓ (sp:=NO ptr (.ptr s ty) enc dec f encR encE) hr hk (c2:=c/\(∃ a' b',enc a=enc a'/\f a'=some b')/\(some dst).isSome=true) (we:=[(dst,.optr dst nv 0 0)]) (wo:=(dst,some (nv,⟨false,true,s,ty,[encR b]⟩))::(Ak ps (encE b)++w)) ?_ ⟨hc,⟨a,b,rfl,hb⟩,rfl⟩ h;simp_all[Bj,Ah,AV,NO]
theorem Acl (hg:gOn e g=true) (hx:Aj e args=caps) (hc:∀ d∈caps,SO d=true) (h:TrO Γ r (nv+1) ⟨(dst,.clo q caps)::e,o,n⟩ d (acc++[(gK g++Bc args,[.e dst],af)]) K t):TrO Γ (⟨some dst,.mkf q args,g,af⟩::r) nv ⟨e,o,n⟩ d acc K t :=
 Ap hg (c:=∀ d∈caps,SO d=true) (we:=[(dst,.clo q caps)]) (wo:=[]) (rd:=Bc args) (by simp[evalOp,Bi,hx,Ah]) (by simp[evalOp,CJ]) hc h
end
@[simp] theorem IZ (g:Nat):(Ae g=false)↔g<4096:=by
 simp only[Ae];cases hb:aAH 4096 g
 ·simp only[true_iff];by_cases h:g<4096
  ·exact h
  ·rw[aAF (by omega)]at hb;cases hb
 ·have:=aAC hb;simp;omega
@[simp] theorem Nw (g:Nat):(Ae g=true)↔4096<=g:=by
 have:=IZ g;cases hb:Ae g<;>simp_all<;>omega
section
variable {B α:Type} {e:List (Nat×D)} {o:List (Nat×Ad)} {n np:Nat} {ptr:List (Nat×(Nat×Nat))} {encR:B->D} {encE:B->List D} {b:B} {r0:Az} {rs:List Az}
 {ce c c1:Prop} {effs ds:List D} {we w:List (Nat×Ad)} {d0 d1:D} {s ty g:Nat}
theorem Aaz (he:(BD ptr).run ⟨e,o,n⟩=(ce,effs,we)) (hce:ce) (heff:effs=encE b) (hr:(DA r0).run ⟨e,o,n⟩=(c,d0,w)) (hc:c) (hd:d0=encR b):TrX .ret (AW ptr .val [r0] encR encE) ⟨e,o,n⟩ (some b):=by
 rintro _ ⟨⟩;refine⟨_,.refl _,?_⟩;simp_all[Bs]
theorem IX (he:(BD ptr).run ⟨e,o,n⟩=(ce,effs,we)) (hce:ce) (heff:effs=encE b) (hr:(DA r0).run ⟨e,o,n⟩=(c,d0,w)) (hc:c) (hd:d0=encR b):TrX .ret (AW ptr .ground [r0] encR encE) ⟨e,o,n⟩ (some b):=by
 rintro _ ⟨⟩;refine⟨_,.refl _,?_⟩;simp_all[Bs]
theorem Eg {_q:D->Prop} (h:rs.length≠1) (hk:ce/\effs=encE b/\c/\ .tup ds=encR b/\rs.length≠1) (he:(BD ptr).run ⟨e,o,n⟩=(ce,effs,we)) (hr:(AB rs).run ⟨e,o,n⟩=(c,ds,w)) (kind:Kind) (hkind:kind= .val\/kind= .ground) :
  Bs ⟨ptr,kind,λ_=>True,λ_=>encR b,λ_=>encE b⟩ rs [] ⟨e,o,n⟩:=by
 rcases hkind with rfl|rfl<;>(
  simp only[Bs,he]
  grind)
theorem Pu (he:(BD ptr).run ⟨e,o,n⟩=(ce,effs,we)) (hce:ce) (heff:effs=encE b) (hr:(AB rs).run ⟨e,o,n⟩=(c,ds,w)) (hc:c) (hd: .tup ds=encR b) (hl:rs.length≠1):TrX .ret (AW ptr .val rs encR encE) ⟨e,o,n⟩ (some b):=by
 rintro _ ⟨⟩;refine⟨_,.refl _,?_⟩;exact Eg (_q:=λ_=>True) hl ⟨hce,heff,hc,hd,hl⟩ he hr _ (.inl rfl)
theorem FW (he:(BD ptr).run ⟨e,o,n⟩=(ce,effs,we)) (hce:ce) (heff:effs=encE b) (hr:(AB rs).run ⟨e,o,n⟩=(c,ds,w)) (hc:c) (hd: .tup ds=encR b) (hl:rs.length≠1):TrX .ret (AW ptr .ground rs encR encE) ⟨e,o,n⟩ (some b):=by
 rintro _ ⟨⟩;refine⟨_,.refl _,?_⟩;exact Eg (_q:=λ_=>True) hl ⟨hce,heff,hc,hd,hl⟩ he hr _ (.inr rfl)
theorem Ly (he:(BD ptr).run ⟨e,o,n⟩=(ce,effs,we)) (hce:ce) (heff:effs=encE b) (hr:(Oo r0).run ⟨e,o,n⟩=(c,d0)) (hc:c) (hs:(Dz false s ty d0).run ⟨e,o,n⟩=(c1,d1,g)) (hc1:c1) (hd:d1=encR b) (hw:we.all (λx=>x.1 != g)=true) :
  TrX .ret (AW ptr (.row s ty) [r0] encR encE) ⟨e,o,n⟩ (some b):=by
 rintro _ ⟨⟩;refine⟨_,.refl _,?_⟩;simp only[Bs,he,hr,hs]
 grind
theorem Lx (hr:(Oo r0).run ⟨e,o,n⟩=(c,d0)) (hc:c) (hs:(Cb s ty d0).run ⟨e,o,n⟩=(c1,d1,w,g)) (hc1:c1) (hd:d1=encR b) (he:(BD ptr).run ⟨e,o,n⟩=(ce,effs,we)) (hce:ce) (heff:effs=encE b) (hrg:Ae g=false:=by rfl) :
  TrX .ret (AW ptr (.ptr s ty) [r0] encR encE) ⟨e,o,n⟩ (some b):=by
 rintro _ ⟨⟩;refine⟨_,.refl _,?_⟩;simp_all[Bs]
theorem IY {cA cB cP:Prop} {dA dB:List D} {dP dq:D} {wA wB wP:List (Nat×Ad)} (hq:q<rs.length) (hl:rs.length≠1) (hA:(AB (rs.take q)).run ⟨e,o,n⟩=(cA,dA,wA)) (hcA:cA) (hB:(AB (rs.drop (q+1))).run ⟨e,o,n⟩=(cB,dB,wB)) (hcB:cB) (hr:(Oo (rs.getD q (.t 0))).run ⟨e,o,n⟩=(c,dq)) (hc:c) (hP:(Cb s ty dq).run ⟨e,o,n⟩=(cP,dP,wP,g)) (hcP:cP) (hd: .tup (dA++dP::dB)=encR b) (he:(BD []).run ⟨e,o,n⟩=(ce,effs,we)) (hce:ce) (heff:effs=encE b) :
  TrX .ret (AW [] (.tupPtr q s ty) rs encR encE) ⟨e,o,n⟩ (some b):=by
 rintro _ ⟨⟩;refine⟨_,.refl _,?_⟩;simp_all[Bs]
end
@[simp] theorem Nv (cs:List D):cells (.agg cs)=cs:=rfl
def EV (e:List (Nat×D)):List (Nat×D)->Prop
 | []=>True
 | (t,d)::r=>(AL e t).getD .top=d/\EV e r
def EW (o:List (Nat×Ad)):List (Nat×Ad)->Prop
 | []=>True
 | (g,x)::r=>lkO o g=x/\EW o r
theorem EV.get {e:List (Nat×D)}:∀ {E:List (Nat×D)},EV e E->∀ p∈E,(AL e p.1).getD .top=p.2
 | [],_,p,hp=>by cases hp
 | q::r,h,p,hp=>by
  cases hp with
  | head=>exact h.1
  | tail _ hp=>exact EV.get h.2 p hp
theorem EW.get {o:List (Nat×Ad)}:∀ {O:List (Nat×Ad)},EW o O->∀ p∈O,lkO o p.1=p.2
 | [],_,p,hp=>by cases hp
 | q::r,h,p,hp=>by
  cases hp with
  | head=>exact h.1
  | tail _ hp=>exact EW.get h.2 p hp
theorem AeG {o:List (Nat×Ad)} {n:Nat} (hE:EV e E) (hO:EW o O):Has ⟨e,o,n⟩ E O:=by
 refine⟨n,?_⟩;refine Chg.EB (τ:=⟨E,O,n⟩) [] ⟨?_,?_,?_,Nat.le_refl _⟩ (.refl _)
 ·intro p hp;cases hp
 ·intro p hp;refine .inl (.inl ?_);have:=hE.get p hp;rw[BE]at this;exact this
 ·intro p hp;refine .inl ?_;have:=hO.get p hp
  grind [S.gof,BN]
theorem AdI {g v q':Nat} (h1:x= .osl g v 0 q) (h2:q=q'):x= .osl g v 0 q':=h2▸h1
section
variable {e E:List (Nat×D)} {o O:List (Nat×Ad)} {n:Nat} {ws:List (Nat×Ad)} {α:Type}
def GD (e:List (Nat×D)) (o:List (Nat×Ad)) (n:Nat) (ws:List (Nat×Ad)):List (Nat×D)->Prop
 | []=>True
 | (t,d)::r=>Conv ⟨e,o,n⟩ ws ((AL e t).getD .top) d/\GD e o n ws r
def GF (e:List (Nat×D)) (o:List (Nat×Ad)) (n:Nat) (ws:List (Nat×Ad)):List (Nat×Ad)->Prop
 | []=>True
 | (g,x)::r=>(lkO (ws++o) g=x\/∃ v p z z',lkO (ws++o) g=some (v,p)/\p.var=true/\p.es=[z]/\x=some (v,{ p with es:=[z'] })/\Conv ⟨e,o,n⟩ ws z z')/\GF e o n ws r
def FzB (o:List (Nat×Ad)):List (Nat×Ad)->Prop
 | []=>True
 | (g,x)::r=>(∃ v p,lkO o g=some (v,p)/\p.var=false/\x=some (v,{ p with fz:=true }))/\FzB o r
theorem Xr (ws:List (Nat×Ad)) (hw:FzB o ws) (hE:GD e o n ws E) (hO:GF e o n ws O):Has ⟨e,o,n⟩ E O:=by
 refine⟨n,?_⟩;refine Chg.EB (τ:=⟨E,O,n⟩) ws ⟨?_,?_,?_,Nat.le_refl _⟩ (.refl _)
 ·clear hE hO
  induction ws with
  | nil=>intro p hp;cases hp
  | cons q r ih =>
   intro p hp;cases hp with
   | head =>
    obtain⟨v,p,h1,h2,h3⟩:=hw.1
    grind [BN]
   | tail _ hp=>exact ih hw.2 p hp
 ·clear hw hO
  induction E with
  | nil=>simp_all
  | cons q r ih =>
   intro p hp;cases hp with
   | head =>
    have:=hE.1;rw[BE]at this;exact this
   | tail _ hp=>exact ih hE.2 p hp
 ·clear hw hE
  induction O with
  | nil=>simp_all
  | cons q r ih =>
   intro p hp;cases hp with
   | head =>
    simp only[S.gof,BN];exact hO.1
   | tail _ hp=>exact ih hO.2 p hp
theorem Om {d:D} (h:x=d):Conv ⟨e,o,n⟩ ws x d:=.inl (.inl h)
theorem OB {d:D} (h:x=d):CM ⟨e,o,n⟩ ws x d:=.inl h
theorem Vp (en:α->D) (h:x= .nils):CM ⟨e,o,n⟩ ws x (.sl (([]:List α).map en)):=by
 subst h;exact .inr ⟨trivial,rfl,λp hp=>by cases hp⟩
theorem WC {g v s:Nat} {fz:Bool} {l:List α} {en:α->D} (h:x= .osl g v 0 q) (hq:q=l.length) (ho:lkO o g=some (v,⟨fz,false,s,ty,l.map en⟩)) (hw:(g,some (v,(⟨true,false,s,ty,l.map en⟩:Own)))∈ws):CM ⟨e,o,n⟩ ws x (.sl (l.map en)):=by
 subst h;subst hq;refine .inr ⟨?_,?_,?_⟩
 all_goals simp_all[AD,aAB]
theorem El {g v s:Nat} {fz:Bool} {l:List α} {en:α->D} (h:x= .osl g v i (l.length-i)) (hi:i<=l.length) (ho:lkO o g=some (v,⟨fz,false,s,ty,l.map en⟩)) (hw:(g,some (v,(⟨true,false,s,ty,l.map en⟩:Own)))∈ws):CM ⟨e,o,n⟩ ws x (.sl ((l.drop i).map en)):=by
 subst h;refine .inr ⟨?_,?_,?_⟩
 all_goals simp_all[AD,aAB]
theorem Acd {d:D} (h:CM ⟨e,o,n⟩ ws x d):Conv ⟨e,o,n⟩ ws x d:=.inl h
theorem Vz (h:x= .agg cs) (hc:DB ⟨e,o,n⟩ ws cs cs'):Conv ⟨e,o,n⟩ ws x (.agg cs'):=.inr ⟨cs,cs',h,rfl,hc⟩
end
@[simp] theorem CA (en:α->D) (l:List α):aAN l.length (l.map en)=l.map en:=aAB (by simp)
@[simp] theorem NQ (en:α->D) (l:List α) (i:Nat):aAN (l.length-i) (aAf i (l.map en))=(l.drop i).map en:=by
 rw[<- List.map_drop];exact aAB (by simp)
@[simp] theorem MI (en:α->D) (l:List α) (i:Nat) (y:D):aAN l.length ((l.map en).set i y)=(l.map en).set i y:=aAB (by simp)
theorem NN (en:α->D) (l:List α):aAN l.length (aAf 0 (l.map en))=l.map en:=CA en l
theorem Zt (en:α->D) (l:List α) (h:q=l.length):aAN q (aAf 0 (l.map en))=l.map en:=h▸CA en l
theorem Ws (en:α->D) (l:List α) (h:q=l.length):aAN q (l.map en)=l.map en:=h▸CA en l
@[simp] theorem MH (en:α->D) (l l':List α):aAN (l.length+l'.length) (l.map en++l'.map en)=l.map en++l'.map en:=aAB (by simp)
def cel (d:D) (i:Nat):D:=match d with| .agg cs=>cs.getD i .top| .tup cs=>cs.getD i .top|_=>.top
def uI:D->Int| .int _ n=>n|_=>0
def uBo:D->Bool| .bool b=>b|_=>false
def uS:D->List UInt8| .str s=>s|_=>[]
def uL {α:Type} (u:D->α):D->List α| .sl es=>es.map u|_=>[]
abbrev eL {α:Type} (en:α->D) (l:List α):D:=.sl (l.map en)
@[simp] theorem OE {u:D->α} {en:α->D} (h:∀ a,u (en a)=a) (l:List α):uL u (.sl (l.map en))=l:=by
 simp only[uL,aAU]
 conv=>rhs;rw[<- List.map_id l]
 exact aAQ λa _=>h a
open Go.ChangeShapes Go.WideShapes Go.ChangeAt Go.RowKit Go.Deep
def XU (W:World):Fz:=λb i=>W.cell? ⟨b,i,none⟩
def Rep (W:World) (ds:List D) (cs:List Value):Prop:=ds.length=cs.length/\(∀ v∈cs,v.oneCell'=true)/\∀ (j:Nat) c v,ds[j]? =some c->cs[j]? =some v->Fro (XU W) c v
def Wt {H:Type} (P:Program) (t:TypeId) (d:DataW H):Prop:=∀ w∈d.weights P t,w<=reachBytes
theorem Wt.all {H:Type} {P:Program} {e:TypeId}:∀ {l:List (DataW H)} {i:Nat} {d:DataW H},l[i]? =some d->∀ w∈d.weights P e,w∈aAd P e l
 | x::l,0,d,h,w,hw=>by
  grind [aAd]
 | x::l,i+1,d,h,w,hw=>by
  simp only[List.getElem?_cons_succ]at h;simp only[aAd,aAg];exact .inr (Wt.all h w hw)
theorem Wt.part {P:Program} {t:TypeId} {fs:Array Field} {parts:List (DataW H)} (ht:P.underlying t=some (.struct fs)) (h:Wt P t (.agg parts)) {f:Field} {d:DataW H} (hf:fs[j]? =some f) (hd:parts[j]? =some d):Wt P f.type d:=by
 intro w hw;refine h w ?_;simp only[aAX,ht];exact aAh (j:=j) (by simp[hf]) hd w hw
theorem Wt.arg {P:Program} {ts us:List TypeId} {ds gs:List (DataW H)} (h:(DataW.weightsEach P (ts++us) (ds++gs)).all (· <=reachBytes)=true) {t:TypeId} {d:DataW H} (ht:ts[j]? =some t) (hd:ds[j]? =some d):Wt P t d:=by
 intro w hw;have h1:=(aA.1 ht).1;have h2:=(aA.1 hd).1;have:=List.all_eq_true.1 h w (aAh (j:=j) (by grind) (by grind) w hw)
 simp_all
structure Rd (P:Program) (W:World) {T:Type} (t:TypeId) (en:T->D) (Q:T->Prop):Prop where
 rd:∀ {H:Type} {enc:TypeId×Value->H} (n:Nat) (cs:List Value) (x:DataW H×List MemPlace),aAO enc P W 0 (λ_=>true) true n t cs=some x->Wt P t x.1->∃ a,Q a/\Rep W (cells (en a)) cs
def Pq (k:IntKind) (n:Int):Prop:=k.min<=n/\n<=k.max
def AwS {T:Type} (_:T):Prop:=True
def qL {T:Type} (q:T->Prop) (l:List T):Prop:=l.length<=140737488355328/\∀ x∈l,q x
section
variable {P:Program} {W:World} {t e:TypeId}
theorem Rep.one {d:D} (h1:v.oneCell'=true) (h:Fro (XU W) d v):Rep W [d] [v]:=by
 refine⟨rfl,λx hx=>?_,λj c x hc hx=>?_⟩
 all_goals grind
theorem Rd.int {k:IntKind} (ht:P.underlying t=some (.int k)):Rd P W t (D.int k) (λn=>k.min<=n/\n<=k.max):=by
 refine⟨λn cs x h hw=>?_⟩
 cases n with
 | zero=>simp[aAO]at h
 | succ n =>
  simp only[aAO,ht]at h;split at h<;>rename_i h1<;>try (cases h1;done)
  all_goals try (cases h;done)
  cases h1;split at h
  ·rename_i hc;obtain⟨rfl,hw⟩:=hc;exact⟨_,by grind [Lit.wf],Rep.one rfl (.int _ _)⟩
  ·cases h
theorem Rd.bool (ht:P.underlying t=some .bool):Rd P W t D.bool (λ_=>True):=by
 refine⟨λn cs x h hw=>?_⟩
 cases n with
 | zero=>simp[aAO]at h
 | succ n =>
  simp only[aAO,ht]at h;split at h<;>rename_i h1<;>try (cases h1;done)
  all_goals try (cases h;done)
  exact⟨_,trivial,Rep.one rfl (.bool _)⟩
theorem Rd.str (ht:P.underlying t=some .string):Rd P W t D.str (λs=>s.length<=140737488355328):=by
 refine⟨λn cs x h hw=>?_⟩
 cases n with
 | zero=>simp[aAO]at h
 | succ n =>
  simp only[aAO,ht]at h;split at h<;>rename_i h1<;>try (cases h1;done)
  all_goals try (cases h;done)
  rename_i s;split at h
  ·cases h;have:=hw s.data.toList.length (by simp[aAX])
   simp only[reachBytes]at this;exact⟨s.data.toList,Nat.le_trans this (by decide),Rep.one rfl (by have:=Fro.str (F:=XU W) s.data.toList;omega)⟩
  ·cases h
theorem Fo {n:Nat} {cs:List Value} (h:W.cells? 0 a n=some cs):cs.length=n/\∀ i,i<n->W.cell? (a.add i)=cs[i]?:=by
 unfold World.cells? at h;rw[if_pos (aAi _)]at h;have hl:=mapM_some_length h;simp only[List.length_range]at hl;exact⟨hl,λi hi=>mapM_some_get h i i (by simp[hi])⟩
theorem JP (h:W.cell? a=some v):a=⟨a.block,a.off,none⟩:=by
 unfold aAj at h;split at h
 ·split at h
  ·cases h
  ·rename_i hs;obtain⟨b,o,s⟩:=a;simp_all
 ·cases h
theorem Rd.slice {T:Type} [Inhabited T] {en:T->D} {Q:T->Prop} (ht:P.underlying t=some (.slice e)) (hs:0<P.cellsOf e) (hb:aAD 0 (P.bytesOf e)=true) (hc:∀ a,(cells (en a)).length=P.cellsOf e) (he:Rd P W e en Q) :
  Rd P W t (eL en) (λl=>l.length<=140737488355328/\∀ x∈l,Q x):=by
 refine⟨λn cs x h hw=>?_⟩
 rcases DataW.trod_slice ht h with⟨rfl,_⟩|⟨a,len,cap,elems,rest,m,_,rfl,rfl,_,hl,hm,hlen,hel,_,_⟩
 ·exact⟨[],⟨aAi _,λx hx=>by cases hx⟩,Rep.one rfl (.sl0 none 0)⟩
 ·have each:∀ i,∃ p:T×List Value,i<len->W.cells? 0 (a.add (i*P.cellsOf e)) (P.cellsOf e)=some p.2/\Q p.1/\Rep W (cells (en p.1)) p.2:=by
   intro i
   by_cases hi:i<len
   ·have h1:=hel i hi;have h2:i<elems.length:=by omega
    rw[aAE h2,aAI]at h1;obtain⟨cs,h3,h4⟩:=h1
    obtain⟨q,hq,hr⟩:=he.rd m cs _ h4 λw hw'=>hw w (by
     simp only[aAX,ht,aAY,aAg]
     exact .inr (.inl (Wt.all (i:=i) (by simp_all) w hw')))
    exact⟨(q,cs),λ_=>⟨h3,hq,hr⟩⟩
   ·exact⟨(default,[]),λh=>absurd h hi⟩
  obtain⟨f,hf⟩:=Classical.axiomOfChoice each;have hes:((aAP len).map λi=>(f i).1).length=len:=by simp
  have hreach:len<=140737488355328:=by
   have h1:=hw ((elems.length+rest.length)*P.bytesOf e) (by grind [aAX])
   have h2:0<P.bytesOf e:=by simp_all
   have h3:elems.length+rest.length<=(elems.length+rest.length)*P.bytesOf e:=Nat.le_mul_of_pos_right _ h2;simp only[reachBytes]at h1;omega
  refine⟨(aAP len).map λi=>(f i).1,⟨by omega,λx hx=>?_⟩,Rep.one rfl ?_⟩
  ·grind
  ·by_cases h0:len=0
   ·subst h0;exact .sl0 _ _
   ·have hget:∀ (i j:Nat),i<len->j<P.cellsOf e->W.cell? ((a.add (i*P.cellsOf e)).add j)=(f i).2[j]?:=λi j hi hj=>(Fo (hf i hi).1).2 j hj
    have hlenc:∀ i,i<len->(f i).2.length=P.cellsOf e:=λi hi=>(Fo (hf i hi).1).1
    have ha:a=⟨a.block,a.off,none⟩:=by
     have h1:=hget 0 0 (by omega) hs
     have h2:0<(f 0).2.length:=by grind
     rw[aAE h2]at h1;simp only[Nat.zero_mul,Addr.add,if_true]at h1;exact JP h1
    generalize a.block=b at ha;generalize a.off=o at ha;subst ha;have hidx:∀ (i:Nat) x,(((aAP len).map λi=>(f i).1).map en)[i]? =some x->i<len/\x=en (f i).1:=by
     grind
    have key:∀ (i j:Nat) x c,(((aAP len).map λi=>(f i).1).map en)[i]? =some x->(cells x)[j]? =some c->i<len/\∃ v,(f i).2[j]? =some v/\XU W b (o+i*P.cellsOf e+j)=some v/\v.oneCell'=true/\Fro (XU W) c v:=by
     intro i j x c hx hj;obtain⟨hi,rfl⟩:=hidx i x hx;obtain⟨_,_,r1,r2,r3⟩:=hf i hi;have hjl:j<(cells (en (f i).1)).length:=(aA.1 hj).1;have hjl':j<(f i).2.length:=by omega
     have hv:=aAE hjl';refine⟨hi,_,hv,?_,r2 _ (List.getElem_mem hjl'),r3 j c _ hj hv⟩;have:=hget i j hi (by grind)
     rw[BA,BA,hv]at this;exact this
    have:=Fro.sl (F:=XU W) (((aAP len).map λi=>(f i).1).map en) b o cap (P.cellsOf e) (λi j=>(f i).2.getD j undef) (by grind)
     (λx hx=>by
      grind)
     (λi j x c hx hj=>by
      grind)
     (λi j x c hx hj=>by
      obtain⟨_,v,h1,_,h3,_⟩:=key i j x c hx hj
      rw[aAZ,h1];exact h3)
     (λi j x c hx hj=>by
      obtain⟨_,v,h1,_,_,h4⟩:=key i j x c hx hj
      rw[aAZ,h1];exact h4)
    grind
theorem Rep.append {ds':List D} {cs cs':List Value} (h:Rep W ds cs) (h':Rep W ds' cs'):Rep W (ds++ds') (cs++cs'):=by
 obtain⟨h1,h2,h3⟩:=h;obtain⟨k1,k2,k3⟩:=h';refine⟨by simp_all,λv hv=>(aAg.1 hv).elim (h2 v) (k2 v),λj c v hc hv=>?_⟩
 grind
theorem Rd.arg {T:Type} {en:T->D} {Q:T->Prop} (h:Rd P W t en Q) (hagg:∀ a,(match P.underlying t with|some (.struct _)|some (.array _ _)=>True|_=>False)->∃ cs,en a= .agg cs) (hone:∀ a,¬ (match P.underlying t with|some (.struct _)|some (.array _ _)=>True|_=>False)->cells (en a)=[en a]) {enc:TypeId×Value->H} {b0:Nat} {d:DataW H} {p:List MemPlace} (hv:aAe P W .any b0 t v) (hr:DataW.Trod enc P W 0 (λ_=>true) true t v d p) (hw:Wt P t d):∃ a,Q a/\Fro (XU W) (en a) v:=by
 obtain⟨n,hn⟩:=hr;obtain⟨a,hq,r1,r2,r3⟩:=h.rd n _ _ hn hw;refine⟨a,hq,?_⟩
 by_cases hs:(match P.underlying t with|some (.struct _)|some (.array _ _)=>True|_=>False)
 ·obtain⟨cs,hcs⟩:=hagg a hs;have hva:∃ C,v= .agg C:=by
   grind [aAe]
  obtain⟨C,rfl⟩:=hva;rw[hcs]at r1 r3 ⊢;simp only[Value.cells]at r1 r2 r3;have:=Fro.agg (F:=XU W) cs C.toList r1 r2 r3;omega
 ·have h1:=hone a hs;have hva:∃ x,v.cells.toList=[x]/\v=x:=by
   have hl:v.cells.toList.length=1:=by simp_all
   cases v with
   | agg C =>
    exfalso;unfold aAe at hv;split at hv
    all_goals simp_all[Cell.okWide,Cell.ok]
   | _=>exact⟨_,rfl,rfl⟩
  obtain⟨x,hx,rfl⟩:=hva;rw[h1]at r3;exact r3 0 _ _ rfl (by rw[hx];rfl)
end
open Go.ChangeShapes Go.WideShapes Go.ChangeAt Go.RowKit
section
variable {H:Type} {enc:TypeId×Value->H} {P:Program} {W W':World}
theorem Kc (hb:∀ b,b<W.heap.size->W'.heap[b]? =W.heap[b]?) (h:a.block<W.heap.size):W'.cell? a=W.cell? a:=by
 grind [aAj]
theorem IM (hb:∀ b,b<W.heap.size->W'.heap[b]? =W.heap[b]?) (h:a.block<W.heap.size):W'.frozen? a=W.frozen? a:=by
 grind [World.frozen?]
theorem Ku (hb:∀ b,b<W.heap.size->W'.heap[b]? =W.heap[b]?) {p:MemPlace} (h:p.block<W.heap.size):W.sameAt W' p:=by
 cases p with
 | cell b off=>exact Kc hb h
 | map b=>exact hb b h
theorem Ei {sp:Nat->Bool} (K:Kids P (· <P.types.size)) (hz:∀ t e,t<P.types.size->P.underlying t=some (.slice e)->0<P.cellsOf e):∀ {ts:List TypeId} {vs:List Value} {ds:List (DataW H)} {ps:List MemPlace},(∀ t∈ts,t<P.types.size) ->
  aAa enc P W 0 (λ_=>true) true ts vs ds ps->(∀ p∈ps,W.sameAt W' p)->(∀ p∈ps,sp p.block=true)->aAa enc P W' 0 sp true ts vs ds ps
 | [],[],[],_,_,h,_,_=>h
 | _::_,_::_,_::_,_,hT,⟨p,q,⟨n,h1⟩,h2,e⟩,hs,hsp=>by
  subst e
  exact⟨p,q,⟨n,DataW.trod_respare K hz n _ _ _ (hT _ (aAY.2 (Or.inl rfl))) (DataW.trod_carry n _ _ _ h1 (λx hx=>hs x (List.mem_append_left _ hx))) (λx hx=>hsp x (List.mem_append_left _ hx))⟩,
   Ei K hz (λt ht=>hT t (aAY.2 (Or.inr ht))) h2 (λx hx=>hs x (aAk _ hx)) (λx hx=>hsp x (aAk _ hx)),rfl⟩
 | [],[],_::_,_,_,h,_,_=>h.elim
 | [],_::_,_,_,_,h,_,_=>h.elim
 | _::_,[],_,_,_,h,_,_=>h.elim
 | _::_,_::_,[],_,_,h,_,_=>h.elim
theorem Gv {f:Func} {apart fresh handsOn again:Bool} {args:Array Value} {ds gs:List (DataW H)} (hW:DataW.Whole enc P f.params.toList s.vars apart W args.toList ds gs before) (hvs:s.vars=[]) (K:Kids P (· <P.types.size)) (hz:∀ t e,t<P.types.size->P.underlying t=some (.slice e)->0<P.cellsOf e) (hts:∀ t∈f.params.toList,t<P.types.size) (hres:∀ (b:Nat) (sp:Nat->Bool) (hd:Bool),aAa enc P W' b sp hd f.resultTypes.toList (v.resultList f.resultTypes.size) (s.fn H (ds++gs)).results []) (hargs:(s.fn H (ds++gs)).args=ds) (hvars:(s.fn H (ds++gs)).vars=[]) (hos:W'.os=W.os) (hout:W'.output=W.output) (hb:∀ b,b<W.heap.size->W'.heap[b]? =W.heap[b]?) (hok:∀ (j:Nat) (t:TypeId) (r:Value),f.resultTypes[j]? =some t->(v.resultList f.resultTypes.size)[j]? =some r->aAe P W' .any 0 t r) :
  s.post enc P f apart fresh handsOn again W args v W':=by
 have hW':=hW;obtain⟨p,q,hA,hV,e,hzz,hn⟩:=hW;rw[hvs]at hV;obtain⟨rfl,rfl⟩:=trodVars_none hV;subst e;simp only[aAT]at hW' hn hzz;have hlt:∀ x∈p,x.block<W.heap.size:=hW'.lt;have hargs':∀ sp:Nat->Bool,(∀ x∈p,sp x.block=true)->aAa enc P W' 0 sp true f.params.toList args.toList (s.fn H (ds++[])).args p:=by
  grind [Ei,Ku]
 have hvars':∀ sp:Nat->Bool,DataW.TrodVars enc P W' sp s.vars (s.fn H (ds++[])).vars []:=by
  intro sp;rw[hvs,hvars];exact(rfl:([]:List MemPlace)=[])
 have hold:∀ x∈p,(λb=>decide (b<W.heap.size)) x.block=true:=λx hx=>by simp_all
 refine⟨ds,[],p,[],p,[],hW',hres _ _ _,hargs' _ hold,hvars' _,⟨hos,hout,λi hi=>?_⟩,λ_=>?_⟩
 ·grind
 ·refine⟨hok,_,_,([]++p)++[],⟨[]++p,[],trodAll_append (hargs' _ (λ_ _=>rfl)) (hres _ _ _),hvars' _,rfl,?_,?_⟩,?_⟩
  ·intro b off hp;have hp':MemPlace.cell b off∈p:=by simp_all
   rw[IM hb (hlt _ hp')];exact hzz b off hp'
  all_goals simp_all
theorem Arw {A:Type} {enc0:A->List D} {dec0:List D->A} {f:A->Option Bool} {encR:Bool->D} {encE:Bool->List D} (hspec:NK P k (NO [] .ground enc0 dec0 f encR encE)) (hde:∀ a,dec0 (enc0 a)=a) (hR:encR true= .bool true) {apart fresh handsOn again:Bool} {args:Array Value} {ds gs:List (DataW H)} (hW:DataW.Whole enc P fn.params.toList s.vars apart W args.toList ds gs before) (hvs:s.vars=[]) (hl:laidOutB P=true) (hm:mapsRowed P=true) (hz:((aAP P.types.size).all λt=>match P.underlying t with|some (.slice e)=>decide (0<P.cellsOf e)|_=>true)=true) (hts:fn.params.toList.all (λt=>decide (t<P.types.size))=true) {tb:TypeId} (hrt:fn.resultTypes= #[tb]) (htb:P.underlying tb=some .bool) (hfn:∀ ds:List (DataW H),ds.length=fn.params.size->s.fn H ds={ results:=[.lit (.bool true)],args:=ds,vars:=[] }) (hlen:ds.length=fn.params.size) (hglob:Zv P (XU W)) (hread:∃ a,UP (XU W) W [] 0 (enc0 a) args.toList []/\f a=some true) :
  Calls P k args W λe W'=>∃ v,e= .returned v/\s.post enc P fn apart fresh handsOn again W args v W':=by
 obtain⟨a,hA,hfa⟩:=hread;have hgs:gs=[]:=by
  obtain⟨p,q,_,hV,_⟩:=hW
  grind [trodVars_none]
 subst hgs;have hF:Fok (XU W) W:=λb i x h=>h
 have hfin:∀ b i x,XU W b i=some x->b<W.heap.size:=by
  grind [XU,aAj]
 have h:=(hspec (XU W) hglob).2.2.1 rfl rfl W (XU W) (enc0 a) args.toList [] (Og.refl _) hF hfin hA ⟨a,true,rfl,hfa⟩;have e0:args.toList.toArray=args:=by simp
 rw[e0]at h;refine h.mono λe W' hq=>?_
 obtain⟨v,F',_,_,rfl,_,_,hst,hres,_⟩:=hq;have hv:v= .bool true:=by
  have h1:Fro F' ((NO [] .ground enc0 dec0 f encR encE).res (enc0 a)) v:=hres;rw[SK hde hfa,hR]at h1;cases h1;rfl
 subst hv;refine⟨_,rfl,Gv hW hvs (kids_rows hl hm) (slices_full_of P hz) (λt ht=>by grind) ?_ ?_ ?_ hst.os hst.output (λb hb=>hst.block b hb (λ⟨_,hm,_⟩=>by cases hm)) ?_⟩
 ·intro b sp hd;rw[aAT,hfn ds hlen,hrt];exact trodAll_cons_mk (p:=[]) (p':=[]) (shut_bool htb true) trodAll_mk0
 ·simp_all
 ·simp_all
 ·exact ok_one hrt rfl (okWide_bool_mk htb true)
end
def uR {α:Type} (u:D->α):D->List α| .row _ _ es=>es.map u|_=>[]
@[simp] theorem Axk {u:D->α} {en:α->D} (h:∀ a,u (en a)=a) (s ty:Nat) (l:List α):uR u (.row s ty (l.map en))=l:=by
 simp only[uR,aAU]
 conv=>rhs;rw[<- List.map_id l]
 exact aAQ λa _=>h a
section
variable {Γ:An} {X:Type} {K:KR X} {t:Option X} {e:List (Nat×D)} {o:List (Nat×Ad)} {n nv:Nat} {d:Bool} {acc:List Ck}
 {r:List As} {dst:Nat} {g:Option (Nat×Bool)} {af:List Nat} {α:Type}
variable {x y:Arg} {v w:D} {k k':IntKind} {a b:Int} {s ty gi vi ii off m:Nat} {fz var:Bool} {es es':List D} {z z':D} {l l':List α} {en:α->D}
theorem Aer (hg:gOn e g=true) (hx:Aa e x=some (.optr gi vi i off)) (hy:Aa e y=some v) (hw:strip v=(true,v)) (ho:lkO o gi=some (vi,⟨false,var,s,ty,es⟩)) (hr:(AG var (cells v)).run ⟨e,o,n⟩=(c,cs',wo)) (hrd:(AG var (cells v)).rd ⟨e,o,n⟩=rk) (hc:c) (hz:es[i]? =some z) (hk:known v=true) (hl:(cells v).length=m) (hb:aAH (off+m) (cells z).length=true) (hes:es.set i (Qf z off cs')=es') (hwo:wo.all (λx=>x.1 != gi)=true) (h:TrO Γ r (nv+1) ⟨e,(gi,some (vi,⟨false,var,s,ty,es'⟩))::(wo++o),n⟩ d (acc++[(gK g++(rdK x++(rdK y++(.o gi::rk))),.o gi::wo.map (λx=>.o x.1),af)]) K t) (hrg:Ae gi=true:=by rfl) :
  TrO Γ (⟨none,.st m x y,g,af⟩::r) nv ⟨e,o,n⟩ d acc K t:=by
 have hb':=aAC hb;obtain⟨hi',rfl⟩:=aA.1 hz;have hgd:es.getD i .top=es[i]:=by simp[hi']
 refine Ap hg (c:=True) (we:=[]) (wo:=(gi,some (vi,⟨false,var,s,ty,es'⟩))::wo) (rd:=rdK x++(rdK y++(Key.o gi::rk))) ?_ ?_ trivial (by simp_all)
 ·simp only[evalOp,R.run_bind,BF,aAA,hx,hy,hw,DY,R.Cg,BN,ho,hrg,if_true,R.Bz,hr,hgd,hes]
  grind
 simp_all[evalOp,DY]
theorem Hp {s':Nat} (hg:gOn e g=true) (hx:Aa e x=some (.osl gi vi 0 q)) (ho:lkO o gi=some (ii,⟨false,var,s,ty,es⟩)) (h:TrO Γ r (nv+1) ⟨(dst,.osl gi vi 0 q)::e,o,n⟩ d (acc++[(gK g++(rdK x++[.o gi]),[.e dst],af)]) K t) (hrg:Ae gi=true:=by rfl) :
  TrO Γ (⟨some dst,.asg x (some (s',ty')),g,af⟩::r) nv ⟨e,o,n⟩ d acc K t:=by
 refine Ap hg (c:=True) (we:=[(dst,.osl gi vi 0 q)]) (wo:=[]) (rd:=rdK x++[Key.o gi]) ?_ ?_ trivial h
 ·simp only[evalOp,R.run_bind,Bk,aAA,hx,R.Cg,BN,ho,aAR,if_false,R.Bz,hrg,if_true,Ah]
 simp_all[evalOp]
theorem AhP (hg:gOn e g=true) (hx:Aa e x=some (.int k a)) (hy:Aa e y=some (.int k' a)) (hl:0<=a/\a<=16777216) (hby:aAH bytes 65536=true) (h:TrO Γ r (nv+1) ⟨(dst,.osl dst nv 0 (aAG a.toNat ([]:List α)).length)::e,(dst,some (nv,⟨false,false,s,ty,(aAG a.toNat ([]:List α)).map (λ_=>.nils)⟩))::o,n⟩ d (acc++[(gK g++(rdK x++rdK y),[.e dst,.o dst],af)]) K t) :
  TrO Γ (⟨some dst,.mkS s ty bytes .nils x y,g,af⟩::r) nv ⟨e,o,n⟩ d acc K t:=by
 have:=aAC hby;exact Ap hg (c:=True) (we:=[(dst,.osl dst nv 0 (aAG a.toNat ([]:List α)).length)]) (wo:=[(dst,some (nv,⟨false,false,s,ty,(aAG a.toNat ([]:List α)).map (λ_=>.nils)⟩))]) (rd:=rdK x++rdK y) (by simp_all[evalOp,Ah,AV,strip]) (by simp_all[evalOp,strip]) trivial h
end
section
variable {e E:List (Nat×D)} {o O:List (Nat×Ad)} {n:Nat} {α:Type} {g v s ty:Nat} {var:Bool} {es es':List D} {z:D}
theorem Dg {τ:S} (hw:Rw ⟨e,o,n⟩ τ) (h:Has τ E O):Has ⟨e,o,n⟩ E O:=h.imp λ_ h=>.rw hw h
theorem Aci {off g' v' m s':Nat} {l:List α} {en:α->D} {c:D} (ho:lkO o g=some (v,⟨false,var,s,ty,es⟩)) (hz:es[i]? =some z) (hc:(cells z)[off]? =some c) (hh:c= .hole g' v' m\/(c= .osl g' v' 0 m/\var=true)) (ho':lkO o g'=some (v',⟨false,false,s',ty',l.map en⟩)) (hm:m=l.length) (hp:∀ q,AH (en q)=true) (hes:es.set i (Qf z off [.row s' ty' (l.map en)])=es') (h:Has ⟨e,(g,some (v,⟨false,var,s,ty,es'⟩))::(g',none)::o,n⟩ E O) (hrg:Ae g=true:=by rfl) (hne:aAM g g'=false:=by rfl):Has ⟨e,o,n⟩ E O:=by
 obtain⟨hi,rfl⟩:=aA.1 hz;have hgd:es.getD i .top=es[i]:=by simp[hi]
 have hne':g≠g':=λe=>by simp_all
 subst hm
 have:=Rw.close (σ:=⟨e,o,n⟩) g v i off g' v' l.length ⟨false,var,s,ty,es⟩ ⟨false,false,s',ty',l.map en⟩ c (by simp_all) hrg rfl hi (by simp_all) hh (by simp_all) rfl rfl (by simp) (.inr λe he=>by
  grind) hne'
 grind [Dg,CA]
theorem Ain {off s':Nat} (t:Nat) (l:List α) (en:α->D) (ho:lkO o g=some (v,⟨false,true,s,ty,[z]⟩)) (hc:(cells z)[off]? =some (.row s' ty' (l.map en))) (hz:Qf z off [.osl (4096+t) n 0 l.length]=z') (h:Has ⟨e,(4096+t,some (n,⟨false,false,s',ty',l.map en⟩))::(g,some (v,⟨false,true,s,ty,[z']⟩))::o,n+1⟩ E O) (hrg:Ae g=true:=by rfl) (hne:aAM g (4096+t)=false:=by rfl):Has ⟨e,o,n⟩ E O:=by
 have hne':g≠4096+t:=λe=>by simp_all
 have:=Rw.opn (σ:=⟨e,o,n⟩) g v 0 off t s' ty' (l.map en) ⟨false,true,s,ty,[z]⟩ (by simp_all) hrg rfl rfl (by simp) hc hne'
 grind [Dg]
theorem Aum {g2:Nat} (ho:lkO o g=some (v,⟨false,var,s,ty,es⟩)) (hrg:Ae g=false) (hg2:g2=4096+g) (he:Each (Enr false) es es')
  (h:Has ⟨e.map (λp=>(p.1,ren g g2 p.2)),(g2,some (v,⟨false,var,s,ty,es'⟩))::(g,none)::o,n⟩ E O):Has ⟨e,o,n⟩ E O:=by
 have:=Rw.enrich (σ:=⟨e,o,n⟩) g g2 v ⟨false,var,s,ty,es⟩ es' (by simp_all) rfl (.inr ⟨hrg,hg2⟩) (by grind)
 grind [Dg,aAS]
theorem AkN (ho:lkO o g=some (v,⟨false,false,s,ty,es⟩)) (he:es.map nrm=es') (h:Has ⟨e,(g,some (v,⟨false,false,s,ty,es'⟩))::o,n⟩ E O) (hrg:Ae g=false:=by rfl):Has ⟨e,o,n⟩ E O:=by
 subst he;have:=Rw.nilsl (σ:=⟨e,o,n⟩) g v ⟨false,false,s,ty,es⟩ (by simp_all) hrg rfl rfl
 grind [Dg]
theorem AmP {l:List (List α)} (en:α->D) (hl:∀ q∈l,q=[]):(l.map λ_=>D.nils).map nrm=l.map (eL en):=by
 rw[aAU];refine aAQ λq hq=>?_
 rw[hl q hq];rfl
theorem Ki (ho:lkO o g=some (v,⟨false,true,s,ty,[z]⟩)) (hc:(cells z).all Pd=true) (h:Has ⟨e.map (λp=>(p.1,frp g v z p.2)),(g,none)::o.map (λp=>(p.1,frO g v z p.2)),n⟩ E O):Has ⟨e,o,n⟩ E O:=by
 have:=Rw.fvar (σ:=⟨e,o,n⟩) g v ⟨false,true,s,ty,[z]⟩ z (by simp_all) rfl rfl rfl hc
 grind [Dg]
end
abbrev eA {α:Type} (en:α->D) (l:List α):D:=.agg (l.map en)
def uA {α:Type} (u:D->α):D->List α| .agg cs=>cs.map u|_=>[]
@[simp] theorem ND {u:D->α} {en:α->D} (h:∀ a,u (en a)=a) (l:List α):uA u (.agg (l.map en))=l:=by
 simp only[uA,aAU]
 conv=>rhs;rw[<- List.map_id l]
 exact aAQ λa _=>h a
def fpD:D->D| .fptr e _=>e|_=>.top
def AeV:D->Nat->D| .clo _ caps,j=>caps.getD j .top|_,_=>.top
theorem Gl (cs:List D) (off:Nat) (d:D):setAt cs off [d]=cs.set off d:=rfl
section
variable {Γ:An} {X:Type} {K:KR X} {t:Option X} {e:List (Nat×D)} {o:List (Nat×Ad)} {n nv:Nat} {d:Bool} {acc:List Ck}
 {r:List As} {dst:Nat} {g:Option (Nat×Bool)} {af:List Nat} {α:Type}
variable {x y:Arg} {v w:D} {k k':IntKind} {a b:Int} {s ty gi vi ii off m:Nat} {fz var:Bool} {l:List α} {en:α->D}
theorem QD {len:Nat} (hg:gOn e g=true) (hx:Aa e x=some (.optr gi vi i off)) (hy:Aa e y=some (.int k a)) (hi:0<=a/\a<len) (h:TrO Γ r (nv+1) ⟨(dst,.optr gi vi i (off+a.toNat*s))::e,o,n⟩ d (acc++[(gK g++(rdK x++rdK y),[.e dst],af)]) K t) :
  TrO Γ (⟨some dst,.ixP s len x y,g,af⟩::r) nv ⟨e,o,n⟩ d acc K t :=
 Ap hg (c:=True) (we:=[(dst,.optr gi vi i (off+a.toNat*s))]) (wo:=[]) (rd:=rdK x++rdK y) (by simp[evalOp,Ah,strip,hx,hy,hi.1,hi.2]) (by simp[evalOp,strip,hx,hy]) trivial h
theorem Qy {q:α} (hj:off=j) (hg:gOn e g=true) (hx:Aa e x=some (.optr gi vi 0 off)) (ho:lkO o gi=some (vi,⟨fz,var,s,ty,[.agg (l.map en)]⟩)) (hi:l[j]? =some q) (hpl:plain (en q)=true) (_hc:∀ q,cells (en q)=[en q]) (h:TrO Γ r (nv+1) ⟨(dst,en q)::e,o,n⟩ d (acc++[(gK g++(rdK x++[.o gi]),[.e dst],af)]) K t) :
  TrO Γ (⟨some dst,.ld 1 false x,g,af⟩::r) nv ⟨e,o,n⟩ d acc K t:=by
 subst hj;have hl:=(aA.1 hi).1;refine AfG (i:=0) (m:=1) (agg:=false) (off:=off) (z:=.agg (l.map en)) (v:=en q) hg hx ho rfl ?_ ?_ h (by simp[hpl])
 ·simp only[cells,aAK];exact aAF (by omega)
 ·simp only[On,cells,aAR,if_false];simp[hi]
theorem Ajy {q q':α} (hj:off=j) (hg:gOn e g=true) (hx:Aa e x=some (.optr gi vi 0 off)) (hy:Aa e y=some (en q')) (hw:strip (en q')=(true,en q')) (ho:lkO o gi=some (vi,⟨false,true,s,ty,[.agg (l.map en)]⟩)) (hi:l[j]? =some q) (hk:known (en q')=true) (hc:cells (en q')=[en q']) (hz:D.agg ((l.set j q').map en)=z') (h:TrO Γ r (nv+1) ⟨e,(gi,some (vi,⟨false,true,s,ty,[z']⟩))::o,n⟩ d (acc++[(gK g++(rdK x++(rdK y++[.o gi])),[.o gi],af)]) K t) (hrg:Ae gi=false:=by rfl) :
  TrO Γ (⟨none,.st 1 x y,g,af⟩::r) nv ⟨e,o,n⟩ d acc K t:=by
 subst hj;subst hz;have hl:=(aA.1 hi).1;refine Vn (z:=.agg (l.map en)) (z':=.agg ((l.set off q').map en)) hg hx hy hw ho hk (by rw[hc];rfl) ?_ ?_ h hrg
 ·simp only[cells,aAK];exact aAF (by omega)
 ·simp only[Qf,hc,Gl,aAl]
theorem Ahn {q q':α} (hj:off=j) (hg:gOn e g=true) (hx:Aa e x=some (.optr gi vi 0 off)) (hy:Aa e y=some (en q')) (hw:strip (en q')=(true,en q')) (ho:lkO o gi=some (vi,⟨false,true,s,ty,[.agg (l.map en)]⟩)) (hi:l[j]? =some q) (hk:known (en q')=true) (hc:cells (en q')=[en q']) (hz:D.agg ((l.set j q').map en)=z') (hcl:(AG true [en q']).run ⟨e,o,n⟩=(True/\True/\([]:List (Nat×Ad)).all (λ_=>([]:List (Nat×Ad)).all λ_=>true)=true,[en q'],[])) (hrd:(AG true [en q']).rd ⟨e,o,n⟩=[]) (h:TrO Γ r (nv+1) ⟨e,(gi,some (vi,⟨false,true,s,ty,[z']⟩))::o,n⟩ d (acc++[(gK g++(rdK x++(rdK y++[.o gi])),[.o gi],af)]) K t) (hrg:Ae gi=true:=by rfl) :
  TrO Γ (⟨none,.st 1 x y,g,af⟩::r) nv ⟨e,o,n⟩ d acc K t:=by
 subst hj;subst hz;have hl:=(aA.1 hi).1;refine Aer (i:=0) (c:=True/\True/\([]:List (Nat×Ad)).all (λ_=>([]:List (Nat×Ad)).all λ_=>true)=true) (z:=.agg (l.map en)) (es':=[.agg ((l.set off q').map en)]) (cs':=[en q']) (wo:=[]) (rk:=[]) hg hx hy hw ho (by rw[hc];exact hcl) (by rw[hc];exact hrd) ⟨trivial,trivial,rfl⟩ rfl hk (by rw[hc];rfl) ?_ ?_ rfl h hrg
 ·simp only[cells,aAK];exact aAF (by omega)
 ·simp only[Qf,Gl,aAl,List.set_cons_zero]
theorem AvR {len:Nat} {z:D} (hg:gOn e g=true) (hx:Aa e x=some (.fptr z off)) (hy:Aa e y=some (.int k a)) (hi:0<=a/\a<len)
  (h:TrO Γ r (nv+1) ⟨(dst,.fptr z (off+a.toNat*s))::e,o,n⟩ d (acc++[(gK g++(rdK x++rdK y),[.e dst],af)]) K t) :
  TrO Γ (⟨some dst,.ixP s len x y,g,af⟩::r) nv ⟨e,o,n⟩ d acc K t :=
 Ap hg (c:=True) (we:=[(dst,.fptr z (off+a.toNat*s))]) (wo:=[]) (rd:=rdK x++rdK y) (by simp[evalOp,Ah,strip,hx,hy,hi.1,hi.2]) (by simp[evalOp,strip,hx,hy]) trivial h
theorem Asu {q:α} (hj:off=j) (hg:gOn e g=true) (hx:Aa e x=some (.fptr (.agg (l.map en)) off)) (hi:l[j]? =some q) (_hc:∀ q,cells (en q)=[en q]) (h:TrO Γ r (nv+1) ⟨(dst,en q)::e,o,n⟩ d (acc++[(gK g++rdK x,[.e dst],af)]) K t) :
  TrO Γ (⟨some dst,.ld 1 false x,g,af⟩::r) nv ⟨e,o,n⟩ d acc K t:=by
 subst hj;have hl:=(aA.1 hi).1;refine DZ (m:=1) (agg:=false) (off:=off) (z:=.agg (l.map en)) (v:=en q) hg hx ?_ ?_ h
 ·simp only[cells,aAK];exact aAF (by omega)
 ·simp only[On,cells,aAR,if_false];simp[hi]
theorem Aoj {q:α} {len:Nat} (hg:gOn e g=true) (hx:Aa e x=some (.agg (l.map en))) (hy:Aa e y=some (.int k a)) (hi:0<=a/\a<len) (hl:len<=l.length) (hq:l[a.toNat]? =some q)
  (h:TrO Γ r (nv+1) ⟨(dst,en q)::e,o,n⟩ d (acc++[(gK g++(rdK x++rdK y),[.e dst],af)]) K t) :
  TrO Γ (⟨some dst,.ix 1 len false x y,g,af⟩::r) nv ⟨e,o,n⟩ d acc K t:=by
 refine Ap hg (c:=True) (we:=[(dst,en q)]) (wo:=[]) (rd:=rdK x++rdK y) ?_ (by simp[evalOp,strip,hx,hy]) trivial h
 simp[evalOp,Ah,strip,hx,hy,hi.1,hi.2,hl,On,hq]
end
section
variable {Γ Γ':An} {X ι γ:Type} {K:X->Ar->S->Prop} {t:Option X} {e E:List (Nat×D)} {o O:List (Nat×Ad)} {n nv N:Nat} {acc:List Ck}
 {r:List As} {dst:Option Nat} {g:Option (Nat×Bool)} {af:List Nat}
theorem ZK {E1:List (Nat×D)} {O1:List (Nat×Ad)} (h:Has σ E1 O1) (k:∀ n,Has ⟨E1,O1,n⟩ E O):Has σ E O :=
 h.elim λn h=>(k n).imp λ_ k=>h.trans k
theorem Qe (rn:Nat->Nat) (hn:CI rn (o.map Prod.fst)=true) (h:Has ⟨e.map (λp=>(p.1,rnm rn p.2)),o.map (λp=>(rn p.1,rnO rn p.2)),n⟩ E O):Has ⟨e,o,n⟩ E O :=
 Dg (Rw.nams (σ:=⟨e,o,n⟩) rn hn) h
def TrC (Γ:An) (op:As) (r:List As) (K:X->Ar->S->Prop) (σ:S) (t:Option X):Prop:=∀ x,t=some x->FI Γ op σ (Wk (λτ=>wpS Γ r τ.n τ (K x .normal)))
theorem Uc {op:As} {E:γ->List (Nat×D)} {O:γ->List (Nat×Ad)} (g0:γ) (hh:Has ⟨e,o,nv⟩ (E g0) (O g0)) (h:∀ g nn,TrC Γ op r K ⟨E g,O g,nn⟩ t):TrO Γ (op::r) nv ⟨e,o,n⟩ false acc (Fa N K) t:=by
 intro x hx;refine⟨λ_=>.inr ?_,λhd=>by cases hd⟩
 obtain⟨m,hm⟩:=hh;exact⟨_,hm,h g0 m x hx⟩
def IQ (Γ:An) (r:List As) (dst:Option Nat) (rs:List Az) (e:List (Nat×D)) (K:X->Ar->S->Prop):X->Ar->S->Prop:=λx =>
 Hf rs e (λd τ=>Wk (λτ=>wpS Γ r τ.n τ (K x .normal)) ⟨Ah dst d++τ.e,τ.o,τ.n⟩)
def IU (dst:Option Nat) (rs:List Az) (e:List (Nat×D)) (E:ι->γ->List (Nat×D)) (O:ι->γ->List (Nat×Ad)) (j:ι->Option X):X->Ar->S->Prop:=λx =>
 Hf rs e (λd τ=>∃ s g,j s=some x/\Has ⟨Ah dst d++τ.e,τ.o,τ.n⟩ (E s g) (O s g))
theorem Ho {args:List Arg} {caps:List D} {KK:X->Ar->S->Prop} (hg:gOn e g=true) (hf:Aa e fa=some (.clo k caps)) (hds:Aj e args=ds) (hw:ds.all (λd=>(match d with| .when ..=>false|_=>true))=true) (hkb:aAD (unb args k) 4096=true) (hΓ:Γ (unb args k+4096*AE ds)=some (ZR Γ' np rs dc)) (hnp:(ds++caps).length=np) (hE:Dd 0 (ds++caps)=E) (hK:∀ x ex τ,KK x ex τ->IQ Γ r dst rs e K x ex τ) (h:Tr Γ' dc KK ⟨E,o,n⟩ t) :
  TrC Γ ⟨dst,.call fa args,g,af⟩ r K ⟨e,o,n⟩ t:=by
 intro x hx;have hrd:(AF args).run ⟨e,o,n⟩=ds:=by grind [Bi]
 have hraw:(raw fa).run ⟨e,o,n⟩= .clo k caps:=by simp[hf]
 have hon:onG g ⟨e,o,n⟩:=by
  cases g with
  | none=>trivial
  | some p =>
   obtain⟨tt,want⟩:=p;show(guardOf ((S.mk e o n).ge tt) want).1/\(guardOf ((S.mk e o n).ge tt) want).2=true
   grind [gOn,BE,S.ge,guardOf]
 refine⟨hon,fa,args,k,caps,ZR Γ' np rs dc,DW Γ' np rs dc,Wk (λτ=>wpS Γ r τ.n τ (K x .normal)),λτ hτ=>hτ,rfl,hraw,hkb,?_,rfl,?_,?_⟩
 ·simp_all
 ·grind
 ·show DW Γ' np rs dc ((AF args).run ⟨e,o,n⟩++caps) ⟨e,o,n⟩ _;rw[hrd];refine⟨hnp,_,.refl _,?_⟩;show DWp Γ' dc _ ⟨Dd 0 (ds++caps),o,n⟩;rw[hE];exact AJ dc _ _ _ (λex τ hq=>hK x ex τ hq) (h x hx)
theorem AgB {args:List Arg} {caps:List D} (hg:gOn e g=true) (hf:Aa e fa=some (.clo k caps)) (hds:Aj e args=ds) (hw:ds.all (λd=>(match d with| .when ..=>false|_=>true))=true) (hkb:aAD (unb args k) 4096=true) (hΓ:Γ (unb args k+4096*AE ds)=some (ZR Γ' np rs dc)) (hnp:(ds++caps).length=np) (hE:Dd 0 (ds++caps)=E) (h:Tr Γ' dc (IQ Γ r dst rs e K) ⟨E,o,n⟩ t) :
  TrC Γ ⟨dst,.call fa args,g,af⟩ r K ⟨e,o,n⟩ t:=Ho hg hf hds hw hkb hΓ hnp hE (λ_ _ _ h=>h) h
theorem Es {K1 K2:D->S->Prop} (h:∀ d τ,K1 d τ->K2 d τ) {τ:S} (hq:Hf rs e K1 ex τ):Hf rs e K2 ex τ:=by
 cases ex with
 | exit id=>exact hq
 | normal=>exact Wk.mono (λτ h'=>⟨h'.1,h _ _ h'.2⟩) hq
 | ret=>exact Wk.mono (λτ h'=>⟨h'.1,h _ _ h'.2⟩) hq
theorem YT {args:List Arg} {caps:List D} {ES:ι->γ->List (Nat×D)} {OS:ι->γ->List (Nat×Ad)} {j:ι->Option X} (hg:gOn e g=true) (hf:Aa e fa=some (.clo k caps)) (hds:Aj e args=ds) (hw:ds.all (λd=>(match d with| .when ..=>false|_=>true))=true) (hkb:aAD (unb args k) 4096=true) (hΓ:Γ (unb args k+4096*AE ds)=some (ZR Γ' np rs dc)) (hnp:(ds++caps).length=np) (hE:Dd 0 (ds++caps)=E) (h:Tr Γ' dc (IU dst rs e ES OS j) ⟨E,o,n⟩ t) (h2:∀ s g nn,TrO Γ r nn ⟨ES s g,OS s g,nn⟩ false [] (Fa 0 K) (j s)) :
  TrC Γ ⟨dst,.call fa args,g,af⟩ r K ⟨e,o,n⟩ t:=by
 refine Ho (KK:=IU dst rs e ES OS j) hg hf hds hw hkb hΓ hnp hE (λx ex τ hq=>?_) h
 refine Es (λd τ hq=>?_) hq
 obtain⟨s,g,hj,m,hm⟩:=hq;exact⟨_,hm,(h2 s g m x hj).1 rfl⟩
theorem Aec {d:D} {n':Nat} (hex:(match ex with| .exit _=>false|_=>true)=true) (hr:(Ol rs ⟨e',o',n'⟩).1) (hd:(Ol rs ⟨e',o',n'⟩).2=d) (hh:Has ⟨Ah dst d++e,o',n'⟩ E O) (h:∀ nn,TrO Γ r nn ⟨E,O,nn⟩ false [] (Fa 0 K) t):TrX ex (IQ Γ r dst rs e K) ⟨e',o',n'⟩ t:=by
 intro x hx;subst hd;have key:Wk (λτ=>(Ol rs τ).1/\(λ(d:D) (τ:S)=>Wk (λτ=>wpS Γ r τ.n τ (K x .normal)) ⟨Ah dst d++τ.e,τ.o,τ.n⟩) (Ol rs τ).2 ⟨e,τ.o,τ.n⟩) ⟨e',o',n'⟩:=by
  refine⟨_,.refl _,?_⟩;obtain⟨m,hm⟩:=hh;exact⟨hr,_,hm,(h m x hx).1 rfl⟩
 cases ex with
 | exit id=>cases hex
 | normal=>exact key
 | ret=>exact key
theorem QB {d:D} {n':Nat} {ES:ι->γ->List (Nat×D)} {OS:ι->γ->List (Nat×Ad)} {j:ι->Option X} {s:ι} (g:γ) (hex:(match ex with| .exit _=>false|_=>true)=true) (hr:(Ol rs ⟨e',o',n'⟩).1) (hd:(Ol rs ⟨e',o',n'⟩).2=d) (hh:Has ⟨Ah dst d++e,o',n'⟩ (ES s g) (OS s g)):TrX ex (IU dst rs e ES OS j) ⟨e',o',n'⟩ (j s):=by
 intro x hx;subst hd;have key:Wk (λτ=>(Ol rs τ).1/\(λ(d:D) (τ:S)=>∃ s g,j s=some x/\Has ⟨Ah dst d++τ.e,τ.o,τ.n⟩ (ES s g) (OS s g)) (Ol rs τ).2 ⟨e,τ.o,τ.n⟩) ⟨e',o',n'⟩:=by
  refine⟨_,.refl _,hr,s,g,hx,hh⟩
 cases ex with
 | exit id=>cases hex
 | normal=>exact key
 | ret=>exact key
theorem AjO {KK:KR X} {x y:Arg} {s gi vi:Nat} {l:List α} {en:α->D} {q q':α} (hg:gOn e g=true) (hx:Aa e x=some (.optr gi vi i 0)) (hy:Aa e y=some (en q')) (hw:strip (en q')=(true,en q')) (ho:lkO o gi=some (vi,⟨false,false,s,ty,l.map en⟩)) (hi:l[i]? =some q) (hk:known (en q')=true) (hc:∀ q,cells (en q)=[en q]) (hz:Qf (en q) 0 [en q']=en q') (hcl:(AG false [en q']).run ⟨e,o,n⟩=(c,[en q'],[])) (hrd:(AG false [en q']).rd ⟨e,o,n⟩=rk) (hcc:c) (h:TrO Γ r (nv+1) ⟨e,(gi,some (vi,⟨false,false,s,ty,(l.set i q').map en⟩))::o,n⟩ d (acc++[(gK g++(rdK x++(rdK y++(.o gi::rk))),[.o gi],af)]) KK t) (hrg:Ae gi=true:=by rfl) :
  TrO Γ (⟨none,.st 1 x y,g,af⟩::r) nv ⟨e,o,n⟩ d acc KK t:=by
 have hl:=(aA.1 hi).1;refine Aer (i:=i) (off:=0) (m:=1) (z:=en q) (es':=(l.set i q').map en) (cs':=[en q']) (wo:=[]) (rk:=rk) hg hx hy hw ho (by simp_all) (by simp_all) hcc (by simp[hi]) hk (by rw[hc];rfl) (by rw[hc];rfl) ?_ rfl h hrg
 simp_all
end
theorem Alk (l:List α) (en:α->D) (k:Nat):aAN (l.length-k) (aAf k (l.map en))=(l.drop k).map en:=by
 simp_all
section
variable {Γ:An} {X α:Type} {K:KR X} {t:Option X} {e E:List (Nat×D)} {o O:List (Nat×Ad)} {n nv:Nat} {acc:List Ck} {d:Bool}
 {r:List As} {dst:Nat} {g:Option (Nat×Bool)} {af:List Nat} {x y i:Arg} {gi vi ty:Nat} {m:Int} {en:α->D} {l:List (Int×α)} {z:D}
theorem Jd (k:IntKind) (n:Int):strip (.int k n)=(true,.int k n):=rfl
theorem ZJ {v gg off tt s tyy ss:Nat} {zz:D} (ho:lkO o gg=some (v,⟨false,true,ss,ty,[zz]⟩)) (hc:(cells zz)[off]? =some .nils) (hs:aAD 0 s=true) (hz:Qf zz off [.osl tt n 0 0]=z') (h:Has ⟨e,(gg,some (v,⟨false,true,ss,ty,[z']⟩))::(tt,some (n,⟨false,false,s,tyy,[]⟩))::o,n+1⟩ E O) (hr:Ae gg=false:=by rfl) (hne:aAM gg tt=false:=by rfl):Has ⟨e,o,n⟩ E O:=by
 subst hz;have hs':0<s:=by simp_all
 have hne':gg≠tt:=λe=>by simp_all
 have:=Rw.nilv (σ:=⟨e,o,n⟩) gg v 0 off tt s tyy ⟨false,true,ss,ty,[zz]⟩ (by simp_all) hr rfl rfl (by simp) hc hs' hne'
 grind [Dg]
end
theorem nbq (a b:Nat):aAM a b=decide (a=b):=by
 by_cases h:a=b
 all_goals simp_all[Bool.eq_false_iff]
class TyE (ty:Nat) {α:outParam Type} (en:outParam (α->D)):Prop
def noE {B:Type} (_:B):List D:=[]
class Od {A:Type} (enc:A->List D) (dec:outParam (List D->A)):Prop where
 ok:∀ a,dec (enc a)=a
def EvL (l l':List D):Prop:=l=l'
theorem EvL.nil (h:l=[]):EvL l []:=h
theorem EvL.cons {t t':List D} {a:D} (h:l=a::t) (ht:EvL t t'):EvL l (a::t'):=by
 cases ht;exact h
def EvP (l l':List (Nat×Nat×D)):Prop:=l=l'
theorem EvP.nil {l:List (Nat×Nat×D)} (h:l=[]):EvP l []:=h
theorem EvP.cons {a b:Nat} {x:Arg} {r:List (Nat×Nat×Arg)} {d:D} {r':List (Nat×Nat×D)} (h:Aa e x=some d) (ht:EvP (Ca e r) r'):EvP (Ca e ((a,b,x)::r)) ((a,b,d)::r'):=by
 grind [EvP,Ca]
section
variable {Γ:An} {X:Type} {K:KR X} {t:Option X} {e:List (Nat×D)} {o:List (Nat×Ad)} {n nv:Nat} {d:Bool} {acc:List Ck}
 {r:List As} {dst:Nat} {g:Option (Nat×Bool)} {af:List Nat} {α:Type}
 {x y:Arg} {v v' w:D} {k k':IntKind} {a b:Int} {s ty gi vi ii off m:Nat} {fz var:Bool} {es cs:List D} {z z':D} {l l':List α} {en:α->D}
theorem EC (hg:gOn e g=true) (hx:Aa e x=some (.optr gi vi i off)) (ho:lkO o gi=some (vi,⟨fz,var,s,ty,es⟩)) (hz:es[i]? =some z) (hv:(cells z)[off]? =some v) (h:TrO Γ r (nv+1) ⟨(dst,v)::e,o,n⟩ d (acc++[(gK g++(rdK x++[.o gi]),[.e dst],af)]) K t) (hpl:(plain v|| !Ae gi)=true:=by rfl) :
  TrO Γ (⟨some dst,.ld 1 false x,g,af⟩::r) nv ⟨e,o,n⟩ d acc K t :=
 AfG hg hx ho hz (aAF (aA.1 hv).1) (by grind [On]) h hpl
theorem IC (hg:gOn e g=true) (hx:Aa e x=some (.optr gi vi i off)) (ho:lkO o gi=some (vi,⟨fz,var,s,ty,es⟩)) (hz:es[i]? =some z) (hb:aAH (off+m) (cells z).length=true) (hv:EvL (((cells z).drop off).take m) cs) (h:TrO Γ r (nv+1) ⟨(dst,.agg cs)::e,o,n⟩ d (acc++[(gK g++(rdK x++[.o gi]),[.e dst],af)]) K t) :
  TrO Γ (⟨some dst,.ld m true x,g,af⟩::r) nv ⟨e,o,n⟩ d acc K t :=
 AfG hg hx ho hz hb (by cases hv;rfl) h (by rfl)
theorem HU (hg:gOn e g=true) (hx:Aa e x=some (.fptr z off)) (hv:(cells z)[off]? =some v)
  (h:TrO Γ r (nv+1) ⟨(dst,v)::e,o,n⟩ d (acc++[(gK g++rdK x,[.e dst],af)]) K t) :
  TrO Γ (⟨some dst,.ld 1 false x,g,af⟩::r) nv ⟨e,o,n⟩ d acc K t :=
 DZ hg hx (aAF (aA.1 hv).1) (by grind [On]) h
theorem KT (hg:gOn e g=true) (hx:Aa e x=some (.fptr z off)) (hb:aAH (off+m) (cells z).length=true) (hv:EvL (((cells z).drop off).take m) cs)
  (h:TrO Γ r (nv+1) ⟨(dst,.agg cs)::e,o,n⟩ d (acc++[(gK g++rdK x,[.e dst],af)]) K t) :
  TrO Γ (⟨some dst,.ld m true x,g,af⟩::r) nv ⟨e,o,n⟩ d acc K t :=
 DZ hg hx hb (by cases hv;rfl) h
theorem MW (hg:gOn e g=true) (hx:Aa e x=some (.optr gi vi 0 0)) (hy:Aa e y=some v) (hw:strip v=(true,v)) (ho:lkO o gi=some (vi,⟨false,true,s,ty,[z]⟩)) (hk:known v=true) (hl:cells v=[v'])
  (hb:aAH 1 (cells z).length=true) (hz:(match z with| .agg _=>false|_=>true)=true)
  (h:TrO Γ r (nv+1) ⟨e,(gi,some (vi,⟨false,true,s,ty,[v']⟩))::o,n⟩ d (acc++[(gK g++(rdK x++(rdK y++[.o gi])),[.o gi],af)]) K t) (hrg:Ae gi=false:=by rfl) :
  TrO Γ (⟨none,.st 1 x y,g,af⟩::r) nv ⟨e,o,n⟩ d acc K t :=
 Vn hg hx hy hw ho hk (by rw[hl];rfl) hb (by rw[hl];cases z<;>first|rfl|cases hz) h hrg
theorem MX {zs:List D} (hg:gOn e g=true) (hx:Aa e x=some (.optr gi vi 0 off)) (hy:Aa e y=some v) (hw:strip v=(true,v)) (ho:lkO o gi=some (vi,⟨false,true,s,ty,[z]⟩)) (hk:known v=true) (hl:(cells v).length=m)
  (hzz:z= .agg zs) (hb:aAH (off+m) zs.length=true) (hz:EvL (setAt zs off (cells v)) cs)
  (h:TrO Γ r (nv+1) ⟨e,(gi,some (vi,⟨false,true,s,ty,[.agg cs]⟩))::o,n⟩ d (acc++[(gK g++(rdK x++(rdK y++[.o gi])),[.o gi],af)]) K t) (hrg:Ae gi=false:=by rfl) :
  TrO Γ (⟨none,.st m x y,g,af⟩::r) nv ⟨e,o,n⟩ d acc K t:=by
 subst hzz;cases hz;exact Vn hg hx hy hw ho hk hl hb rfl h hrg
theorem MT {zs:List D} (hg:gOn e g=true) (hp:EvP (Ca e parts) ps) (hf:DJ zs.length ps=true) (hz:EvL (DS zs ps) cs) (h:TrO Γ r (nv+1) ⟨(dst,.agg cs)::e,o,n⟩ d (acc++[(gK g++CK parts,[.e dst],af)]) K t) :
  TrO Γ (⟨some dst,.bld zs parts,g,af⟩::r) nv ⟨e,o,n⟩ d acc K t:=LJ hg hp hf hz h
theorem Me (hg:gOn e g=true) (hx:Aa e x=some (.agg cs)) (hv:cs[off]? =some v)
  (h:TrO Γ r (nv+1) ⟨(dst,v)::e,o,n⟩ d (acc++[(gK g++rdK x,[.e dst],af)]) K t) :
  TrO Γ (⟨some dst,.fld off 1 false x,g,af⟩::r) nv ⟨e,o,n⟩ d acc K t :=
 Iv hg hx (aAF (aA.1 hv).1) (by grind [On]) h
theorem Mf (hg:gOn e g=true) (hx:Aa e x=some (.agg cs)) (hb:aAH (off+m) cs.length=true) (hv:EvL ((cs.drop off).take m) cs') (h:TrO Γ r (nv+1) ⟨(dst,.agg cs')::e,o,n⟩ d (acc++[(gK g++rdK x,[.e dst],af)]) K t) :
  TrO Γ (⟨some dst,.fld off m true x,g,af⟩::r) nv ⟨e,o,n⟩ d acc K t :=
 Iv hg hx hb (by cases hv;rfl) h
theorem Jp (_:TyE ty en) (hg:gOn e g=true) (hx:Aa e x=some .nils) (h:TrO Γ r (nv+1) ⟨(dst,.osl dst nv 0 ([]:List α).length)::e,(dst,some (nv,⟨false,false,s,ty,([]:List α).map en⟩))::o,n⟩ d (acc++[(gK g++rdK x,[.e dst,.o dst],af)]) K t) :
  TrO Γ (⟨some dst,.asg x (some (s,ty)),g,af⟩::r) nv ⟨e,o,n⟩ d acc K t:=HL hg en hx h
theorem MV {q:α} (_:TyE ty en) (hz:z=en q) (hg:gOn e g=true) (hx:Aa e x=some (.int k a)) (hy:Aa e y=some (.int k' a)) (hl:0<=a/\a<=16777216) (hby:aAH bytes 65536=true) (h:TrO Γ r (nv+1) ⟨(dst,.osl dst nv 0 (aAG a.toNat q).length)::e,(dst,some (nv,⟨false,false,s,ty,(aAG a.toNat q).map en⟩))::o,n⟩ d (acc++[(gK g++(rdK x++rdK y),[.e dst,.o dst],af)]) K t) :
  TrO Γ (⟨some dst,.mkS s ty bytes z x y,g,af⟩::r) nv ⟨e,o,n⟩ d acc K t:=LQ en hg hx hy hz hl hby h
theorem KN {parts:List (Nat×Arg)} {p:D} {q:α} (_:TyE ty en) (hg:gOn e g=true) (hr:(AQ parts).run ⟨e,o,n⟩=(c,[(i,p)],[])) (hk:(AQ parts).rd ⟨e,o,n⟩=rk) (hc:c) (hq:p=en q) (hp:GU s 1 [(i,p)]=true) (hes:Zm [z] [(i,en q)]=[en q]) (h:TrO Γ r (nv+1) ⟨(dst,.osl dst nv 0 [q].length)::e,(dst,some (nv,⟨false,false,s,ty,[q].map en⟩))::o,n⟩ d (acc++[(gK g++rk,[.e dst,.o dst],af)]) K t) :
  TrO Γ (⟨some dst,.bldS s ty z 1 parts,g,af⟩::r) nv ⟨e,o,n⟩ d acc K t:=by
 grind [Ts]
theorem KQ {p q:Bool} (hg:gOn e g=true) (hx:Aa e x=some (.bool p)) (hy:Aa e y=some (.bool q))
  (h:TrO Γ r (nv+1) ⟨(dst,.bool (!(p==q)))::e,o,n⟩ d (acc++[(gK g++(rdK x++rdK y),[.e dst],af)]) K t) :
  TrO Γ (⟨some dst,.eqB true x y,g,af⟩::r) nv ⟨e,o,n⟩ d acc K t:=Iu hg hx hy h
theorem KP {p q:Bool} (hg:gOn e g=true) (hx:Aa e x=some (.bool p)) (hy:Aa e y=some (.bool q))
  (h:TrO Γ r (nv+1) ⟨(dst,.bool (p==q))::e,o,n⟩ d (acc++[(gK g++(rdK x++rdK y),[.e dst],af)]) K t) :
  TrO Γ (⟨some dst,.eqB false x y,g,af⟩::r) nv ⟨e,o,n⟩ d acc K t:=Iu hg hx hy h
theorem RS {x:Nat} {wt:Bool} {b:Bool} {dt:Option Nat} {t1 t2:Option X} (hx:AL e x=some (.bool b)) (h1:TrO Γ (⟨dt,op,some (x,wt),af⟩::ops) nv ⟨Dj e x (.bool true),o,n⟩ d acc K t1) (h2:TrO Γ (⟨dt,op,some (x,wt),af⟩::ops) nv ⟨Dj e x (.bool false),o,n⟩ d acc K t2) :
  TrO Γ (⟨dt,op,some (x,wt),af⟩::ops) nv ⟨e,o,n⟩ d acc K (bif b then t1 else t2):=JS x hx h1 h2
end
section
variable {Γ:An} {X A B:Type} {K:KR X} {e:List (Nat×D)} {o:List (Nat×Ad)} {n nv:Nat} {d:Bool} {acc:List Ck}
 {r:List As} {dst:Nat} {g:Option (Nat×Bool)} {af:List Nat} {α:Type}
 {ptr:List (Nat×(Nat×Nat))} {kind:Kind} {enc:A->List D} {dec:List D->A} {f:A->Option B} {encR:B->D} {encE:B->List D} {m:Option B} {kt:B->Option X}
 {fa:Arg} {args:List Arg} {caps:List D} {k:Nat} {c:Prop} {ds:List D} {w:List (Nat×Ad)} {ps:List (Nat×Nat×Own)} {rk:List Key} {s ty:Nat}
theorem IB (hg:gOn e g=true) (hf:Aa e fa=some (.clo k caps)) (hΓ:Γ (k+4096*AE (Aj e args))=some (NO ptr .val enc dec f encR encE)) [hde:Od enc dec] (hr:(Af ptr 0 (Aj e args++caps)).run ⟨e,o,n⟩=(c,ds,w,ps))
  (hk:(Af ptr 0 (Aj e args++caps)).rd ⟨e,o,n⟩=rk) (hc:c) (ha:∃ a,f a=m/\ds=enc a)
  (h:∀ b,m=some b->TrO Γ r (nv+1) ⟨(dst,encR b)::e,(Ak ps (encE b)++w)++o,n⟩ d (acc++[(gK g++(rdK fa++(Bc args++rk)),.e dst::(Ak ps (encE b)++w).map (λx=>.o x.1),af)]) K (kt b)) (hkb:aAD k 4096=true:=by rfl) :
  TrO Γ (⟨some dst,.call fa args,g,af⟩::r) nv ⟨e,o,n⟩ d acc K (m.bind kt) :=
 ON λb hb=>ha.elim λa ha=>AgD a hg hf hΓ hde.ok hr hk hc ha.2 (ha.1.trans hb) (h b hb) hkb
theorem HE (hg:gOn e g=true) (hf:Aa e fa=some (.clo k caps)) (hΓ:Γ (k+4096*AE (Aj e args))=some (NO ptr .val enc dec f encR encE)) [hde:Od enc dec] (hr:(Af ptr 0 (Aj e args++caps)).run ⟨e,o,n⟩=(c,ds,w,ps))
  (hk:(Af ptr 0 (Aj e args++caps)).rd ⟨e,o,n⟩=rk) (hc:c) (ha:∃ a,f a=m/\ds=enc a)
  (h:∀ b,m=some b->TrO Γ r (nv+1) ⟨e,(Ak ps (encE b)++w)++o,n⟩ d (acc++[(gK g++(rdK fa++(Bc args++rk)),(Ak ps (encE b)++w).map (λx=>.o x.1),af)]) K (kt b)) (hkb:aAD k 4096=true:=by rfl) :
  TrO Γ (⟨none,.call fa args,g,af⟩::r) nv ⟨e,o,n⟩ d acc K (m.bind kt) :=
 ON λb hb=>ha.elim λa ha=>Eh a hg hf hΓ hde.ok hr hk hc ha.2 (ha.1.trans hb) (h b hb) hkb
theorem Gr (hg:gOn e g=true) (hf:Aa e fa=some (.clo k caps)) (hΓ:Γ (k+4096*AE (Aj e args))=some (NO [] .ground enc dec f encR encE)) [hde:Od enc dec] (hr:(Af [] 0 (Aj e args++caps)).run ⟨e,o,n⟩=(c,ds,w,ps))
  (hk:(Af [] 0 (Aj e args++caps)).rd ⟨e,o,n⟩=rk) (hc:c) (ha:∃ a,f a=m/\ds=enc a) (hgr:∀ b,isGround (encR b)=true)
  (h:∀ b,m=some b->TrO Γ r (nv+1) ⟨(dst,encR b)::e,o,n⟩ d (acc++[(gK g++(rdK fa++(Bc args++rk)),[.e dst],af)]) K (kt b)) (hkb:aAD k 4096=true:=by rfl) :
  TrO Γ (⟨some dst,.call fa args,g,af⟩::r) nv ⟨e,o,n⟩ d acc K (m.bind kt) :=
 ON λb hb=>ha.elim λa ha=>Sj a hg hf hΓ hde.ok hr hk hc ha.2 (ha.1.trans hb) (hgr b) (h b hb) hkb
theorem IA {lf:B->List α} {en:α->D} (hg:gOn e g=true) (hf:Aa e fa=some (.clo k caps)) (hΓ:Γ (k+4096*AE (Aj e args))=some (NO ptr (.row s ty) enc dec f encR encE)) [hde:Od enc dec] (hr:(Af ptr 0 (Aj e args++caps)).run ⟨e,o,n⟩=(c,ds,w,ps))
  (hk:(Af ptr 0 (Aj e args++caps)).rd ⟨e,o,n⟩=rk) (hc:c) (ha:∃ a,f a=m/\ds=enc a) (hl:∀ b,encR b= .sl ((lf b).map en))
  (h:∀ b,m=some b->TrO Γ r (nv+1) ⟨(dst,.osl dst nv 0 (lf b).length)::e,((dst,some (nv,⟨false,false,s,ty,(lf b).map en⟩))::(Ak ps (encE b)++w))++o,n⟩ d (acc++[(gK g++(rdK fa++(Bc args++rk)),.e dst:: .o dst::(Ak ps (encE b)++w).map (λx=>.o x.1),af)]) K (kt b)) (hkb:aAD k 4096=true:=by rfl) :
  TrO Γ (⟨some dst,.call fa args,g,af⟩::r) nv ⟨e,o,n⟩ d acc K (m.bind kt) :=
 ON λb hb=>ha.elim λa ha=>EA a hg hf hΓ hde.ok hr hk hc ha.2 (ha.1.trans hb) (hl b) (h b hb) hkb
theorem Iz (hg:gOn e g=true) (hf:Aa e fa=some (.clo k caps)) (hΓ:Γ (k+4096*AE (Aj e args))=some (NO ptr (.ptr s ty) enc dec f encR encE)) [hde:Od enc dec] (hr:(Af ptr 0 (Aj e args++caps)).run ⟨e,o,n⟩=(c,ds,w,ps))
  (hk:(Af ptr 0 (Aj e args++caps)).rd ⟨e,o,n⟩=rk) (hc:c) (ha:∃ a,f a=m/\ds=enc a)
  (h:∀ b,m=some b->TrO Γ r (nv+1) ⟨(dst,.optr dst nv 0 0)::e,((dst,some (nv,⟨false,true,s,ty,[encR b]⟩))::(Ak ps (encE b)++w))++o,n⟩ d (acc++[(gK g++(rdK fa++(Bc args++rk)),.e dst:: .o dst::(Ak ps (encE b)++w).map (λx=>.o x.1),af)]) K (kt b)) (hkb:aAD k 4096=true:=by rfl) :
  TrO Γ (⟨some dst,.call fa args,g,af⟩::r) nv ⟨e,o,n⟩ d acc K (m.bind kt) :=
 ON λb hb=>ha.elim λa ha=>AgC a hg hf hΓ hde.ok hr hk hc ha.2 (ha.1.trans hb) (h b hb) hkb
variable {b:B} {t:Option X}
theorem IF (hg:gOn e g=true) (hf:Aa e fa=some (.clo k caps)) (hΓ:Γ (k+4096*AE (Aj e args))=some (NO ptr .val enc dec f encR encE)) [hde:Od enc dec] (hr:(Af ptr 0 (Aj e args++caps)).run ⟨e,o,n⟩=(c,ds,w,ps))
  (hk:(Af ptr 0 (Aj e args++caps)).rd ⟨e,o,n⟩=rk) (hm:m=some b) (hc:c) (ha:∃ a,f a=m/\ds=enc a)
  (h:TrO Γ r (nv+1) ⟨(dst,encR b)::e,(Ak ps (encE b)++w)++o,n⟩ d (acc++[(gK g++(rdK fa++(Bc args++rk)),.e dst::(Ak ps (encE b)++w).map (λx=>.o x.1),af)]) K t) (hkb:aAD k 4096=true:=by rfl) :
  TrO Γ (⟨some dst,.call fa args,g,af⟩::r) nv ⟨e,o,n⟩ d acc K t :=
 ha.elim λa ha=>AgD a hg hf hΓ hde.ok hr hk hc ha.2 (ha.1.trans hm) h hkb
theorem HF (hg:gOn e g=true) (hf:Aa e fa=some (.clo k caps)) (hΓ:Γ (k+4096*AE (Aj e args))=some (NO ptr .val enc dec f encR encE)) [hde:Od enc dec] (hr:(Af ptr 0 (Aj e args++caps)).run ⟨e,o,n⟩=(c,ds,w,ps))
  (hk:(Af ptr 0 (Aj e args++caps)).rd ⟨e,o,n⟩=rk) (hm:m=some b) (hc:c) (ha:∃ a,f a=m/\ds=enc a)
  (h:TrO Γ r (nv+1) ⟨e,(Ak ps (encE b)++w)++o,n⟩ d (acc++[(gK g++(rdK fa++(Bc args++rk)),(Ak ps (encE b)++w).map (λx=>.o x.1),af)]) K t) (hkb:aAD k 4096=true:=by rfl) :
  TrO Γ (⟨none,.call fa args,g,af⟩::r) nv ⟨e,o,n⟩ d acc K t :=
 ha.elim λa ha=>Eh a hg hf hΓ hde.ok hr hk hc ha.2 (ha.1.trans hm) h hkb
theorem Gs (hg:gOn e g=true) (hf:Aa e fa=some (.clo k caps)) (hΓ:Γ (k+4096*AE (Aj e args))=some (NO [] .ground enc dec f encR encE)) [hde:Od enc dec] (hr:(Af [] 0 (Aj e args++caps)).run ⟨e,o,n⟩=(c,ds,w,ps))
  (hk:(Af [] 0 (Aj e args++caps)).rd ⟨e,o,n⟩=rk) (hm:m=some b) (hc:c) (ha:∃ a,f a=m/\ds=enc a) (hgr:isGround (encR b)=true)
  (h:TrO Γ r (nv+1) ⟨(dst,encR b)::e,o,n⟩ d (acc++[(gK g++(rdK fa++(Bc args++rk)),[.e dst],af)]) K t) (hkb:aAD k 4096=true:=by rfl) :
  TrO Γ (⟨some dst,.call fa args,g,af⟩::r) nv ⟨e,o,n⟩ d acc K t :=
 ha.elim λa ha=>Sj a hg hf hΓ hde.ok hr hk hc ha.2 (ha.1.trans hm) hgr h hkb
theorem IE {l:List α} {en:α->D} (hg:gOn e g=true) (hf:Aa e fa=some (.clo k caps)) (hΓ:Γ (k+4096*AE (Aj e args))=some (NO ptr (.row s ty) enc dec f encR encE)) [hde:Od enc dec] (hr:(Af ptr 0 (Aj e args++caps)).run ⟨e,o,n⟩=(c,ds,w,ps))
  (hk:(Af ptr 0 (Aj e args++caps)).rd ⟨e,o,n⟩=rk) (hm:m=some b) (hc:c) (ha:∃ a,f a=m/\ds=enc a) (hl:encR b= .sl (l.map en))
  (h:TrO Γ r (nv+1) ⟨(dst,.osl dst nv 0 l.length)::e,((dst,some (nv,⟨false,false,s,ty,l.map en⟩))::(Ak ps (encE b)++w))++o,n⟩ d (acc++[(gK g++(rdK fa++(Bc args++rk)),.e dst:: .o dst::(Ak ps (encE b)++w).map (λx=>.o x.1),af)]) K t) (hkb:aAD k 4096=true:=by rfl) :
  TrO Γ (⟨some dst,.call fa args,g,af⟩::r) nv ⟨e,o,n⟩ d acc K t :=
 ha.elim λa ha=>EA a hg hf hΓ hde.ok hr hk hc ha.2 (ha.1.trans hm) hl h hkb
theorem ID (hg:gOn e g=true) (hf:Aa e fa=some (.clo k caps)) (hΓ:Γ (k+4096*AE (Aj e args))=some (NO ptr (.ptr s ty) enc dec f encR encE)) [hde:Od enc dec] (hr:(Af ptr 0 (Aj e args++caps)).run ⟨e,o,n⟩=(c,ds,w,ps))
  (hk:(Af ptr 0 (Aj e args++caps)).rd ⟨e,o,n⟩=rk) (hm:m=some b) (hc:c) (ha:∃ a,f a=m/\ds=enc a)
  (h:TrO Γ r (nv+1) ⟨(dst,.optr dst nv 0 0)::e,((dst,some (nv,⟨false,true,s,ty,[encR b]⟩))::(Ak ps (encE b)++w))++o,n⟩ d (acc++[(gK g++(rdK fa++(Bc args++rk)),.e dst:: .o dst::(Ak ps (encE b)++w).map (λx=>.o x.1),af)]) K t) (hkb:aAD k 4096=true:=by rfl) :
  TrO Γ (⟨some dst,.call fa args,g,af⟩::r) nv ⟨e,o,n⟩ d acc K t :=
 ha.elim λa ha=>AgC a hg hf hΓ hde.ok hr hk hc ha.2 (ha.1.trans hm) h hkb
end
def FP (o:List (Nat×Ad)):List Nat->List (Nat×Ad)
 | []=>[]
 | g::r=>(g,(lkO o g).map λx=>(x.1,{ x.2 with fz:=true }))::FP o r
theorem Jz {o:List (Nat×Ad)}:∀ {gs:List Nat},(gs.all λg=>match lkO o g with|some (_,p)=>!p.var|none=>false)=true->FzB o (FP o gs)
 | [],_=>trivial
 | g::r,h=>by
  simp only[List.all_cons,Bool.and_eq_true]at h;refine⟨?_,Jz h.2⟩
  grind
theorem Md {o:List (Nat×Ad)} {n:Nat} (gs:List Nat) (hw:(gs.all λg=>match lkO o g with|some (_,p)=>!p.var|none=>false)=true) (hE:GD e o n (FP o gs) E) (hO:GF e o n (FP o gs) O):Has ⟨e,o,n⟩ E O:=Xr _ (Jz hw) hE hO
section
variable {Γ:An} {R ι γ:Type} {K:R->Ar->S->Prop} {τ:S} {t:Option R} {E:ι->γ->List (Nat×D)} {O:ι->γ->List (Nat×Ad)} {j:ι->Option R}
theorem MU (h:∃ s g,j s=t/\Has τ (E s g) (O s g)):TrX .normal (Hc E O j K) τ t:=by
 obtain⟨s,g,rfl,h⟩:=h;exact QZ g h
theorem Gq (h:∃ s g,j s=t/\Has τ (E s g) (O s g)):TrX .normal (CQ id E O j K) τ t:=by
 obtain⟨s,g,rfl,h⟩:=h;exact Aho g h
theorem HD (h:∃ s g,j s=t/\Has τ (E s g) (O s g)):TrX (.exit id) (CQ id E O j K) τ t:=by
 obtain⟨s,g,rfl,h⟩:=h;exact GA g h
theorem Mg {s:ι} (h:∃ g,Has τ (E s g) (O s g)):TrX .normal (Fw E O K) τ (cnt s):=by
 obtain⟨g,h⟩:=h;exact Pn g h
theorem exU {p:Unit->Prop} (h:p ()):∃ s,p s:=⟨_,h⟩
theorem exP {β:Type} {p:α×β->Prop} (h:∃ a b,p (a,b)):∃ s,p s:=h.elim λa h=>h.elim λb h=>⟨(a,b),h⟩
end
section
variable {A B:Type} {ptr:List (Nat×(Nat×Nat))} {kind:Kind} {enc:A->List D} {dec:List D->A} {f:A->Option B} {encR:B->D} {encE:B->List D}
theorem fn2 {P:Program} [hde:Od enc dec] (np:Nat) (hΓ:∀ k sp,Γ k=some sp->NK P (k % 4096) sp) (hf:P.funcs[k]? =some fn) (hT:∀ a,Tr Γ dc (AW ptr kind rs encR encE) ⟨Cy ptr 0 (enc a),Cj ptr 0 (enc a),262144⟩ (f a)) (hc:(fn.body.bind (Pv P fn.ntmps))=some dc:=by conv=>lhs;cbv) (hr:fn.results.toList.mapM (UZ P)=some rs:=by conv=>lhs;cbv) (hname:(fn.name == "runtime.NumGoroutine")=false:=by decide) (hnp:np<=fn.ntmps:=by decide) (hlen:∀ a,(enc a).length=np:=by exact λ_=>rfl) (hkeys:∀ a,Bd ptr 0 (enc a)=ptr.map Prod.fst:=by exact λ_=>rfl) (hptr:Ds ptr=true:=by decide) (hni:Br kind=none:=by rfl) (hno:Cz kind=none:=by rfl):NK P k (NO ptr kind enc dec f encR encE) :=
 MY hΓ hf hname hc hr hnp hde.ok hlen hkeys hptr (λa=>ML (hT a)) hni hno
end
structure Ct (n:Nat):Prop
theorem Ct.dec {n:Nat} (_:Ct (n+1)):Ct n:=⟨⟩
structure Fz' (gs:List Nat):Prop
theorem wf (gs:List Nat) (h:Fz' gs->p):p:=h ⟨⟩
theorem KO {o:List (Nat×Ad)} {n:Nat} {gs:List Nat} (_:Fz' gs) (hw:(gs.all λg=>match lkO o g with|some (_,p)=>!p.var|none=>false)=true) (hE:GD e o n (FP o gs) E) (hO:GF e o n (FP o gs) O):Has ⟨e,o,n⟩ E O:=Md gs hw hE hO
section
variable {Γ:An} {X Y:Type} {K:KR X} {KK:X->Ar->S->Prop} {t t1 t2:Option X} {m0:Option Y} {kt:Y->Option X} {pp:Prop} [Decidable pp] {bb wt:Bool} {σ:S} {nv tt m m2 m3:Nat} {d:Bool} {acc:List Ck}
 {r:List As} {dst:Option Nat} {g:Option (Nat×Bool)} {af:List Nat} {op:DOp} {x y z:Arg} {xs:List Arg} {bo:BinOp} {uo:UnOp} {k:IntKind} {sl:Option (Nat×Nat)} {dd:D} {ds:List D} {ps:List (Nat×Arg)} {ps2:List (Nat×Nat×Arg)} {lo hi:Option Arg} {c1 c2:Pc} {ex:Ar} {ptr:List (Nat×(Nat×Nat))} {encR:Y->D} {encE:Y->List D} {r0:Az} {rs:List Az} {tB:Option Y} {ι γ:Type} {E:ι->γ->List (Nat×D)} {O:ι->γ->List (Nat×Ad)} {j:ι->Option X}
theorem KH (h:TrO Γ (⟨dst,op,some (tt,wt),af⟩::r) nv σ d acc K t):TrO Γ (⟨dst,op,some (tt,wt),af⟩::r) nv σ d acc K t:=h
theorem DT (h:TrO Γ r nv σ d acc K (Option.bind m0 kt)):TrO Γ r nv σ d acc K (Option.bind m0 kt):=h
theorem Dq (h:TrO Γ r nv σ d acc K (chk pp t)):TrO Γ r nv σ d acc K (chk pp t):=h
theorem Nf (h:TrO Γ r nv σ d acc K (bif bb then t1 else t2)):TrO Γ r nv σ d acc K (bif bb then t1 else t2):=h
theorem Mo (h:Tr Γ (.cond x c1 c2) KK σ t):Tr Γ (.cond x c1 c2) KK σ t:=h
theorem My (h:TrX ex (AW ptr .val [r0] encR encE) σ tB):TrX ex (AW ptr .val [r0] encR encE) σ tB:=h
theorem JA (h:TrX ex (AW ptr .ground [r0] encR encE) σ tB):TrX ex (AW ptr .ground [r0] encR encE) σ tB:=h
theorem Ll (h:TrX ex (AW ptr .val rs encR encE) σ tB):TrX ex (AW ptr .val rs encR encE) σ tB:=h
theorem IP (h:TrX ex (AW ptr .ground rs encR encE) σ tB):TrX ex (AW ptr .ground rs encR encE) σ tB:=h
theorem Mw (h:TrX ex (AW ptr (.row m m2) rs encR encE) σ tB):TrX ex (AW ptr (.row m m2) rs encR encE) σ tB:=h
theorem Mv (h:TrX ex (AW ptr (.ptr m m2) rs encR encE) σ tB):TrX ex (AW ptr (.ptr m m2) rs encR encE) σ tB:=h
theorem Mx (h:TrX ex (AW ptr (.tupPtr m m2 m3) rs encR encE) σ tB):TrX ex (AW ptr (.tupPtr m m2 m3) rs encR encE) σ tB:=h
theorem NB (h:TrX (.exit m) (EZ m2 KK) σ t):TrX (.exit m) (EZ m2 KK) σ t:=h
theorem NC (h:TrX (.exit m) (CQ m2 E O j KK) σ t):TrX (.exit m) (CQ m2 E O j KK) σ t:=h
theorem Mt (h:TrO Γ [] nv σ true acc K t):TrO Γ [] nv σ true acc K t:=h
theorem Nz (h:TrO Γ (⟨dst,.mv x,g,af⟩::r) nv σ d acc K t):TrO Γ (⟨dst,.mv x,g,af⟩::r) nv σ d acc K t:=h
theorem Mq (h:TrO Γ (⟨dst,.fldA m x,g,af⟩::r) nv σ d acc K t):TrO Γ (⟨dst,.fldA m x,g,af⟩::r) nv σ d acc K t:=h
theorem KJ (h:TrO Γ (⟨dst,.ld m false x,g,af⟩::r) nv σ d acc K t):TrO Γ (⟨dst,.ld m false x,g,af⟩::r) nv σ d acc K t:=h
theorem KM (h:TrO Γ (⟨dst,.ld m true x,g,af⟩::r) nv σ d acc K t):TrO Γ (⟨dst,.ld m true x,g,af⟩::r) nv σ d acc K t:=h
theorem Nb (h:TrO Γ (⟨dst,.bin bo x y,g,af⟩::r) nv σ d acc K t):TrO Γ (⟨dst,.bin bo x y,g,af⟩::r) nv σ d acc K t:=h
theorem Na (h:TrO Γ (⟨dst,.asg x sl,g,af⟩::r) nv σ d acc K t):TrO Γ (⟨dst,.asg x sl,g,af⟩::r) nv σ d acc K t:=h
theorem Mu (h:TrO Γ (⟨dst,.pick x y z,g,af⟩::r) nv σ d acc K t):TrO Γ (⟨dst,.pick x y z,g,af⟩::r) nv σ d acc K t:=h
theorem GY (h:TrO Γ (⟨dst,.call x xs,g,af⟩::r) nv σ d acc K t):TrO Γ (⟨dst,.call x xs,g,af⟩::r) nv σ d acc K t:=h
theorem Nj (h:TrO Γ (⟨dst,.ext x m,g,af⟩::r) nv σ d acc K t):TrO Γ (⟨dst,.ext x m,g,af⟩::r) nv σ d acc K t:=h
theorem Nl (h:TrO Γ (⟨dst,.len bb x,g,af⟩::r) nv σ d acc K t):TrO Γ (⟨dst,.len bb x,g,af⟩::r) nv σ d acc K t:=h
theorem KI (h:TrO Γ (⟨dst,.ixA m x y,g,af⟩::r) nv σ d acc K t):TrO Γ (⟨dst,.ixA m x y,g,af⟩::r) nv σ d acc K t:=h
theorem NA (h:TrO Γ (⟨dst,.un uo x,g,af⟩::r) nv σ d acc K t):TrO Γ (⟨dst,.un uo x,g,af⟩::r) nv σ d acc K t:=h
theorem Nd (h:TrO Γ (⟨dst,.box x m m2,g,af⟩::r) nv σ d acc K t):TrO Γ (⟨dst,.box x m m2,g,af⟩::r) nv σ d acc K t:=h
theorem Nq (h:TrO Γ (⟨dst,.new dd m m2,g,af⟩::r) nv σ d acc K t):TrO Γ (⟨dst,.new dd m m2,g,af⟩::r) nv σ d acc K t:=h
theorem Mz (h:TrO Γ (⟨dst,.st m x y,g,af⟩::r) nv σ d acc K t):TrO Γ (⟨dst,.st m x y,g,af⟩::r) nv σ d acc K t:=h
theorem Mn (h:TrO Γ (⟨dst,.bldS m m2 dd m3 ps,g,af⟩::r) nv σ d acc K t):TrO Γ (⟨dst,.bldS m m2 dd m3 ps,g,af⟩::r) nv σ d acc K t:=h
theorem MZ (h:TrO Γ (⟨dst,.app m m2 m3 x y,g,af⟩::r) nv σ d acc K t):TrO Γ (⟨dst,.app m m2 m3 x y,g,af⟩::r) nv σ d acc K t:=h
theorem Nc (h:TrO Γ (⟨dst,.bld ds ps2,g,af⟩::r) nv σ d acc K t):TrO Γ (⟨dst,.bld ds ps2,g,af⟩::r) nv σ d acc K t:=h
theorem Ng (h:TrO Γ (⟨dst,.cvt k x,g,af⟩::r) nv σ d acc K t):TrO Γ (⟨dst,.cvt k x,g,af⟩::r) nv σ d acc K t:=h
theorem Np (h:TrO Γ (⟨dst,.mkS m m2 m3 dd x y,g,af⟩::r) nv σ d acc K t):TrO Γ (⟨dst,.mkS m m2 m3 dd x y,g,af⟩::r) nv σ d acc K t:=h
theorem Lk (h:TrO Γ (⟨dst,.nilck x,g,af⟩::r) nv σ d acc K t):TrO Γ (⟨dst,.nilck x,g,af⟩::r) nv σ d acc K t:=h
theorem Mp (h:TrO Γ (⟨dst,.fld m m2 false x,g,af⟩::r) nv σ d acc K t):TrO Γ (⟨dst,.fld m m2 false x,g,af⟩::r) nv σ d acc K t:=h
theorem Mr (h:TrO Γ (⟨dst,.fld m m2 true x,g,af⟩::r) nv σ d acc K t):TrO Γ (⟨dst,.fld m m2 true x,g,af⟩::r) nv σ d acc K t:=h
theorem Ni (h:TrO Γ (⟨dst,.eqB bb x y,g,af⟩::r) nv σ d acc K t):TrO Γ (⟨dst,.eqB bb x y,g,af⟩::r) nv σ d acc K t:=h
theorem Nh (h:TrO Γ (⟨dst,.eqA m bb x y,g,af⟩::r) nv σ d acc K t):TrO Γ (⟨dst,.eqA m bb x y,g,af⟩::r) nv σ d acc K t:=h
theorem Nm (h:TrO Γ (⟨dst,.max xs,g,af⟩::r) nv σ d acc K t):TrO Γ (⟨dst,.max xs,g,af⟩::r) nv σ d acc K t:=h
theorem Nn (h:TrO Γ (⟨dst,.min xs,g,af⟩::r) nv σ d acc K t):TrO Γ (⟨dst,.min xs,g,af⟩::r) nv σ d acc K t:=h
theorem Nr (h:TrO Γ (⟨dst,.slc m x lo hi,g,af⟩::r) nv σ d acc K t):TrO Γ (⟨dst,.slc m x lo hi,g,af⟩::r) nv σ d acc K t:=h
end
structure Hid (p:Prop):Prop where
 h:p
theorem DU {n:Nat} (_:Ct n) (_:aAH n 500=true) (h:p):p:=h
theorem A' {n:Nat} (c:Ct n) {q:Prop} (hq:q) (f:Ct n->Hid q->p:=by
 intro c h
 repeat1' (
  replace c:=Ct.dec c
  first
  | ((with_reducible refine KH ?_);refine LU rfl ?_)
  | ((with_reducible refine Nz ?_);refine MJ rfl rfl ?_)
  | with_reducible refine LS ?_
  | ((with_reducible refine Mq ?_);first|refine Kz rfl rfl ?_|refine Jh rfl rfl ?_)
  | ((with_reducible refine KJ ?_);first|((with_reducible refine DT ?_);refine DU c ?_ ?_;(· rfl);refine EC rfl rfl rfl (Dc (by assumption)) rfl ?_)|refine EC rfl rfl rfl rfl rfl ?_|refine HU rfl rfl rfl ?_|(refine DU c ?_ ?_;(· rfl);refine EC rfl rfl rfl (Dc (by assumption)) rfl ?_))
  | ((with_reducible refine Nb ?_);first|((with_reducible refine Dq ?_);first|refine Qa λhq=>It rfl rfl rfl rfl (by first|exact hq|exact⟨rfl,hq⟩) ?_|refine Qa λhq=>EU rfl rfl rfl rfl hq ?_)|refine It rfl rfl rfl rfl (by first|exact rfl|exact trivial|assumption|decide|exact⟨rfl,by assumption⟩|exact⟨rfl,by decide⟩) ?_|refine EU rfl rfl rfl rfl trivial ?_)
  | with_reducible refine MO ?_
  | with_reducible refine MM ?_
  | with_reducible refine LV ?_
  | ((with_reducible refine Na ?_);first|refine LI rfl rfl ?_|((with_reducible refine Dq ?_);refine Qa λhq=>HK rfl rfl rfl hq ?_)|refine Jp inferInstance rfl rfl ?_|refine Jg rfl rfl ?_|refine HM (by first|rfl|simp) rfl rfl rfl ?_|refine Jf (by first|rfl|simp) rfl rfl rfl ?_|refine Hp rfl rfl rfl ?_)
  | with_reducible refine FY ?_
  | with_reducible refine HS ?_
  | with_reducible refine Hy ?_
  | with_reducible refine KB ?_
  | with_reducible refine LX ?_
  | with_reducible refine MN ?_
  | with_reducible refine LW ?_
  | with_reducible refine HQ ?_
  | with_reducible refine HR ?_
  | with_reducible refine Hw ?_
  | with_reducible refine Ht ?_
  | with_reducible refine Hx ?_
  | with_reducible refine GB ?_
  | with_reducible refine Hv ?_
  | ((with_reducible refine NB ?_);refine Hu rfl ?_)
  | ((with_reducible refine NC ?_);refine Gz rfl ?_)
  | ((with_reducible refine Mo ?_);first|refine Hz rfl ?_|refine GC rfl ?_)
  | ((with_reducible refine Mu ?_);first|refine Gw rfl rfl rfl rfl ?_|refine FX rfl rfl rfl rfl ?_)
  | ((with_reducible refine GY ?_);refine DU c ?_ ?_;(· rfl);(first|refine Gs rfl rfl rfl rfl rfl (by assumption) ?_ ?_ rfl ?_|refine IF rfl rfl rfl rfl rfl (by assumption) ?_ ?_ ?_|refine IE rfl rfl rfl rfl rfl (by assumption) ?_ ?_ rfl ?_|refine HF rfl rfl rfl rfl rfl (by assumption) ?_ ?_ ?_|refine ID rfl rfl rfl rfl rfl (by assumption) ?_ ?_ ?_);(· simp);(· (repeat' first|exact⟨rfl,(by first|rfl|(simp only[NN];rfl)|(simp only[NQ];rfl)|(simp only[NN,NQ];rfl))⟩|refine exP ?_|refine exU ?_|apply Exists.intro|(dsimp only;exact⟨rfl,(by first|rfl|(simp only[NN];rfl)|(simp only[NQ];rfl)|(simp only[NN,NQ];rfl))⟩))))
  | ((with_reducible refine GY ?_);((with_reducible refine Dq ?_);first|refine Qa λhq=>Ji rfl rfl rfl rfl rfl (by first|rfl|simp) rfl hq rfl ?_|refine Qa λhq=>KA rfl rfl rfl rfl rfl (by first|rfl|simp) rfl hq rfl ?_|refine Qa λhq=>Hq rfl rfl rfl rfl rfl (by first|rfl|simp) rfl hq (by exact FL _) rfl ?_))
  | ((with_reducible refine Nj ?_);refine LN rfl rfl rfl ?_)
  | ((with_reducible refine Nl ?_);first|refine Jj rfl rfl ?_|refine HO rfl rfl ?_|refine HN rfl rfl ?_|refine HP rfl rfl ?_)
  | ((with_reducible refine KI ?_);first|((with_reducible refine DT ?_);refine DU c ?_ ?_;(· rfl);refine Da rfl rfl rfl (by assumption) rfl ?_)|((with_reducible refine Dq ?_);refine Qa λhq=>Aeq (by first|rfl|simp) rfl rfl rfl rfl hq ?_)|(refine DU c ?_ ?_;(· rfl);refine Da rfl rfl rfl (by assumption) rfl ?_))
  | ((with_reducible refine NA ?_);refine MK rfl rfl rfl rfl trivial ?_)
  | ((with_reducible refine Nd ?_);refine LK rfl rfl rfl rfl rfl ?_)
  | ((with_reducible refine Nq ?_);refine LR rfl ?_)
  | ((with_reducible refine Mz ?_);first|refine MW rfl rfl rfl rfl rfl rfl rfl rfl rfl ?_|refine MX rfl rfl rfl rfl rfl rfl rfl rfl rfl (by repeat' first|exact EvL.nil rfl|apply EvL.cons rfl) ?_|(refine DU c ?_ ?_;(· rfl);refine YU rfl rfl rfl rfl rfl rfl rfl (by simp) (by assumption) rfl rfl rfl rfl rfl ?_))
  | ((with_reducible refine KM ?_);first|refine IC rfl rfl rfl rfl rfl (by repeat' first|exact EvL.nil rfl|apply EvL.cons rfl) ?_|refine KT rfl rfl rfl (by repeat' first|exact EvL.nil rfl|apply EvL.cons rfl) ?_|(refine DU c ?_ ?_;(· rfl);refine IC rfl rfl rfl (Dc (by assumption)) rfl (by repeat' first|exact EvL.nil rfl|apply EvL.cons rfl) ?_))
  | ((with_reducible refine Mn ?_);refine KN inferInstance rfl rfl rfl (by simp) rfl rfl rfl ?_)
  | ((with_reducible refine MZ ?_);((with_reducible refine Dq ?_);refine Qa λhq=>Alu _ _ _ rfl rfl rfl rfl rfl rfl rfl (by first|(simp;done)|(simp;omega)) (by first|rfl|exact Zt _ _ rfl|exact Zt _ _ (by simp)|exact Alk _ _ _|simp[List.map_take]) rfl rfl (by simp) (by first|rfl|exact Ws _ _ rfl|exact Ws _ _ (by simp)) (λ_=>rfl) rfl hq ?_))
  | ((with_reducible refine Nc ?_);refine MT rfl (by repeat' first|apply EvP.cons rfl|exact EvP.nil rfl) rfl (by repeat' first|exact EvL.nil rfl|apply EvL.cons rfl) ?_)
  | ((with_reducible refine Ng ?_);refine LL rfl rfl ?_)
  | ((with_reducible refine Np ?_);((with_reducible refine Dq ?_);refine Qa λhq=>MV inferInstance rfl rfl rfl rfl hq rfl ?_))
  | ((with_reducible refine Lk ?_);refine JR rfl rfl rfl ?_)
  | ((with_reducible refine Mp ?_);refine Me rfl rfl rfl ?_)
  | ((with_reducible refine Mr ?_);refine Mf rfl rfl rfl (by repeat' first|exact EvL.nil rfl|apply EvL.cons rfl) ?_)
  | ((with_reducible refine Ni ?_);first|refine KP rfl rfl rfl ?_|refine KQ rfl rfl rfl ?_)
  | ((with_reducible refine Nh ?_);refine LM rfl rfl rfl rfl (by repeat' first|exact trivial|refine⟨rfl,?_⟩) rfl ?_)
  | ((with_reducible refine Nm ?_);refine LO rfl rfl rfl ?_)
  | ((with_reducible refine Nn ?_);refine LP rfl rfl rfl ?_)
  | ((with_reducible refine Nr ?_);((with_reducible refine Dq ?_);first|refine Qa λhq=>Gx rfl rfl rfl (λ_=>rfl) rfl hq ?_|refine Qa λhq=>Gy rfl rfl rfl (λ_=>rfl) rfl hq ?_|refine Qa λhq=>AiP (by first|rfl|simp) rfl rfl rfl rfl rfl hq ?_|refine Qa λhq=>AiQ (by first|rfl|simp) rfl rfl rfl rfl rfl hq ?_|refine Qa λhq=>Jk rfl rfl rfl rfl (λ_=>rfl) rfl hq ?_))
  | ((with_reducible refine Mt ?_);refine Hr (by kernel_rfl) ?_)
  )
 exact h.h):p:=f c ⟨hq⟩
theorem A (n:Nat) {q:Prop} (hq:q) (f:Ct n->Hid q->p:=by intro c h;exact A' c h.h):p:=f ⟨⟩ ⟨hq⟩
theorem Ab (n:Nat) {q:Prop} (hq:q) (f:Ct n->Hid q->p:=by intro c h;refine A' c ?_;exact ON h.h):p:=f ⟨⟩ ⟨hq⟩
theorem Ac (n:Nat) {q q2:Prop} (hq:q) (hq2:q2) (f:Ct n->Hid q->Hid q2->p:=by intro c h h2;refine A' c ?_;exact PL rfl h.h h2.h):p:=f ⟨⟩ ⟨hq⟩ ⟨hq2⟩
theorem hX {o:List (Nat×Ad)} {n:Nat} (hE:EV e E:=by repeat first|exact trivial|refine And.intro rfl ?_) (hO:EW o O:=by repeat first|exact trivial|refine And.intro rfl ?_):Has ⟨e,o,n⟩ E O:=AeG hE hO
theorem Nk (h:Has σ E O):Has σ E O:=h
theorem Ny {a b:α} (h1:a=b) (h2:Has σ E O):a=b/\Has σ E O:=⟨h1,h2⟩
theorem B (h:p:=by
 repeat' first
 | ((with_reducible refine KH ?_);(with_reducible refine Nf ?_);refine RS rfl ?_ ?_)
 | ((with_reducible refine KJ ?_);first|((with_reducible refine DT ?_);refine ON λq hq=>EC rfl rfl rfl (Dc hq) rfl ?_)|refine EC rfl rfl rfl rfl rfl ?_|refine HU rfl rfl rfl ?_|refine EC rfl rfl rfl (Dc (by assumption)) rfl ?_)
 | ((with_reducible refine Mo ?_);refine PL rfl ?_ ?_)
 | ((with_reducible refine KI ?_);first|((with_reducible refine DT ?_);refine ON λq hq=>Da rfl rfl rfl hq rfl ?_)|((with_reducible refine Dq ?_);refine Qa λhq=>Aeq (by first|rfl|simp) rfl rfl rfl rfl hq ?_)|refine Da rfl rfl rfl (by assumption) rfl ?_)
 | ((with_reducible refine GY ?_);(with_reducible refine DT ?_);(first|refine Gr rfl rfl rfl rfl rfl ?_ ?_ (λ_=>rfl) λ_ _=>?_|refine IB rfl rfl rfl rfl rfl ?_ ?_ λ_ _=>?_|refine IA rfl rfl rfl rfl rfl ?_ ?_ (λ_=>rfl) λ_ _=>?_|refine HE rfl rfl rfl rfl rfl ?_ ?_ λ_ _=>?_|refine Iz rfl rfl rfl rfl rfl ?_ ?_ λ_ _=>?_);(· simp);(· (repeat' first|exact⟨rfl,(by first|rfl|(simp only[NN];rfl)|(simp only[NQ];rfl)|(simp only[NN,NQ];rfl))⟩|refine exP ?_|refine exU ?_|apply Exists.intro|(dsimp only;exact⟨rfl,(by first|rfl|(simp only[NN];rfl)|(simp only[NQ];rfl)|(simp only[NN,NQ];rfl))⟩))))
 | ((with_reducible refine Mz ?_);(with_reducible refine DT ?_);refine ON λq hq=>YU rfl rfl rfl rfl rfl rfl rfl (by simp) hq rfl rfl rfl rfl rfl ?_)
 | ((with_reducible refine KM ?_);(with_reducible refine DT ?_);refine ON λq hq=>IC rfl rfl rfl (Dc hq) rfl (by repeat' first|exact EvL.nil rfl|apply EvL.cons rfl) ?_)
 | with_reducible refine MU ?_
 | with_reducible refine Gq ?_
 | with_reducible refine HD ?_
 | with_reducible refine Mg ?_
 | ((with_reducible refine Nk ?_);first|refine KO (by assumption) rfl ?_ ?_|refine AeG ?_ ?_)
 | ((with_reducible refine Ny ?_ ?_);(· exact rfl))
 | with_reducible refine exP ?_
 | with_reducible refine exU ?_
 | with_reducible apply Exists.intro
 | refine A 999 ?_
 | refine A 1 ?_
 | ((with_reducible refine My ?_);exact Aaz rfl (by first|(simp;done)|(simp;omega)|rfl|(simp[Pd,OU];done)) (by first|rfl|(simp only[NN];rfl)|(simp only[NQ];rfl)|(simp only[NN,NQ];rfl)) rfl (by first|(simp;done)|(simp;omega)|rfl|(simp[Pd,OU];done)) (by first|rfl|(simp only[NN];rfl)|(simp only[NQ];rfl)|(simp only[NN,NQ];rfl)))
 | ((with_reducible refine Ll ?_);exact Pu rfl (by first|(simp;done)|(simp;omega)|rfl|(simp[Pd,OU];done)) (by first|rfl|(simp only[NN];rfl)|(simp only[NQ];rfl)|(simp only[NN,NQ];rfl)) rfl (by first|(simp;done)|(simp;omega)|rfl|(simp[Pd,OU];done)) (by first|rfl|(simp only[NN];rfl)|(simp only[NQ];rfl)|(simp only[NN,NQ];rfl)) (by decide))
 | ((with_reducible refine JA ?_);exact IX rfl (by first|(simp;done)|(simp;omega)|rfl|(simp[Pd,OU];done)) (by first|rfl|(simp only[NN];rfl)|(simp only[NQ];rfl)|(simp only[NN,NQ];rfl)) rfl (by first|(simp;done)|(simp;omega)|rfl|(simp[Pd,OU];done)) (by first|rfl|(simp only[NN];rfl)|(simp only[NQ];rfl)|(simp only[NN,NQ];rfl)))
 | ((with_reducible refine IP ?_);exact FW rfl (by first|(simp;done)|(simp;omega)|rfl|(simp[Pd,OU];done)) (by first|rfl|(simp only[NN];rfl)|(simp only[NQ];rfl)|(simp only[NN,NQ];rfl)) rfl (by first|(simp;done)|(simp;omega)|rfl|(simp[Pd,OU];done)) (by first|rfl|(simp only[NN];rfl)|(simp only[NQ];rfl)|(simp only[NN,NQ];rfl)) (by decide))
 | ((with_reducible refine Mw ?_);exact Ly rfl (by first|(simp;done)|(simp;omega)|rfl|(simp[Pd,OU];done)) (by first|rfl|(simp only[NN];rfl)|(simp only[NQ];rfl)|(simp only[NN,NQ];rfl)) rfl (by first|(simp;done)|(simp;omega)|rfl|(simp[Pd,OU];done)) rfl (by first|(simp;done)|(simp;omega)|rfl|(simp[Pd,OU];done)) (congrArg D.sl (Ws _ _ (by first|rfl|simp))) rfl)
 | ((with_reducible refine Mv ?_);exact Lx rfl (by first|(simp;done)|(simp;omega)|rfl|(simp[Pd,OU];done)) rfl (by first|(simp;done)|(simp;omega)|rfl|(simp[Pd,OU];done)) (by first|rfl|(simp only[NN];rfl)|(simp only[NQ];rfl)|(simp only[NN,NQ];rfl)) rfl (by first|(simp;done)|(simp;omega)|rfl|(simp[Pd,OU];done)) (by first|rfl|(simp only[NN];rfl)|(simp only[NQ];rfl)|(simp only[NN,NQ];rfl)))
 | ((with_reducible refine Mx ?_);exact IY (by decide) (by decide) rfl (by first|(simp;done)|(simp;omega)|rfl|(simp[Pd,OU];done)) rfl (by first|(simp;done)|(simp;omega)|rfl|(simp[Pd,OU];done)) rfl (by first|(simp;done)|(simp;omega)|rfl|(simp[Pd,OU];done)) rfl (by first|(simp;done)|(simp;omega)|rfl|(simp[Pd,OU];done)) (by first|rfl|(simp only[NN];rfl)|(simp only[NQ];rfl)|(simp only[NN,NQ];rfl)) rfl (by first|(simp;done)|(simp;omega)|rfl|(simp[Pd,OU];done)) rfl)
 | exact trivial
 | refine⟨rfl,?_⟩
 | refine⟨AdI rfl (by simp),?_⟩
 | refine⟨Om rfl,?_⟩
 | refine⟨Acd (Vp _ rfl),?_⟩
 | refine⟨Acd (WC rfl (by first|rfl|simp) rfl (by first|exact .head _|exact .tail _ (.head _)|exact .tail _ (.tail _ (.head _))|exact .tail _ (.tail _ (.tail _ (.head _))))),?_⟩
 | refine⟨Acd (El rfl (by omega) rfl (by first|exact .head _|exact .tail _ (.head _)|exact .tail _ (.tail _ (.head _))|exact .tail _ (.tail _ (.tail _ (.head _))))),?_⟩
 | refine⟨Vz rfl (by repeat' first|exact trivial|refine⟨OB rfl,?_⟩|refine⟨Vp _ rfl,?_⟩|refine⟨WC rfl (by first|rfl|simp) rfl (by first|exact .head _|exact .tail _ (.head _)|exact .tail _ (.tail _ (.head _))|exact .tail _ (.tail _ (.tail _ (.head _)))),?_⟩|refine⟨El rfl (by omega) rfl (by first|exact .head _|exact .tail _ (.head _)|exact .tail _ (.tail _ (.head _))|exact .tail _ (.tail _ (.tail _ (.head _)))),?_⟩),?_⟩
 | refine⟨.inl rfl,?_⟩
 | refine⟨.inr ⟨_,_,_,_,rfl,rfl,rfl,rfl,Vz rfl (by repeat' first|exact trivial|refine⟨OB rfl,?_⟩|refine⟨Vp _ rfl,?_⟩|refine⟨WC rfl (by first|rfl|simp) rfl (by first|exact .head _|exact .tail _ (.head _)|exact .tail _ (.tail _ (.head _))|exact .tail _ (.tail _ (.tail _ (.head _)))),?_⟩|refine⟨El rfl (by omega) rfl (by first|exact .head _|exact .tail _ (.head _)|exact .tail _ (.tail _ (.head _))|exact .tail _ (.tail _ (.tail _ (.head _)))),?_⟩)⟩,?_⟩
 | refine⟨.inr ⟨_,_,_,_,rfl,rfl,rfl,rfl,Acd (Vp _ rfl)⟩,?_⟩
 | refine⟨.inr ⟨_,_,_,_,rfl,rfl,rfl,rfl,Acd (WC rfl (by first|rfl|simp) rfl (by first|exact .head _|exact .tail _ (.head _)|exact .tail _ (.tail _ (.head _))|exact .tail _ (.tail _ (.tail _ (.head _)))))⟩,?_⟩
 ):p:=h
inductive FrL:List D->List D->Prop
 | nil:FrL [] []
 | same (c:D) {l l':List D} (h:FrL l l'):FrL (c::l) (c::l')
 | row {s ty:Nat} {es l l':List D} (hp:∀ q∈es,AH q=true) (h:FrL l l'):FrL (.row s ty es::l) (.sl es::l')
theorem Kf {R:D->D->Prop} {z:D} (h:R z z'):Each R [z] [z']:=by
 refine⟨rfl,λi e e' h1 h2=>?_⟩
 grind
inductive AfP:List D->List D->Prop
 | nil:AfP [] []
 | same {c:D} (hc:plain c=true) {l l':List D} (h:AfP l l'):AfP (c::l) (c::l')
 | row {s ty:Nat} {l l':List D} (hs:0<s) (h:AfP l l'):AfP (.nils::l) (.row s ty []::l')
theorem AfP.enr:∀ {cs cs':List D},AfP cs cs'->cs'.length=cs.length/\∀ (j:Nat) c c',cs[j]? =some c->cs'[j]? =some c'->(c'=c/\(false=true\/plain c=true))\/(c= .nils/\∃ s ty,0<s/\c'= .row s ty [])
 | _,_,.nil=>⟨rfl,λj c c' h=>by simp at h⟩
 | _,_,.same hc h=>by
  obtain⟨h1,h2⟩:=h.enr
  grind
 | _,_,.row (s:=s) (ty:=ty) hs h=>by
  obtain⟨h1,h2⟩:=h.enr
  grind
theorem AxJ (h:AfP cs cs'):Each (Enr false) [.agg cs] [.agg cs']:=Kf h.enr
open Classical in
noncomputable def AkK {B:Type} (m:Nat->Option B):Option B:=if h:∃ n,(m n).isSome=true then m h.choose else none
theorem Jw {B:Type} {m:Nat->Option B} {b:B} (h:AkK m=some b):∃ n,m n=some b:=by
 unfold AkK at h;split at h
 all_goals grind
theorem AxP {B:Type} {m:Nat->Option B} {P:B->Prop} {n:Nat} {r:B} (h:m n=some r) (hP:∀ n r,m n=some r->P r):∃ r,AkK m=some r/\P r:=by
 have he:∃ n,(m n).isSome=true:=⟨n,by rw[h];rfl⟩
 obtain⟨r',hr'⟩:=Option.isSome_iff_exists.1 he.choose_spec;exact⟨r',by simp_all[AkK],hP _ _ hr'⟩
theorem Axf {P:Program} {A B:Type} {ptr:List (Nat×(Nat×Nat))} {kind:Kind} {enc:A->List D} {dec:List D->A} {f:Nat->A->Option B} {encR:B->D} {encE:B->List D} (hde:∀ a,dec (enc a)=a) (h:∀ n,NK P k (NO ptr kind enc dec (f n) encR encE)) (hni:Br kind=none:=by rfl) (hno:Cz kind=none:=by rfl):NK P k (NO ptr kind enc dec (λa=>AkK λn=>f n a) encR encE):=by
 intro F0 hG;refine⟨(h 0 F0 hG).1,λq hq=>?_,λ_ _ w F ds vs M h1 h2 h3 h4 hp=>?_,λφ hφ=>?_,hG⟩
 ·have hq:Br kind=some q:=hq;simp_all
 ·obtain⟨a,b,rfl,hb⟩:=hp;have hb':(λa=>AkK λn=>f n a) a=some b:=hb
  obtain⟨n,hn⟩:=Jw hb;refine((h n F0 hG).2.2.1 hni hno w F (enc a) vs M h1 h2 h3 h4 ⟨a,b,rfl,hn⟩).mono λe w' hq=>?_
  unfold BW at hq ⊢;rw[SK hde hn,Co hde hn]at hq;rw[SK hde hb',Co hde hb'];exact hq
 ·have hφ:Cz kind=some φ:=hφ;simp_all
section
variable {α:Type} {c:α->List D} {w:Nat}
theorem Ju {l:List α} {q:α} (hq:l[j]? =some q):l.flatMap c=(l.take j).flatMap c++(c q++(l.drop (j+1)).flatMap c):=by
 grind [List.getElem_cons_drop,List.take_append_drop]
variable (hw:∀ q,(c q).length=w)
 include hw
theorem HY:∀ l:List α,(l.flatMap c).length=l.length*w
 | []=>by simp
 | q::l=>by simp[hw,HY l,Nat.add_mul,Nat.add_comm]
theorem KY {l:List α} (hj:j<=l.length):((l.take j).flatMap c).length=j*w:=by
 grind [HY,List.length_take]
theorem KX {pre post:List D} {l:List α} {q:α} (hq:l[j]? =some q):((pre++(l.flatMap c++post)).drop (pre.length+j*w)).take w=c q:=by
 have hj:=(aA.1 hq).1;have hp:=KY hw (Nat.le_of_lt hj)
 grind [Ju]
end
section
variable {Γ:An} {X:Type} {K:KR X} {t:Option X} {e:List (Nat×D)} {o:List (Nat×Ad)} {n nv:Nat} {d:Bool} {acc:List Ck}
 {r:List As} {dst:Nat} {g:Option (Nat×Bool)} {af:List Nat} {α:Type}
variable {x y:Arg} {v z z':D} {s ty gi vi off w j:Nat} {fz var:Bool} {l:List α} {c:α->List D} {q q':α}
theorem Asv (b b':Nat) (hw:∀ q,(c q).length=w) (hj:off=b+j*w) (hg:gOn e g=true) (hx:Aa e x=some (.fptr z off))
  (hc:cells z=(cells z).take b++(l.flatMap c++(cells z).drop b')) (hb:((cells z).take b).length=b) (hbl:aAH (b+l.length*w) (cells z).length=true) (hq:l[j]? =some q) (hv:D.agg (c q)=v)
  (h:TrO Γ r (nv+1) ⟨(dst,v)::e,o,n⟩ d (acc++[(gK g++rdK x,[.e dst],af)]) K t) :
  TrO Γ (⟨some dst,.ld w true x,g,af⟩::r) nv ⟨e,o,n⟩ d acc K t:=by
 subst hj;have hl:=(aA.1 hq).1;have hm:=Nat.mul_le_mul_right w (show j+1<=l.length by omega)
 rw[Nat.add_mul,Nat.one_mul]at hm;have hbl:=aAC hbl;refine DZ (m:=w) (agg:=true) (z:=z) (v:=v) hg hx (aAF (by omega)) ?_ h
 subst hv;simp only[On,if_true];congr 1
 grind [KX]
end
open Go
section
variable {Γ:An} {R:Type} {K:R->Ar->S->Prop} {t:Option R} {σ τ:S} {b:Pc}
def Iy (Γ:An) (b:Pc) (Q:Ar->S->Prop):Nat->S->Prop
 | 0,_=>False
 | m+1,σ=>DWp Γ b (Ar.then (λτ=>∃ τ',Chg τ τ'/\Iy Γ b Q m τ') Q) σ
theorem Iy.loop {Q:Ar->S->Prop} {m:Nat} (h:Iy Γ b Q m σ):DWp Γ (.loop b) Q σ:=by
 refine⟨{ p:Nat×S // Iy Γ b Q p.1 p.2 },λp=>p.1.2,λp=>p.1.1,⟨(m,σ),h⟩,.refl _,?_⟩
 rintro⟨⟨k,σ⟩,h⟩;simp only at h;cases k with
 | zero=>exact h.elim
 | succ k =>
  refine AJ b _ _ _ (λe τ hq=>?_) h
  cases e with
  | normal =>
   obtain⟨τ',h1,h2⟩:=hq;exact⟨⟨(k,τ'),h2⟩,Nat.lt_succ_self k,h1⟩
  | exit id=>exact hq
  | ret=>exact hq
end
section
variable {α:Type} {Γ:An} {X:Type} {K:KR X} {t:Option X} {r:List As} {nv n:Nat} {e:List (Nat×D)} {o:List (Nat×Ad)} {d:Bool} {acc:List Ck} {g:Option (Nat×Bool)} {af:List Nat} {dst:Nat} {x y:Arg} {w:D} {gi vi ty:Nat}
theorem Axh {k:IntKind} {m:Int} {kt kk len w:Nat} (l:List α) (c:α->List D) (hds:GH kt=l.flatMap c) (hg:gOn e g=true) (hy:Aa e y=some (.int k m)) (hi:0<=m/\m<len) (hΓ:Γ kk=some sp) (h:TrO Γ r (nv+1) ⟨(dst,.fptr (.agg (l.flatMap c)) (0+m.toNat*w))::e,o,n⟩ d (acc++[(gK g++rdK y,[.e dst],af)]) K t) :
  TrO Γ (⟨some dst,.ixG kt len w y,g,af⟩::r) nv ⟨e,o,n⟩ d acc K t:=by
 refine Ap hg (c:=True/\0<=m/\m<len/\∃ k sp,Γ k=some sp) (we:=[(dst,.fptr (.agg (l.flatMap c)) (0+m.toNat*w))]) (wo:=[]) (rd:=rdK y) ?_ ?_ ⟨trivial,hi.1,hi.2,kk,sp,hΓ⟩ h
 all_goals simp_all[evalOp,Jd,Ah]
end
def Ajf (f:Nat):D:=.clo f []
theorem AiO {X:Type} {nv:Nat} {acc:List Ck} {K:KR X} {c:Bool} {t1 t2:Option X} (h1:c=true->TrO Γ ops nv σ d acc K t1) (h2:c=false->TrO Γ ops nv σ d acc K t2):TrO Γ ops nv σ d acc K (bif c then t1 else t2):=by
 cases c
 ·exact h2 rfl
 ·exact h1 rfl
theorem AiN {l:List α} {v:α} {x:Int} (h:(x==(k:Int))=true) (hl:l[k]? =some v):l[x.toNat]? =some v:=by
 simp_all
theorem Ayg {l:List α} {v:α} {x:Int} {n:Nat} (ks:List Nat) (hq:0<=x/\x<(n:Int)) (hk:∀ k∈ks,(x==(k:Int))=false) (hl:∀ j<n,j∉ks->l[j]? =some v):l[x.toNat]? =some v:=by
 obtain⟨j,rfl⟩:∃ j:Nat,x=j:=⟨x.toNat,by omega⟩
 exact hl _ (by simp at hq;omega) λh=>by simpa using hk _ h
section
variable {Γ Γ':An} {A B γ:Type} {ptr:List (Nat×(Nat×Nat))} {kind:Kind} {enc:A->List D} {dec:List D->A} {f:A->Option B} {encR:B->D} {encE:B->List D}
 {fd np:Nat} {rs rs0:List Az} {dc:Pc} {caps:List D} {tt:Option B} {e:List (Nat×D)} {o:List (Nat×Ad)} {n t:Nat} {r:Pc} {ex:Ar}
 {E:γ->List (Nat×D)} {O:γ->List (Nat×Ad)}
def kDE (Γ':An) (np:Nat) (rs:List Az) (dc:Pc) (caps:List D) (K:B->Ar->S->Prop):B->Ar->S->Prop:=λx=>GG Γ' np rs dc caps (K x .ret)
def kDA (Γ Γ':An) (fd np:Nat) (rs:List Az) (dc:Pc) (t:Nat) (r:Pc) (K:B->Ar->S->Prop):B->Ar->S->Prop:=λx=>Mh Γ Γ' fd np rs dc t r (K x .ret)
theorem Ayh {K:B->Ar->S->Prop} {cp:γ->List D} (g0:γ) (hh:Has ⟨e,o,n⟩ (E g0) (O g0)) (hc:∀ g,Aa (E g) (.t t)=some (.clo fd (cp g))) (h:∀ g nn,Tr Γ r (kDE Γ' np rs dc (cp g) K) ⟨E g,O g,nn⟩ tt) :
  TrX ex (kDA Γ Γ' fd np rs dc t r K) ⟨e,o,n⟩ tt:=by
 intro x hx;obtain⟨m,hm⟩:=hh;have e1:(raw (.t t)).run ⟨E g0,O g0,m⟩= .clo fd (cp g0):=by simp[hc g0]
 exact⟨_,hm,cp g0,e1,h g0 m x hx⟩
theorem Axi {cp:γ->List D} {E2:γ->List (Nat×D)} (g0:γ) (hex:(match ex with| .exit _=>false|_=>true)=true) (hh:Has ⟨e,o,n⟩ (E g0) (O g0)) (hs:∀ g,(cp g).map nog=caps.map nog) (hnp:∀ g,(cp g).length=np) (hE:∀ g,Dd 0 (cp g)=E2 g)
  (h:∀ g nn,Tr Γ' dc (IQ Γ' [] none rs (E g) (AW ptr kind rs0 encR encE)) ⟨E2 g,O g,nn⟩ tt):TrX ex (kDE Γ' np rs dc caps (AW ptr kind rs0 encR encE)) ⟨e,o,n⟩ tt:=by
 intro x hx;obtain⟨m,hm⟩:=hh;have hx':=h g0 m x hx;rw[<- hE]at hx';have key:Wk (λτ=>∃ caps',caps'.map nog=caps.map nog/\DW Γ' np rs dc caps' τ λ_ τ'=>AW ptr kind rs0 encR encE x .ret τ') ⟨e,o,n⟩ :=
  ⟨_,hm,cp g0,hs g0,hnp g0,_,.refl _,AJ _ _ _ _ (λex τ hq=>Es (λd τ ⟨_,c1,_,c2,k⟩=>⟨_,c1.trans c2,k⟩) hq) hx'⟩
 cases ex with
 | exit id=>cases hex
 | normal=>exact key
 | ret=>exact key
theorem fn3 {P:Program} {fn':Func} {c:List As×List As×Nat×Pc} [hde:Od enc dec] (fd np' np:Nat) (hΓ:∀ k sp,Γ k=some sp->NK P (k % 4096) sp) (hΓ':∀ k sp,Γ' k=some sp->NK P (k % 4096) sp) (hf:P.funcs[k]? =some fn) (hf':P.funcs[fd]? =some fn') (hT:∀ a,Tr Γ (.seq (.reg c.1 false) (.reg c.2.1 false)) (kDA Γ Γ' fd np' rs dc c.2.2.1 c.2.2.2 (AW ptr kind rs0 encR encE)) ⟨Cy ptr 0 (enc a),Cj ptr 0 (enc a),262144⟩ (f a)) (hc:(fn.body.bind (JY P fn.ntmps))=some c:=by conv=>lhs;cbv) (hc':(fn'.body.bind (Pv P fn'.ntmps))=some dc:=by conv=>lhs;cbv) (hr':fn'.results.toList.mapM (UZ P)=some rs:=by conv=>lhs;cbv) (hr:fn.results.toList.mapM (UZ P)=some rs0:=by conv=>lhs;cbv) (hlt:aAD fd 4096=true:=by rfl) (hname':(fn'.name == "runtime.NumGoroutine")=false:=by decide) (hnp':np'<=fn'.ntmps:=by decide) (hname:(fn.name == "runtime.NumGoroutine")=false:=by decide) (hnp:np<=fn.ntmps:=by decide) (hlen:∀ a,(enc a).length=np:=by exact λ_=>rfl) (hkeys:∀ a,Bd ptr 0 (enc a)=ptr.map Prod.fst:=by exact λ_=>rfl) (hptr:Ds ptr=true:=by decide) (hni:Br kind=none:=by rfl) (hno:Cz kind=none:=by rfl):NK P k (NO ptr kind enc dec f encR encE):=by
 obtain⟨c0,hb,_⟩:=aAI.1 hc;refine Jy hΓ hf hname hb (IG hΓ' hc hf' hlt hname' hc' hr' hnp') hr hnp (by rintro ds ⟨a,b,rfl,_⟩;exact⟨hlen a,hkeys a⟩) hptr ?_ hni hno
 rintro ds ⟨a,b,rfl,hb⟩ _;have key:∀ τ,Bs ⟨ptr,kind,λ_=>True,λ_=>encR b,λ_=>encE b⟩ rs0 [] τ->Bs (NO ptr kind enc dec f encR encE) rs0 (enc a) τ:=by
  simp only[Bs,SK hde.ok hb,Co hde.ok hb];exact λ_ h=>h
 have end_:∀ caps ex τ,GG Γ' np' rs dc caps (AW ptr kind rs0 encR encE b .ret) ex τ->GG Γ' np' rs dc caps (Wk (Bs (NO ptr kind enc dec f encR encE) rs0 (enc a))) ex τ:=by
  intro caps ex τ h;have k2:Wk (λτ=>∃ caps',caps'.map nog=caps.map nog/\DW Γ' np' rs dc caps' τ λ_ τ'=>AW ptr kind rs0 encR encE b .ret τ') τ->Wk (λτ=>∃ caps',caps'.map nog=caps.map nog/\DW Γ' np' rs dc caps' τ λ_ τ'=>Wk (Bs (NO ptr kind enc dec f encR encE) rs0 (enc a)) τ') τ :=
   Wk.mono λτ ⟨c',h1,h2,h3⟩=>⟨c',h1,h2,h3.mono λτ h=>AJ _ _ _ _ (λex τ hq=>Es (λd τ h=>Wk.mono key h) hq) h⟩
  cases ex with
  | exit id=>exact h
  | normal=>exact k2 h
  | ret=>exact k2 h
 exact⟨_,.refl _,AJ _ _ _ _ (λex τ hq=>Wk.mono (λτ ⟨cp,h1,h2⟩=>⟨cp,h1,AJ _ _ _ _ (end_ cp) h2⟩) hq) (hT a b hb)⟩
end
open Go.Sort
theorem Kj {w:World} {b off n:Nat} {C:Array Value} {zs l':List Int} {os:Array Obj} (hl:l'.length=zs.length) (hb:b<w.heap.size) (hC:w.heap[b]? =some (.cells C ty (0,0))) (hcell:∀ (j:Nat) x,zs[j]? =some x->C[off+j]? =some (.int .i64 x)) :
  (grow (putRow (aAJ .i64) (Sort.ahead w n) b off l'.toArray) os).os=w.os/\(grow (putRow (aAJ .i64) (Sort.ahead w n) b off l'.toArray) os).tape=w.tape/\(grow (putRow (aAJ .i64) (Sort.ahead w n) b off l'.toArray) os).output=w.output /\
   w.heap.size<=(grow (putRow (aAJ .i64) (Sort.ahead w n) b off l'.toArray) os).heap.size/\(∀ b',b'<w.heap.size->b'≠b->(grow (putRow (aAJ .i64) (Sort.ahead w n) b off l'.toArray) os).heap[b']? =w.heap[b']?) /\
   ∃ C',(grow (putRow (aAJ .i64) (Sort.ahead w n) b off l'.toArray) os).heap[b]? =some (.cells C' ty (0,0))/\C'.size=C.size/\(∀ k,(k<off\/off+zs.length<=k)->C'[k]? =C[k]?)/\∀ (j:Nat) x,l'[j]? =some x->C'[off+j]? =some (.int .i64 x):=by
 have hheap:∀ k,k<w.heap.size->(grow (putRow (aAJ .i64) (Sort.ahead w n) b off l'.toArray) os).heap[k]? =if b=k then(w.heap[k]?).map (onCells (putCells (aAJ .i64) off l'.toArray))else w.heap[k]?:=by
  grind [grow,putRow,mapBlock,Sort.ahead]
 refine⟨rfl,rfl,rfl,?_,λb' hb' hne=>?_,putCells (aAJ .i64) off l'.toArray C,?_,?_,?_,?_⟩
 ·simp_all
 ·grind
 ·rw[hheap b hb,if_pos rfl,hC];rfl
 ·simp[putCells]
 ·intro k hk;simp only[putCells,Array.getElem?_mapIdx]
  grind
 simp_all[aA,putCells]
theorem Amj {P:Program} {f:Nat} {r:Bool} (h0:∀ zs,(fl zs).length=zs.length/\fk zs<=zs.length) (he:∀ (w:World) (a:Option Addr) (cap:Nat),Calls P f #[.slice a 0 cap] w λe w'=>e= .returned (if r then .slice a 0 cap else .tuple #[])/\w'=w) (hcon:∀ (blk off cap:Nat) (zs:List Int) (w:World),Holds (aAJ .i64) w blk off zs.toArray->blk<w.heap.size->zs.length<4611686018427387904->zs.length<=cap ->
   Calls P f #[.slice (some ⟨blk,off,none⟩) zs.length cap] w λe w'=>e= .returned (if r then .slice (some ⟨blk,off,none⟩) (fk zs) cap else .tuple #[]) /\
    ∃ n os,w'=grow (putRow (aAJ .i64) (Sort.ahead w n) blk off (fl zs).toArray) os):GN P f (inQ r fl fk):=by
 refine⟨λzs ks _=>h0 zs,λw a cap ks hks=>by obtain rfl:ks=[]:=hks;exact he w a cap,λw b off cap ty C zs ks hks hpos hbig hcap hC hcell=>?_⟩
 obtain rfl:ks=[]:=hks;have hb:b<w.heap.size:=(Array.getElem?_eq_some_iff.1 hC).1;have hH:Holds (aAJ .i64) w b off zs.toArray:=by
  intro j hj
  grind [aAj,World.frozen?]
 refine(hcon b off cap zs w hH hb hbig hcap).mono ?_;rintro e w' ⟨rfl,n,os,rfl⟩;exact⟨rfl,Kj (h0 zs).1 hb hC hcell⟩
def Avh (r:Bool) (fl:List Int->List Int) (fk:List Int->Nat):Spec:=⟨[],.inpl (inQ r fl fk),λ_=>False,λ_=>.top,λ_=>[]⟩
theorem Aie (zs:List Int):(Lib.compact zs).length<=zs.length:=by
 grind [Lib.compact,Lib.compactUpTo]
def Acb (zs:List Int):List Int:=Lib.compact zs++aAG (zs.length-(Lib.compact zs).length) 0
theorem FL (zs:List Int):(Acb zs).take (Lib.compact zs).length=Lib.compact zs:=by simp[Acb]
def Zs (zs:List Int):List Int:=zs.mergeSort λx y=>decide (x<=y)
@[simp] theorem Aso (zs:List Int):(Zs zs).length=zs.length:=List.length_mergeSort zs
theorem AmB (zs:List Int):(Acb zs).length=zs.length:=by
 grind [Aie,Acb]
open Go.Proofs
def Ajz (x:Int):Option Int:=chk (0<=x/\x<18446744073709551616) (some ((Lib.ctz 64 x.toNat:Nat):Int))
def Dl (a:Int):List D:=[.int .u64 a]
def Ea (ds:List D):Int:=uI (ds.getD 0 .top)
theorem Iw (a:Int):Ea (Dl a)=a:=rfl
instance:Od Dl Ea:=⟨Iw⟩
def JU (b:Int):D:=.int .i64 b
def JT (_b:Int):List D:=[]
def AvS:Dw.Spec:=NO [] .ground Dl Ea (λa=>Ajz a) JU JT
theorem KC:Du=Lib.deBruijn64tab:=by decide
theorem AvT {P:Program} {f g:Nat} (he:FJ P f) (hg:P.globalNamed "math/bits.deBruijn64tab" = some g)
  (h:∀ (x:Nat) (w:World),x<18446744073709551616->(x≠0->TabAt g Lib.deBruijn64tab w)->Calls P f #[.int .u64 (x:Int)] w λe w'=>e= .returned (.int .i64 (Lib.ctz 64 x:Nat))/\w'=w):NK P f AvS:=by
 intro F0 hG;refine⟨he,λq hq=>(by cases hq),λ_ _ w F ds vs M hsub hF hfin hA hp=>?_,λφ hφ=>(by cases hφ),hG⟩
 obtain⟨a,b,rfl,hb⟩:=hp;have hr:0<=a/\a<18446744073709551616:=by
  grind [Ajz,chk]
 have hfa:Ajz a=some ((Lib.ctz 64 a.toNat:Nat):Int):=by grind [Ajz,chk]
 have hb':(λa=>Ajz a) a=some ((Lib.ctz 64 a.toNat:Nat):Int):=hfa
 cases hA with
 | ptr j d ds xs M m hp=>cases hp
 | val j d ds x xs M hp hn hx hr' =>
  cases hx;cases hr';have ht:a.toNat≠0->TabAt g Lib.deBruijn64tab w:=λ_ j hj=>by
   have hj':j<64:=by
    have:Lib.deBruijn64tab.length=64:=by decide
    omega
   rw[<- KC];exact hF _ _ _ (hsub _ _ _ (hG.tz hg j hj'))
  have key:=h a.toNat w (by omega) ht
  have e1:((a.toNat:Nat):Int)=a:=by omega
  rw[e1]at key;refine key.mono ?_;rintro e w' ⟨rfl,rfl⟩;refine⟨_,F,λ_ _ _=>False,λ_=>False,rfl,hF,hfin,Stp.refl _ _ _,?_,⟨λk m hm=>by simp at hm,λ_ _ _ h=>h.elim,λ_ _ _ h=>h.elim,λ_ _ _ _ _ h=>h.elim,λ_ _ _ _ h=>h.elim⟩,λ_ _ _ h=>h.elim⟩
  show Fro F ((NO [] .ground Dl Ea (λa=>Ajz a) JU JT).res (Dl a)) _
  rw[SK Iw hb'];exact .int _ _
def Fy (a:Int):List D:=[.int .u64 a]
def Fx (ds:List D):Int:=uI (ds.getD 0 .top)
theorem JI (a:Int):Fx (Fy a)=a:=rfl
instance:Od Fy Fx:=⟨JI⟩
open Go.RowKit
theorem HW [Decidable p] {x:Option α} {b:α} (h:chk p x=some b):p/\x=some b:=by
 grind [chk]
def ZC {α:Type} (l:List α):Option (List α):=chk (l.length<=16777216) (some l)
abbrev Are {α:Type} (l:List α):Option (List α):=ZC l
abbrev Ard {α:Type} (l:List α):Option (List α):=ZC l
abbrev Anu {α:Type} (l:List α):Option (List α):=ZC l
theorem Js {l b:List α} (h:ZC l=some b):b=l:=by
 obtain⟨_,h⟩:=HW h;cases h;rfl
def Wh {α:Type} (en:α->D) (l:List α):List D:=[.sl (l.map en)]
def Aae {α:Type} (u:D->α) (ds:List D):List α:=(uL u) (ds.getD 0 .top)
theorem Ant (en:α->D) (u:D->α) (h:∀ x,u (en x)=x) (l:List α):Aae u (Wh en l)=l:=by simp[Aae,Wh,OE h]
def Aje {α:Type} (en:α->D) (l:List α):D:=.sl (l.map en)
theorem ME {w:World} {s n:Nat} {xs:List Value} {es:List D} {b0:Nat} (hs:0<s) (hn:es.length=n) (hen:∀ e∈es,(cells e).length=s) (hown:w.ownsRow b0 ty s v n xs) (hx:∀ (i j:Nat) e d,es[i]? =some e->(cells e)[j]? =some d->∃ x,xs[i*s+j]? =some x/\x.oneCell'=true/\Fro F d x) :
  ∃ L:Loc,v= .slice (L.b.map λb=>⟨b,0,none⟩) es.length L.cap/\Au F noB w L ⟨false,false,s,ty,es⟩/\∀ b,L.b=some b->b0<=b/\b<w.heap.size:=by
 subst hn;obtain⟨hl,⟨hv,h0⟩|⟨g,cap,cur,hv,hb,hg,hc,hm,hcs,ht⟩⟩:=hown
 ·refine⟨⟨none,0,s⟩,by simp_all,⟨rfl,hs,by simp_all,aAi _,hen,rfl,rfl⟩,λb hb=>by cases hb⟩
 ·refine⟨⟨some g,cap,s⟩,hv,⟨rfl,hs,hc,hm,hen,cur,hg,hcs,λi j e d he hd=>?_⟩,λb hb'=>?_⟩
  all_goals grind
theorem Ajm {P:Program} {f s:Nat} {en:α->D} {u:D->α} (hu:∀ x,u (en x)=x) (he:FJ P f) (hs:0<s) (hen:∀ x,(cells (en x)).length=s) (h0:∀ (c:Nat) (w:World),Calls P f #[.slice none 0 c] w λe w'=>e= .returned (.slice none 0 0)/\w'=w) (h:∀ (a:Addr) (n c:Nat) (xs:List Value) (w:World),n<=16777216->xs.length=n*s->(∀ (j:Nat) x,xs[j]? =some x->w.cell? (a.add j)=some x)->(∀ x∈xs,x.oneCell'=true) ->
   Calls P f #[.slice (some a) n c] w λe w'=>∃ v',e= .returned v'/\w'.ownsRow w.heap.size ty s v' n xs/\Below w.heap.size w w') :
  NK P f (NO [] (.row s ty) (Wh en) (Aae u) (λa=>ZC a) (Aje en) noE):=by
 intro F0 hG;refine⟨he,λq hq=>(by cases hq),λ_ _ w F ds vs M hsub hF hfin hA hp=>?_,λφ hφ=>(by cases hφ),hG⟩
 obtain⟨l,b,rfl,hb⟩:=hp;have hM:=Aad rfl hA;subst hM;have hres:(NO [] (.row s ty) (Wh en) (Aae u) (λa=>ZC a) (Aje en) noE).res (Wh en l)= .sl (b.map en):=SK (Ant en u hu) hb
 have hbl:=Js hb;subst hbl;obtain⟨hlen,_⟩:=HW hb;have fin:∀ (v':Value) (w':World) (xs:List Value),w'.ownsRow w.heap.size ty s v' b.length xs->Below w.heap.size w w' ->
   (∀ (i j:Nat) e d,(b.map en)[i]? =some e->(cells e)[j]? =some d->∃ x,xs[i*s+j]? =some x/\x.oneCell'=true/\Fro F d x) ->
   BW (NO [] (.row s ty) (Wh en) (Aae u) (λa=>ZC a) (Aje en) noE) w F (Wh en b) [] (.returned v') w':=by
  intro v' w' xs hown hw hx;obtain⟨L,l1,l2,l3⟩:=ME hs (aAK ..) (λe he=>by grind) hown hx
  refine⟨v',F,λ_ _ _=>False,λ_=>True,rfl,λb i x hx=>?_,λb i x hx=>Nat.lt_of_lt_of_le (hfin b i x hx) hw.size,⟨hw.os,hw.tape,hw.output,hw.size,λb hb _=>hw.block b hb,Og.refl _,λ_ _ _ _=>rfl⟩,?_,
   ⟨λk m hm=>by simp at hm,λ_ _ _ h=>h.elim,λ_ _ _ h=>h.elim,λ_ _ _ _ _ h=>h.elim,λ_ _ _ _ h=>h.elim⟩,λ_ _ _ h=>h.elim⟩
  ·rw[hw.cell (p:=⟨b,i,none⟩) (hfin b i x hx)];exact hF b i x hx
  ·rw[hres];refine⟨b.map en,L,rfl,l1,l2,λk hk=>⟨(l3 k hk).1,(l3 k hk).2,λi=>?_,trivial⟩⟩
   cases hFk:F k i with
   | none=>rfl
   | some x=>grind
 cases hA with
 | val j d ds x' xs M hp hn hx hr' =>
  cases hr';generalize hes:b.map en=es at hx;have zero:∀ a c,b=[]->Calls P f #[.slice a 0 c] w (BW (NO [] (.row s ty) (Wh en) (Aae u) (λa=>ZC a) (Aje en) noE) w F (Wh en b) []):=by
   intro a c e;rcases a with _|a
   ·refine(h0 c w).mono ?_;rintro e' w' ⟨rfl,rfl⟩;exact fin _ _ [] (by grind [World.ownsRow_nil]) (Below.refl _ _) λi j e' d he=>by simp_all
   ·refine(h a 0 c [] w (aAi _) (Nat.zero_mul s).symm (λj x hj=>by simp at hj) (λx hx=>by cases hx)).mono ?_
    grind
  cases hx with
  | sl0 a c=>simp_all
  | sl es p o c k vf hc hk hcl h1 hv =>
   subst hes;rw[aAK]at hc ⊢;rcases Nat.eq_zero_or_pos b.length with h0'|h0'
   ·simp_all
   have hks:k=s:=by
    have:=hk (en (b[0]'h0')) (List.mem_map.2 ⟨_,List.getElem_mem h0',rfl⟩);simp_all
   subst hks;have cel:∀ i j:Nat,i<b.length->j<k->∃ e d,(b.map en)[i]? =some e/\(cells e)[j]? =some d:=λi j hi hj=>by
    simp_all
   let xs:List Value:=(aAP (b.length*k)).map λq=>vf (q / k) (q % k)
   have hxs:∀ (q:Nat) x,xs[q]? =some x->q<b.length*k/\x=vf (q / k) (q % k):=λq x hx=>by
    grind
   have hq:∀ q,q<b.length*k->q / k<b.length/\q % k<k:=λq hq=>⟨Nat.div_lt_of_lt_mul (by rw[Nat.mul_comm];exact hq),Nat.mod_lt _ hs⟩
   refine(h ⟨p,o,none⟩ b.length c xs w hlen (by simp[xs]) (λq x hx=>?_) (λx hx=>?_)).mono ?_
   ·obtain⟨q1,rfl⟩:=hxs q x hx;obtain⟨q2,q3⟩:=hq q q1;obtain⟨e,d,e1,e2⟩:=cel _ _ q2 q3;have:=hF _ _ _ (hcl _ _ e d e1 e2);rw[Nat.add_assoc,Nat.div_add_mod' q k]at this;rw[Addr.add_lit];exact this
   ·obtain⟨q,hq'⟩:=List.getElem?_of_mem hx;obtain⟨q1,rfl⟩:=hxs q x hq';obtain⟨q2,q3⟩:=hq q q1;obtain⟨e,d,e1,e2⟩:=cel _ _ q2 q3;exact h1 _ _ e d e1 e2
   ·rintro e' w' ⟨v',rfl,h2,h3⟩;refine fin _ _ xs h2 h3 λi j e d he hd=>⟨vf i j,?_,h1 i j e d he hd,hv i j e d he hd⟩
    have hi:i<b.length:=by have:=(aA.1 he).1;simpa using this
    have hj:j<k:=by
     have:=(aA.1 hd).1;rw[hk e (List.mem_of_getElem? he)]at this;exact this
    have hlt:i*k+j<b.length*k:=by
     have:(i+1)*k<=b.length*k:=Nat.mul_le_mul_right k hi;rw[Nat.add_mul,Nat.one_mul]at this;omega
    have hd1:(i*k+j) / k=i:=by rw[Nat.add_comm,Nat.add_mul_div_right _ _ hs,Nat.div_eq_of_lt hj,Nat.zero_add]
    have hd2:(i*k+j) % k=j:=by rw[Nat.add_comm,Nat.add_mul_mod_self_right,Nat.mod_eq_of_lt hj]
    simp only[xs,aAb,List.getElem?_range hlt,Option.map_some,hd1,hd2]
theorem rf {α:Sort _} {a:α}:a=a:=rfl
abbrev M (d s:Nat):As:=⟨some d,.mv (.t s),none,[]⟩
abbrev P (d:Nat) (o:DOp):As:=⟨some d,o,none,[]⟩
abbrev T (n:Nat):Arg:=.t n
abbrev C (n:Int):Arg:=.c (.int .i64 n)
abbrev Av (n:Int):D:=.int .i64 n
abbrev Akn (n:Int):D:=.int .u64 n
abbrev dW (v s t:Nat) (l:List D):Option (Nat×Own):=some (v,⟨false,false,s,t,l⟩)
abbrev dV (v s t:Nat) (d:D):Option (Nat×Own):=some (v,⟨false,true,s,t,[d]⟩)
theorem XF {X:Type} {c c':Pc} {K:X->Ar->S->Prop} {t:Option X} (h:Tr Γ c' K σ t) (e:c=c':=by conv=>lhs;cbv):Tr Γ c K σ t:=e▸h
theorem hY {o:List (Nat×Ad)} {n:Nat} (hE:EV e E:=by repeat first|exact trivial|refine And.intro (by first|rfl|(simp[AL,frp];done)|(simp[AL,frp,BV];done)|(simp[AL,frp,BV,nbq];done)|(simp[AL,lkO,frp,BV,frO];done)|(simp[AL,lkO,frp,BV,frO];rfl)|(simp[AL,lkO,frp,BV,frO,nbq];done)) ?_) (hO:EW o O:=by repeat first|exact trivial|refine And.intro (by first|rfl|(simp[AL,frp];done)|(simp[AL,frp,BV];done)|(simp[AL,frp,BV,nbq];done)|(simp[AL,lkO,frp,BV,frO];done)|(simp[AL,lkO,frp,BV,frO];rfl)|(simp[AL,lkO,frp,BV,frO,nbq];done)) ?_):Has ⟨e,o,n⟩ E O:=AeG hE hO
theorem hV (g:Nat) {v s n:Nat} {z:D} {o:List (Nat×Ad)} (ho:lkO o g=some (v,⟨false,true,s,ty,[z]⟩)) (h:Has ⟨e.map (λp=>(p.1,frp g v z p.2)),(g,none)::o.map (λp=>(p.1,frO g v z p.2)),n⟩ E O) (hc:(cells z).all Pd=true:=by first|rfl|(simp[cells,frp,BV,Pd];done)):Has ⟨e,o,n⟩ E O:=Ki ho hc h
def rnB (own:List (Nat×Nat)) (g:Nat):Nat:=match look own g with|some h=>h|none=>bif aAH 24096 g then g-20000 else bif (aAH 1000 g&&aAD g 4096)then g-1000 else g
def rnI:List (Nat×Nat)->Nat->Nat
 | [],g=>bif aAH 4096 g then g+20000 else g+1000
 | (a,b)::r,g=>bif aAM b g then a else rnI r g
theorem Qd (own:List (Nat×Nat)) (h1:Has σ (E.map λp=>(p.1,rnm (rnI own) p.2)) (O.map λp=>(rnI own p.1,rnO (rnI own) p.2))) (hn:CI (rnB own) ((O.map λp=>(rnI own p.1,rnO (rnI own) p.2)).map Prod.fst)=true) (h2:∀ n,Has ⟨(E.map λp=>(p.1,rnm (rnI own) p.2)).map (λp=>(p.1,rnm (rnB own) p.2)),(O.map λp=>(rnI own p.1,rnO (rnI own) p.2)).map (λp=>(rnB own p.1,rnO (rnB own) p.2)),n⟩ E O):Has σ E O :=
 ZK h1 λn=>Qe (rnB own) hn (h2 n)
open Go.ChangeShapes Go.WideShapes Go.ChangeAt Go.RowKit
def WW (w:Int):Prop:=0<=w/\w<18446744073709551616
def Adv (w:Int) (j:Nat):Bool:=w.toNat.testBit j
theorem CR {w:Int} (h:WW w):(aAL IntKind.u64.bits w).toNat=w.toNat:=by
 show(aAL 64 w).toNat=w.toNat;have:=h.1;have:=h.2
 grind
theorem AfI {n:Nat} (h:n<18446744073709551616):IntKind.u64.wrap (n:Int)=n:=by
 grind [IntKind.wrap,IntKind.signed,IntKind.bits]
theorem AvU {n:Int} (h:WW n):IntKind.u64.wrap n=n:=by
 have:=h.1;have:=h.2
 grind [IntKind.wrap,IntKind.signed,IntKind.bits]
theorem WW.nat {n:Nat} (h:n<18446744073709551616):WW (n:Int):=⟨by omega,by omega⟩
theorem WW.toNat_lt {w:Int} (h:WW w):w.toNat<18446744073709551616:=by have:=h.1;have:=h.2;omega
theorem IH (b:BitVec IntKind.u64.bits):b.toNat<18446744073709551616:=b.isLt
theorem AyW {x y:Int} (hx:WW x) (hy:WW y):IntKind.u64.wrap ((aAL IntKind.u64.bits x ||| aAL IntKind.u64.bits y).toNat:Nat)=((x.toNat ||| y.toNat:Nat):Int):=by
 grind [AfI,IH,CR]
theorem Axp {x y:Int} (hx:WW x) (hy:WW y):IntKind.u64.wrap ((aAL IntKind.u64.bits x &&& aAL IntKind.u64.bits y).toNat:Nat)=((x.toNat &&& y.toNat:Nat):Int):=by
 grind [AfI,IH,CR]
def Arf (x y:Nat):Nat:=x &&& (18446744073709551615-y)
theorem AqT {x y:Int} (hx:WW x) (hy:WW y):IntKind.u64.wrap ((aAL IntKind.u64.bits x &&& ~~~ aAL IntKind.u64.bits y).toNat:Nat)=((Arf x.toNat y.toNat:Nat):Int):=by
 rw[AfI (IH _),BitVec.toNat_and,BitVec.toNat_not,CR hx,CR hy];rfl
theorem Arh {x y:Nat} (hx:x<18446744073709551616) (hy:y<18446744073709551616):(Arf x y).testBit j=(x.testBit j&& !y.testBit j):=by
 unfold Arf;rw[Nat.testBit_and]
 by_cases hj:j<64
 ·have e:18446744073709551615-y=2 ^ 64-(y+1):=by omega
  rw[e,Nat.testBit_two_pow_sub_succ (by omega)]
  simp[hj]
 ·have:x.testBit j=false:=Nat.testBit_lt_two_pow (Nat.lt_of_lt_of_le hx (Nat.pow_le_pow_right (by decide:0<2) (show 64<=j by omega)))
  simp[this]
theorem Aoq {x y:Nat} (hx:x<18446744073709551616):x &&& y<18446744073709551616:=Nat.lt_of_le_of_lt Nat.and_le_left hx
theorem Avu {x y:Nat} (hx:x<18446744073709551616) (hy:y<18446744073709551616):x ||| y<18446744073709551616:=by
 have:=Nat.or_lt_two_pow (n:=64) (x:=x) (y:=y) (by omega) (by omega)
 omega
theorem AwJ {x:Nat} (h0:0<x) (h:x<18446744073709551616) :
  Lib.ctz 64 x<64/\x.testBit (Lib.ctz 64 x)=true/\(∀ j,j<Lib.ctz 64 x->x.testBit j=false)/\∀ j,(x &&& (x-1)).testBit j=(x.testBit j&&decide (j≠Lib.ctz 64 x)):=by
 unfold Lib.ctz;rw[if_neg (by omega)]
 obtain⟨m,hm,hk⟩:=Lib.ctzFrom_spec 64 x h0 (by omega)
 generalize Lib.ctzFrom 64 x=k at hm hk;have hp:0<2 ^ k:=Nat.two_pow_pos k;have e1:x=2 ^ (k+1)*m+2 ^ k:=by grind
 have e2:x-1=2 ^ (k+1)*m+(2 ^ k-1):=by omega
 have b1:2 ^ k<2 ^ (k+1):=by omega
 have t1:∀ j,x.testBit j=if j<k+1 then decide (k=j)else m.testBit (j-(k+1)):=by
  intro j;rw[e1,aAW _ b1,Nat.testBit_two_pow]
 have t2:∀ j,(x-1).testBit j=if j<k+1 then decide (j<k)else m.testBit (j-(k+1)):=by
  intro j;rw[e2,aAW _ (by omega),Nat.testBit_two_pow_sub_one]
 refine⟨hk,by simp_all,λj hj=>by grind,λj=>?_⟩
 grind
def Gh (a:Int):List D:=[.int .i64 a]
def Gg (ds:List D):Int:=uI (ds.getD 0 .top)
theorem Kk (a:Int):Gg (Gh a)=a:=rfl
instance:Od Gh Gg:=⟨Kk⟩
def Gd (a:Int×Int):List D:=[.int .u64 a.1,.int .i64 a.2]
def Gc (ds:List D):Int×Int:=(uI (ds.getD 0 .top),uI (ds.getD 1 .top))
theorem Kg (a:Int×Int):Gc (Gd a)=a:=rfl
instance:Od Gd Gc:=⟨Kg⟩
def Eo (a:List (List UInt8)×List UInt8):List D:=[.sl (a.1.map D.str),.str a.2]
def En (ds:List D):List (List UInt8)×List UInt8:=((uL uS) (ds.getD 0 .top),uS (ds.getD 1 .top))
theorem Kl (a:List (List UInt8)×List UInt8):En (Eo a)=a:=by grind [En,Eo,uS,OE]
instance:Od Eo En:=⟨Kl⟩
def Hb (a:List UInt8×List UInt8):List D:=[.str a.1,.str a.2]
def Ha (ds:List D):List UInt8×List UInt8:=(uS (ds.getD 0 .top),uS (ds.getD 1 .top))
theorem Ln (a:List UInt8×List UInt8):Ha (Hb a)=a:=rfl
instance:Od Hb Ha:=⟨Ln⟩
section
variable {P:Program} {W:World} {t:TypeId}
theorem Dx:∀ {laid:List (String×DataW Unit)} {ps:List MemPlace} {i:Nat} {n:String} {d:DataW Unit},DataW.LaidVars P W laid ps->laid[i]? =some (n,d) ->
  ∃ g t cs fuel p,P.globalNamed n=some g/\(P.globals[g]?).map (·.type)=some t/\W.var? P n=some cs/\aAO (λ_=>()) P W 0 (λ_=>true) false fuel t cs.toList=some (d,p)
 | [],_,i,n,d,_,hi=>by simp at hi
 | (n0,d0)::r,ps,i,n,d,h,hi=>by
  obtain⟨g,t,cs,fuel,p,q,h1,h2,h3,h4,hq,_⟩:=h;rcases i with _|i
  ·grind
  ·exact Dx hq (by simpa using hi)
theorem JC {k:IntKind} {zs:List Int} {e:TypeId} {n g:Nat} (h:laidMet P laid W) (hi:laid[i]? =some (nm,.agg (zs.map λz=>.lit (.int k z)))) (hg:P.globalNamed nm=some g) (ht:(P.globals[g]?).map (·.type)=some t) (ha:P.underlying t=some (.array n e)) (he:P.underlying e=some (.int k)) (hc:P.cellsOf e=1):Cs P (XU W) (nm,zs.map λz=>.int k z):=by
 obtain⟨ps,hv,_⟩:=h;obtain⟨g0,t0,cs,fuel,p,hg0,ht0,hv0,hd0⟩:=Dx hv hi;obtain rfl:=Option.some.inj (hg.symm.trans hg0);obtain rfl:=Option.some.inj (ht.symm.trans ht0);obtain⟨xs,m,rfl,hx,hlen,hn,hel⟩:=DataW.trod_array ha hd0;simp only[Prod.mk.injEq,DataW.agg.injEq]at hx;intro g' hg' j d hd;obtain rfl:=Option.some.inj (hg.symm.trans hg');simp only[aAb,Option.map_eq_some_iff]at hd;obtain⟨z,hz,rfl⟩:=hd;have hzl:zs.length=n:=by have:=congrArg List.length hx.1;grind
 have hj:j<n:=by grind
 have hej:=hel j hj;rw[hc,aAE (show j<xs.length by omega)]at hej
 obtain⟨z',e1,e2,_⟩:=aAV he hej;have hzz:z'=z:=by
  have:=congrArg (λl=>l[j]?) hx.1
  grind
 subst hzz;have hcs:cs[j]? =some (.int k z'):=by
  have h0:((cs.toList.drop (j*1)).take 1)[0]? =some (.int k z'):=by rw[e1];rfl
  grind
 refine⟨.int k z',?_,rfl,.int _ _⟩;show W.cell? ⟨g,j,none⟩=_
 grind [World.var?_cell]
def Hm (q:Int×Int×Int×Bool):DataW Unit:=.agg [.lit (.int .i64 q.1),.lit (.int .i64 q.2.1),.lit (.int .i64 q.2.2.1),.lit (.bool q.2.2.2)]
structure Jo (P:Program) (f0 f1 f2 f3:Field):Prop where
 u0:P.underlying f0.type=some (.int .i64)
 u1:P.underlying f1.type=some (.int .i64)
 u2:P.underlying f2.type=some (.int .i64)
 u3:P.underlying f3.type=some .bool
 o:f0.offset=0/\f1.offset=1/\f2.offset=2/\f3.offset=3
 c:P.cellsOf f0.type=1/\P.cellsOf f1.type=1/\P.cellsOf f2.type=1/\P.cellsOf f3.type=1
theorem GX {α:Type} (c:α->List D) (hc:∀ q,(c q).length=4):∀ (l:List α) (j:Nat) (d:D),(l.flatMap c)[j]? =some d->∃ q,l[j / 4]? =some q/\(c q)[j % 4]? =some d
 | [],j,d,h=>by simp at h
 | q::l,j,d,h=>by
  rw[List.flatMap_cons]at h
  by_cases hj:j<4
  ·grind
  ·rw[List.getElem?_append_right (by simp_all),hc]at h
   obtain⟨q',h1,h2⟩:=GX c hc l (j-4) d h
   grind
theorem HH {zs:List (Int×Int×Int×Bool)} {e:TypeId} {n g:Nat} {f0 f1 f2 f3:Field} (h:laidMet P laid W) (hi:laid[i]? =some (nm,.agg (zs.map Hm))) (hg:P.globalNamed nm=some g) (ht:(P.globals[g]?).map (·.type)=some t) (ha:P.underlying t=some (.array n e)) (he:P.underlying e=some (.struct #[f0,f1,f2,f3])) (hc:P.cellsOf e=4) (hs:Jo P f0 f1 f2 f3):Cs P (XU W) (nm,zs.flatMap Ez):=by
 obtain⟨ps,hv,_⟩:=h;obtain⟨g0,t0,cs,fuel,p,hg0,ht0,hv0,hd0⟩:=Dx hv hi;obtain rfl:=Option.some.inj (hg.symm.trans hg0);obtain rfl:=Option.some.inj (ht.symm.trans ht0);obtain⟨xs,m,rfl,hx,hlen,hn,hel⟩:=DataW.trod_array ha hd0;simp only[Prod.mk.injEq,DataW.agg.injEq]at hx;intro g' hg' j d hd;obtain rfl:=Option.some.inj (hg.symm.trans hg');obtain⟨q,hz,hd⟩:=GX Ez (λ_=>rfl) zs j d hd
 have hzl:zs.length=n:=by have:=congrArg List.length hx.1;grind
 have hj:j / 4<n:=by grind
 have hej:=hel (j / 4) hj;rw[hc,aAE (show j / 4<xs.length by omega)]at hej
 obtain⟨ys,m',_,e2,hl4,hyl,hf⟩:=DataW.trod_struct he hej;have hyl:ys.length=4:=hyl;have hq:ys.map (·.1)=[.lit (.int .i64 q.1),.lit (.int .i64 q.2.1),.lit (.int .i64 q.2.2.1),.lit (.bool q.2.2.2)]:=by
  have:=congrArg (λl=>l[j / 4]?) hx.1
  grind [Hm]
 have gy:∀ i,(hi:i<4)->ys[i]? =some (ys[i]'(by omega)):=λi hi=>aAE _
 have qy:∀ i,(hi:i<4)->(ys.map (·.1))[i]? =some (ys[i]'(by omega)).1:=λi hi=>by grind
 have fin:∀ (i:Nat) (v:Value),i<4->(((cs.toList.drop (j / 4*4)).take 4).drop i).take 1=[v]->j % 4=i->W.cell? ⟨g,j,none⟩=some v:=by
  intro i v hi4 hv hji;have h0:((((cs.toList.drop (j / 4*4)).take 4).drop i).take 1)[0]? =some v:=by rw[hv];rfl
  have hcs:cs[j]? =some v:=by
   simp only[List.getElem?_take,List.getElem?_drop]at h0;have e:j / 4*4+(i+0)=j:=by omega
   simp_all
  grind [World.var?_cell]
 have hm4:j % 4<4:=Nat.mod_lt _ (by decide)
 obtain⟨o0,o1,o2,o3⟩:=hs.o;obtain⟨c0,c1,c2,c3⟩:=hs.c;rcases(show j % 4=0\/j % 4=1\/j % 4=2\/j % 4=3 by omega)with hr|hr|hr|hr
 ·have z:=(hf 0 f0 rfl).trans (gy 0 (by omega))
  obtain⟨k,y1,y2,_⟩:=aAV hs.u0 z;have:=qy 0 (by omega)
  rw[hq,y2]at this;cases this;rw[hr]at hd;cases hd;rw[o0,c0]at y1;exact⟨_,fin 0 _ (by omega) y1 hr,rfl,.int _ _⟩
 ·have z:=(hf 1 f1 rfl).trans (gy 1 (by omega))
  obtain⟨k,y1,y2,_⟩:=aAV hs.u1 z;have:=qy 1 (by omega)
  rw[hq,y2]at this;cases this;rw[hr]at hd;cases hd;rw[o1,c1]at y1;exact⟨_,fin 1 _ (by omega) y1 hr,rfl,.int _ _⟩
 ·have z:=(hf 2 f2 rfl).trans (gy 2 (by omega))
  obtain⟨k,y1,y2,_⟩:=aAV hs.u2 z;have:=qy 2 (by omega)
  rw[hq,y2]at this;cases this;rw[hr]at hd;cases hd;rw[o2,c2]at y1;exact⟨_,fin 2 _ (by omega) y1 hr,rfl,.int _ _⟩
 ·have z:=(hf 3 f3 rfl).trans (gy 3 (by omega))
  obtain⟨k,y1,y2⟩:=DataW.trod_bool hs.u3 z;have:=qy 3 (by omega)
  rw[hq,y2]at this;cases this;rw[hr]at hd;cases hd;rw[o3,c3]at y1;exact⟨_,fin 3 _ (by omega) y1 hr,rfl,.bool _⟩
section
variable {laid:List (String×DataW Unit)} {i g n:Nat} {e:TypeId}
theorem Axg (h:P.globalNamed nm=none):Cs P F (nm,l):=λg hg=>by simp_all
theorem AzG (hL:laidMetH P laid W) (hn:(laid.all λx=>x.2.handleName?.isNone)=true) (a:laid[i]? =some ("math/bits.deBruijn64tab",.agg ((Du.map λn:Nat=>(n:Int)).map λz=>.lit (.int .u8 z))))
  (b:P.globalNamed "math/bits.deBruijn64tab" = some g/\(P.globals[g]?).map (·.type)=some t/\P.underlying t=some (.array n e)/\P.underlying e=some (.int .u8)/\P.cellsOf e=1):Cs P (XU W) ("math/bits.deBruijn64tab",Du.map λn:Nat=>.int .u8 n):=by
 rw[MakeChecks.laidMetH_plain _ _ _ hn]at hL;have:=JC hL a b.1 b.2.1 b.2.2.1 b.2.2.2.1 b.2.2.2.2;rwa[aAU]at this
theorem AzH {f0 f1 f2 f3:Field} (hL:laidMetH P laid W) (hn:(laid.all λx=>x.2.handleName?.isNone)=true) (a:laid[i]? =some ("spillframe/sir.shapes",.agg (TB.map Hm)))
  (b:P.globalNamed "spillframe/sir.shapes" = some g/\(P.globals[g]?).map (·.type)=some t/\P.underlying t=some (.array n e)/\P.underlying e=some (.struct #[f0,f1,f2,f3])/\P.cellsOf e=4/\Jo P f0 f1 f2 f3):Cs P (XU W) ("spillframe/sir.shapes",TB.flatMap Ez):=by
 grind [MakeChecks.laidMetH_plain,HH]
end
theorem Ave (c0:Cs P F ("math/bits.deBruijn64tab",Du.map λn:Nat=>.int .u8 n)) (c1:Cs P F ("internal/strconv.uint64pow10",(aAP 20).map λi=>.int .u64 (10 ^ i:Nat))) (c2:Cs P F ("spillframe/sirtext.names",Asf.map .str)) (c3:Cs P F ("spillframe/sirtext.forms",Ase.map .str)) (c4:Cs P F ("spillframe/sir.shapes",TB.flatMap Ez)):Zv P F:=by
 intro x hx;simp only[CZ,aAY,List.not_mem_nil,or_false]at hx
 grind
end
end Go.Dw
