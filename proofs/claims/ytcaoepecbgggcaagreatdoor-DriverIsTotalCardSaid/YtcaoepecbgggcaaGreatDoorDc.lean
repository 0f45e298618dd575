/-
  THE LAYER: symbolic semantics of compiled code, and programs on typed data.
-/
import Derived.Test.YtcaoepecbgggcaaGreatDoorDb
import Derived.ProofKit
import Derived.OpenShut
import Derived.Deep.Strs
import Derived.SizedLaws
import Derived.Sort.Grow
import Derived.Lib.SlicesCompact
import Derived.Shelf.Spec.TrailingZeros
import Derived.LaidMore
import Derived.Lib.ItoaNum
import Derived.Lib.Join
import Derived.Lib.Bytealg
open BitVec renaming ofInt->aAK
open Bool renaming false_eq_true->aAQ
open Go.DataW renaming trod->aAN,trod_int->aAV,weights->aAX,TrodAll->aAa,weightsAll->aAc,weights_mem_each->aAf
open Function renaming comp_def->aAl
open List renaming getElem?_eq_some_iff->aA,getElem?_eq_getElem->aAD,take_of_length_le->aAE,replicate->aAF,length_map->aAM,range->aAO,map_congr_left->aAP,take->aAR,append_nil->aAT,map_map->aAU,mem_cons->aAY,getD_eq_getElem?_getD->aAZ,getElem?_map->aAb,mem_append->aAe,mem_append_right->aAi,map_set->aAj,drop->aAk
open Nat renaming le_of_ble_eq_true->aAA,blt->aAC,ble_eq_true_of_le->aAG,ble->aAH,beq->aAL,eq_of_beq_eq_true->aAS,testBit_two_pow_mul_add->aAW,zero_le->aAg
open Option renaming getD_some->aAB,bind_eq_some_iff->aAI
open Go.Value renaming int->aAJ,okWide->aAd
open Go.World renaming cell?->aAh
namespace Go.Dw
section
variable {N:Nat} {Δ:List Deferred} {w0:World} {F0:Fz} {M:Nat->Prop} {B0:Bt} {P:Program} {σ:S} {F:Fz} {β:Bt} {a:Act} {w:World}
theorem Sim.Mm (hM:Sim N Δ w0 F0 M B0 σ F β a w):Sim N Δ w0 F M β σ F β a w:=by
 exact{ hM with nam:=Aw.refl _,step:=⟨hM.step.os,hM.step.tape,hM.step.output,hM.step.size,hM.step.block,NX.refl _,λ_ _ _ _=>rfl⟩ }
theorem Sim.MA (hM:Sim N Δ w0 F0 M B0 σ F β a w) {Δ':List Deferred} {σ':S} {F':Fz} {β':Bt} {a':Act} {w':World} (k:Sim N Δ' w0 F M β σ' F' β' a' w'):Sim N Δ' w0 F0 M B0 σ' F' β' a' w':=by
 exact{ k with nam:=hM.nam.trans k.nam,step:=⟨k.step.os,k.step.tape,k.step.output,k.step.size,k.step.block,hM.step.sub.trans k.step.sub,λb i hb hm=>(k.step.old b i hb hm).trans (hM.step.old b i hb hm)⟩ }
theorem Sim.dfr (hM:Sim N Δ w0 F0 M B0 σ F β a w) (Δ':List Deferred):Sim N Δ' w0 F0 M B0 σ F β { a with defers:=Δ' } w:=by
 exact{ hM with defers:=rfl }
def JL (P:Program) (N:Nat):Code->Option (List Ar×List Ar×Nat×OX)
 | .seq (.region _ ops0 false) (.seq (.region _ ops1 false) rest) =>
  match ops1.toList with
  | [o1,⟨none,.defer ⟨.value (.tmp t),⟨[]⟩,_⟩,_,_,_,none⟩]=>do
   let d0<-Bu P N ops0 false 0 ops0.toList
   let d1<-Bu P N ops1 false 0 [o1]
   let r<-Pp P N rest
   some (d0,d1,t,r)
  | _=>none
 | _=>none
def nog:D->D
 | .optr _ v i off=>.optr 0 v i off
 | d=>d
theorem Lc {d d':D} {x:Value} (h:Ref F β d x) (hd:nog d'=nog d):Ref F β d' x:=by
 have e:∀ d:D,Ref F β (nog d) x↔Ref F β d x:=λd=>by cases d<;>rfl
 exact(e d').1 (hd▸(e d).2 h)
def Gy (Γ:Al) (np:Nat) (rs:List Az) (dc:OX) (caps:List D) (K:S->Prop):Aq->S->Prop:=λe τ =>
 match e with
 | .exit _=>False
 | _=>Wk (λτ=>∃ caps',caps'.map nog=caps.map nog/\DW Γ np rs dc caps' τ λ_ τ'=>K τ') τ
def LR (Γ Γ':Al) (f np:Nat) (rs:List Az) (dc:OX) (t:Nat) (r:OX) (K:S->Prop):Aq->S->Prop:=λ_ =>
 Wk λτ=>∃ caps,τ.ge t= .clo f caps/\DWp Γ r (Gy Γ' np rs dc caps K) τ
def Ng (Γ Γ':Al) (f np:Nat) (rs:List Az) (dc:OX) (c:List Ar×List Ar×Nat×OX) (K:S->Prop):S->Prop :=
 DWp Γ (.seq (.reg c.1 false) (.reg c.2.1 false)) (LR Γ Γ' f np rs dc c.2.2.1 c.2.2.2 K)
theorem Iu {Γ Γ':Al} (hΓ':∀ k sp,Γ' k=some sp->Ns P (k % 4096) sp) {fn fn':Func} {c:List Ar×List Ar×Nat×OX} {dc:OX} {f np:Nat} {rs:List Az} (hc:(fn.body.bind (JL P fn.ntmps))=some c)
  (hf:P.funcs[f]? =some fn') (hlt:aAC f 4096=true) (hname:(fn'.name == "runtime.NumGoroutine")=false) (hc':(fn'.body.bind (Pp P fn'.ntmps))=some dc) (hr:fn'.results.toList.mapM (UQ P)=some rs) (hnp:np<=fn'.ntmps):GB P Γ (Ng Γ Γ' f np rs dc c) fn:=by
 intro c0 F w0 M B0 σ F' β a w K R hb hG hΓ h hfr hw hK;rw[hb,Option.bind_some]at hc;obtain⟨cf,hbf,hcf⟩:=aAI.1 hc';unfold JL at hc;split at hc
 ·rename_i i0 ops0 i1 ops1 rest;split at hc
  ·rename_i o1 t args ty pos af hops;simp only[Option.bind_eq_bind,aAI]at hc;obtain⟨d0,h0,d1,h1,r,h2,he⟩:=hc;cases he;obtain⟨σ0,hchg0,hw⟩:=hw;obtain⟨F1,β1,k1,kf1⟩:=h.chg hfr hchg0;refine wp_seq (wp_region_list ?_);refine aAT ops0.toList▸BO (rest:=[]) hΓ ops0.toList 0 d0 h0 σ0 F1 β1 a w σ0.n k1 kf1 hw λτ F2 β2 a2 w2 k2 kf2 hw2=>?_
   refine wp_seq (wp_region_list ?_);rw[hops];obtain⟨σ1,hchg1,σ2,hchg2,hw2⟩:=hw2;obtain⟨F3,β3,k3,kf3⟩:=k2.chg kf2 (hchg1.trans hchg2);refine BO (rest:=[_]) hΓ [o1] 0 d1 h1 σ2 F3 β3 a2 w2 σ2.n k3 kf3 hw2 λτ4 F4 β4 a4 w4 k4 kf4 hw4=>?_
   obtain⟨τ5,hchg5,caps,hcap,hw5⟩:=hw4;obtain⟨F5,β5,k5,kf5⟩:=k4.chg kf4 hchg5;have hv:=k5.env t;rw[hcap]at hv;obtain⟨vs,hvs,hvl,hvr⟩:=hv;rw[Fq hlt]at hvs;have hbd:¬ fn'.body=none:=by simp[hbf]
   have hnm':¬ fn'.name = "runtime.NumGoroutine":=by simpa using hname
   refine wpList_step λK' hK'=>?_
   rw[if_pos (show Region.wanted _ _=true from rfl)]
   have hrun:(execOp a4.eval ⟨none,.defer ⟨.value (.tmp t),⟨[]⟩,args⟩,ty,pos,af,none⟩).run P w4= .ok (.defer ⟨.fn (.func f) vs.toArray,#[]⟩) w4:=by
    simp[execOp,resolve,Deferred.ofValue,Act.eval,hvs]
   unfold Oper.wp;rw[hrun,Oper.upon_defer];refine hK' _ _ (wpList_nil ?_);rw[k4.defers];show rest.wp P (bodyPostD P fn R) { a4 with defers:=[⟨.fn (.func f) vs.toArray,#[]⟩] } w4
   refine wp_mono (Be (λk sp h=>(hΓ k sp h).mono k5.step.sub) rest r h2 _ τ5 F5 β5 _ w4 (k5.Mm.dfr _) kf5 hw5) λe a6 w6 ⟨τ6,F6,β6,k6,kf6,k3⟩=>?_
   have fin:Wk (λτ=>∃ caps',caps'.map nog=caps.map nog/\DW Γ' np rs dc caps' τ λ_ τ'=>K τ') τ6->Leaves P fn a6.tmps R a6.defers .returning w6:=by
    rintro⟨τ7,hchg7,caps',hcp,hop⟩;have hcl:caps'.length=caps.length:=by simpa using congrArg List.length hcp
    obtain⟨F7,β7,k7,kf7⟩:=k6.chg kf6 hchg7;rw[k7.defers];refine leaves_cons (f:=f) (args:=vs.toArray) (by simp) (by simp[invoke,callFunc,hf,hnm',hbd]) ?_
    refine(callsD_of_wp hf hbf (Ju hΓ' hcf hr hnp hG k5.step.sub k7 kf7 (hcl.trans hvl) (λi d x hd hx=>?_) hop)).mono ?_
    ·have hi:i<caps.length:=hcl▸(aA.1 hd).1;have e:=congrArg (·[i]?) hcp;simp only[aAb,hd,aAD hi,Option.map_some,Option.some.injEq]at e;exact Val.Am (Cel.BZ (Lc (Ref.mono k7.step.sub k7.nam (hvr i _ x (aAD hi) hx)) e))
    ·rintro e u' w7 ⟨rfl,v,d,o',n',F8,β8,rfl,k8,kf8,_,hK8⟩;exact hK _ _ F8 β8 a6 w7 (k5.MA k8) kf8 hK8
   cases e<;>first|exact fin k3|exact k3.elim|simp_all
  ·cases hc
 ·cases hc
end
section
variable {ι R:Type} {body:ι->Option (ι⊕R)} {s:ι} {r r':R} {n m:Nat}
def AbG (body:ι->Option (ι⊕R)):Nat->ι->Option R
 | 0,_=>none
 | n+1,s=>match body s with
  | none=>none
  | some (.inr r)=>some r
  | some (.inl s')=>AbG body n s'
theorem XT:AbG body (n+1) s=match body s with
  | none=>none
  | some (.inr r)=>some r
  | some (.inl s')=>AbG body n s':=rfl
theorem Fs:∀ {n m:Nat} {s:ι},AbG body n s=some r->n<=m->AbG body m s=some r
 | 0,_,_,h,_=>by cases h
 | n+1,0,_,_,h'=>by omega
 | n+1,m+1,s,h,h'=>by
  rw[XT]at h ⊢;cases hb:body s with
  | none=>simp_all
  | some x =>
   rw[hb]at h;cases x with
   | inr y=>exact h
   | inl s'=>exact Fs h (Nat.le_of_succ_le_succ h')
theorem Jq (h:AbG body n s=some r) (h':AbG body m s=some r'):r=r':=by
 grind [Fs]
open Classical in
noncomputable def NB (body:ι->Option (ι⊕R)) (s:ι):Option R :=
 if h:∃ r,∃ n,AbG body n s=some r then some (Classical.choose h)else none
theorem Adi:NB body s=some r↔∃ n,AbG body n s=some r:=by
 unfold NB;split
 all_goals grind [Jq]
theorem Pm (body:ι->Option (ι⊕R)) (s:ι):NB body s=match body s with
  | none=>none
  | some (.inr r)=>some r
  | some (.inl s')=>NB body s':=by
 apply Option.ext;intro r;rw[Adi];cases hb:body s with
 | none =>
  simp only[reduceCtorEq,iff_false,not_exists];intro n hn;cases n with
  | zero=>cases hn
  | succ n=>grind [XT]
 | some x =>
  cases x with
  | inr y =>
   constructor
   ·rintro⟨n,hn⟩;cases n with
    | zero=>cases hn
    | succ n=>grind [XT]
   ·intro e;exact⟨1,by grind [XT]⟩
  | inl s' =>
   simp only[Adi];constructor
   ·rintro⟨n,hn⟩;cases n with
    | zero=>cases hn
    | succ n=>grind [XT]
   ·rintro⟨n,hn⟩;exact⟨n+1,by grind [XT]⟩
theorem Atq (I:ι->Prop) (P:R->Prop) (μ:ι->Nat) (h0:I s)
  (hb:∀ s,I s->(∃ s',body s=some (.inl s')/\I s'/\μ s'<μ s)\/∃ r,body s=some (.inr r)/\P r):∃ r,NB body s=some r/\P r:=by
 generalize hk:μ s=k
 induction k using Nat.strongRecOn generalizing s with
 | _ k ih =>
  grind [Pm]
end
variable {d agg:Bool} {x fa:Arg} {Γ:Al} {fn:Func} {c p:Prop} {dc:OX} {np i id ty' q bytes k j:Nat} {rs:List Az} {α H:Type} {σ:S} {ops:List Ar} {E we e e':List (Nat×D)} {O wo o':List (Nat×Aa)} {op:DOp} {cs cs' ds l:List D} {parts:List (Nat×Nat×Arg)} {ps:List (Nat×Nat×D)} {rk:List Key} {sp:Spec} {fl:List Int->List Int} {fk:List Int->Nat} {z z':D} {v:Value} {s:ChangeSpec} {a:Addr} {before:List MemPlace} {ex:Aq} {F:Fz} {laid:List (String×DataW Unit)} {nm:String}
def chk {R:Type} (p:Prop) [Decidable p] (t:Option R):Option R:=if p then t else none
def ixO {α:Type} (l:List α) (i:Int):Option α:=if i<0 then none else l[i.toNat]?
def lft {ι R:Type} (t:Option R):Option (ι⊕R):=t.map .inr
def cnt {ι R:Type} (s:ι):Option (ι⊕R):=some (.inl s)
theorem Oa {R:Type} [Decidable p] {t:Option R} (h:p):chk p t=t:=if_pos h
theorem JQ {R:Type} [Decidable p] {t:Option R} {r:R} (h:chk p t=some r):p/\t=some r:=by
 grind [chk]
theorem WK {l:List α} {i:Int} {x:α} (h:ixO l i=some x):0<=i/\i<l.length/\l[i.toNat]? =some x:=by
 grind [ixO]
section
variable {Γ:Al} {R ι γ:Type}
def Has (σ:S) (E:List (Nat×D)) (O:List (Nat×Aa)):Prop:=∃ n,Chg σ ⟨E,O,n⟩
def Tr (Γ:Al) (c:OX) (K:R->Aq->S->Prop) (σ:S) (t:Option R):Prop:=∀ r,t=some r->DWp Γ c (K r) σ
def TrX (e:Aq) (K:R->Aq->S->Prop) (σ:S) (t:Option R):Prop:=∀ r,t=some r->K r e σ
abbrev Cj:=List Key×List Key×List Nat
structure KR (R:Type) where
 N:Nat
 K:R->Aq->S->Prop
def TrO (Γ:Al) (ops:List Ar) (nv:Nat) (σ:S) (d:Bool) (acc:List Cj) (K:KR R) (t:Option R):Prop :=
 ∀ r,t=some r->(d=false->wpS Γ ops nv σ (K.K r .normal))/\(d=true->Dw.wpOps Γ ops nv σ (λτ=>K.K r .normal { τ with n:=K.N })/\DF (acc++Cv Γ ops nv σ)=true)
def EX (N:Nat) (K:R->Aq->S->Prop):KR R:=⟨N,K⟩
def GV (Γ:Al) (b:OX) (K:R->Aq->S->Prop):R->Aq->S->Prop:=λr=>Aq.then (Wk (DWp Γ b (K r))) (K r)
def EW (id:Nat) (K:R->Aq->S->Prop):R->Aq->S->Prop:=λr=>Aq.inBlock id (K r)
def GU (E:ι->γ->List (Nat×D)) (O:ι->γ->List (Nat×Aa)) (j:ι->Option R) (K:R->Aq->S->Prop):R->Aq->S->Prop:=λr e τ =>
 match e with
 | .normal=>∃ s g,j s=some r/\Has τ (E s g) (O s g)
 | e=>K r e τ
def DV (id:Nat) (E:ι->γ->List (Nat×D)) (O:ι->γ->List (Nat×Aa)) (j:ι->Option R) (K:R->Aq->S->Prop):R->Aq->S->Prop:=λr e τ =>
 match e with
 | .normal=>∃ s g,j s=some r/\Has τ (E s g) (O s g)
 | .exit id'=>if id'=id then ∃ s g,j s=some r/\Has τ (E s g) (O s g)else K r (.exit id') τ
 | .ret=>K r .ret τ
def Ft (E:ι->γ->List (Nat×D)) (O:ι->γ->List (Nat×Aa)) (K:R->Aq->S->Prop):(ι⊕R)->Aq->S->Prop:=λx e τ =>
 match x,e with
 | .inl s,.normal=>∃ g,Has τ (E s g) (O s g)
 | .inl _,_=>False
 | .inr _,.normal=>False
 | .inr r,e=>K r e τ
theorem FD:∀ (ops:List Ar) (nv:Nat) (σ:S) (K K':S->Prop),(∀ τ,K τ->K' τ)->Dw.wpOps Γ ops nv σ K->Dw.wpOps Γ ops nv σ K'
 | [],_,_,_,_,hK,h=>hK _ h
 | _::ops,_,_,_,_,hK,h=>⟨h.1,FD ops _ _ _ _ hK h.2⟩
theorem Wk.mono {f g:S->Prop} (h:∀ τ,f τ->g τ):Wk f σ->Wk g σ:=λ⟨τ,h1,h2⟩=>⟨τ,h1,h τ h2⟩
theorem IX {o:Ar} {K K':S->Prop} (hK:∀ τ,K τ->K' τ):FE Γ o σ K->FE Γ o σ K':=by
 rintro⟨h1,fa,args,f,caps,sp,φ,K0,h2,h⟩;exact⟨h1,fa,args,f,caps,sp,φ,K0,λτ hτ=>hK τ (h2 τ hτ),h⟩
theorem Fi:∀ (ops:List Ar) (nv:Nat) (σ:S) (K K':S->Prop),(∀ τ,K τ->K' τ)->wpS Γ ops nv σ K->wpS Γ ops nv σ K'
 | [],_,_,_,_,hK,h=>hK _ h
 | _::ops,_,_,_,_,hK,h=>h.imp (λh=>⟨h.1,Fi ops _ _ _ _ hK h.2⟩) (Wk.mono λ_=>IX λ_ ⟨τ,h1,h2⟩=>⟨τ,h1,Fi ops _ _ _ _ hK h2⟩)
theorem AG:∀ (b:OX) (Q Q':Aq->S->Prop) (σ:S),(∀ e τ,Q e τ->Q' e τ)->DWp Γ b Q σ->DWp Γ b Q' σ
 | .skip,_,_,_,h,hd=>h _ _ hd
 | .ret,_,_,_,h,hd=>h _ _ hd
 | .exit _,_,_,_,h,hd=>h _ _ hd
 | .reg ops d,_,_,_,h,hd=>Wk.mono (λτ hq=>by
   cases d with
   | true=>rw[if_pos rfl]at hq ⊢;grind [FD]
   | false=>rw[if_neg (by simp)]at hq ⊢;grind [Fi]) hd
 | .seq a b,Q,Q',σ,h,hd=>AG a _ _ σ (λe τ hq=>by
   cases e with
   | normal=>exact Wk.mono (λτ' h'=>AG b _ _ τ' h h') hq
   | exit id=>exact h _ _ hq
   | ret=>exact h _ _ hq) hd
 | .cond c a b,Q,Q',σ,h,hd=>by
  simp only[DWp]at hd ⊢;generalize CJ σ c=d at *;cases d<;>try exact hd.elim
  exact⟨λht=>AG a _ _ σ h (hd.1 ht),λht=>AG b _ _ σ h (hd.2 ht)⟩
 | .block id b,Q,Q',σ,h,hd=>AG b _ _ σ (λe τ hq=>by
   cases e with
   | normal=>exact h _ _ hq
   | ret=>exact h _ _ hq
   | exit id' =>
    simp only[Aq.inBlock]at hq ⊢;split
    ·rename_i e;rw[if_pos e]at hq;grind [Wk.mono]
    simp_all) hd
 | .loop b,Q,Q',σ,h,⟨ι,St,μ,i₀,h1,h2⟩=>⟨ι,St,μ,i₀,h1,λi=>AG b _ _ _ (λe τ hq=>by
   cases e with
   | normal=>exact hq
   | exit id=>exact h _ _ hq
   | ret=>exact h _ _ hq) (h2 i)⟩
variable {K:R->Aq->S->Prop} {t t1 t2:Option R} {e:List (Nat×D)} {o:List (Nat×Aa)} {n N nv:Nat} {σ τ:S} {a b:OX}
theorem Mw (h:TrO Γ ops n ⟨e,o,n⟩ d [] (EX (n+ops.length) K) t):Tr Γ (.reg ops d) K ⟨e,o,n⟩ t :=
 λr hr=>⟨_,.refl _,by
  cases d with
  | true=>rw[if_pos rfl];exact(h r hr).2 rfl
  | false=>rw[if_neg (by simp)];exact(h r hr).1 rfl⟩
theorem Aez (hh:Has ⟨e,o,n⟩ E O) (h:∀ n,TrO Γ ops n ⟨E,O,n⟩ d [] (EX (n+ops.length) K) t):Tr Γ (.reg ops d) K ⟨e,o,n⟩ t :=
 λr hr=>hh.elim λm hh=>⟨_,hh,by
  cases d with
  | true=>rw[if_pos rfl];exact(h m r hr).2 rfl
  | false=>rw[if_neg (by simp)];exact(h m r hr).1 rfl⟩
theorem LF {acc:List Cj} (h:TrX .normal K ⟨e,o,nv⟩ t):TrO Γ [] nv ⟨e,o,n⟩ false acc (EX N K) t :=
 λr hr=>⟨λ_=>h r hr,λhd=>by cases hd⟩
theorem Hk {acc:List Cj} (ha:DF acc=true) (h:TrX .normal K ⟨e,o,N⟩ t):TrO Γ [] nv ⟨e,o,n⟩ true acc (EX N K) t :=
 λr hr=>⟨λhd=>(by cases hd),λ_=>⟨h r hr,by grind [Cv]⟩⟩
def TrE (Γ:Al) (c:OX) (K:R->Aq->S->Prop) (σ:S) (t:Option R):Prop:=∀ r,t=some r->Wk (DWp Γ c (K r)) σ
theorem Mv (h:Tr Γ a K σ t):TrE Γ a K σ t:=λr hr=>⟨_,.refl _,h r hr⟩
theorem My (h:Tr Γ a (GV Γ b K) σ t):Tr Γ (.seq a b) K σ t:=h
theorem LH (h:Tr Γ b K τ t):TrX .normal (GV Γ b K) τ t:=λr hr=>⟨_,.refl _,h r hr⟩
theorem Qc (hh:Has τ E O) (h:∀ n,Tr Γ b K ⟨E,O,n⟩ t):TrX .normal (GV Γ b K) τ t :=
 λr hr=>hh.elim λn hh=>⟨_,hh,h n r hr⟩
theorem Hq (h:TrX (.exit id) K τ t):TrX (.exit id) (GV Γ b K) τ t:=h
theorem HH (h:TrX .ret K τ t):TrX .ret (GV Γ b K) τ t:=h
theorem Kn (h:Tr Γ b (EW id K) σ t):Tr Γ (.block id b) K σ t:=h
theorem FT (h:TrX .normal K τ t):TrX .normal (EW id K) τ t:=h
theorem HF (h:TrX .ret K τ t):TrX .ret (EW id K) τ t:=h
theorem Hn (h:TrX .normal K τ t):TrX (.exit id) (EW id K) τ t :=
 λr hr=>by
  show(if id=id then Wk (K r .normal) τ else K r (.exit id) τ)
  rw[if_pos rfl];exact⟨_,.refl _,h r hr⟩
theorem Hm {id':Nat} (hne:aAL id' id=false) (h:TrX (.exit id') K τ t):TrX (.exit id') (EW id K) τ t :=
 λr hr=>by
  show(if id'=id then Wk (K r .normal) τ else K r (.exit id') τ)
  rw[if_neg (λe=>by simp_all)]
  exact h r hr
theorem LJ (h:TrX .normal K σ t):Tr Γ .skip K σ t:=h
theorem Mx (h:TrX .ret K σ t):Tr Γ .ret K σ t:=h
theorem LI (h:TrX (.exit id) K σ t):Tr Γ (.exit id) K σ t:=h
def AK {α:Type}:List (Nat×α)->Nat->Option α
 | [],_=>none
 | (k,x)::r,t=>bif aAL t k then some x else AK r t
theorem Bz {α:Type}:∀ (l:List (Nat×α)) (t:Nat),AK l t=look l t
 | [],_=>rfl
 | (k,x)::r,t=>by
  simp only[AK,look,Bz r t];simp_all
def Ae (e:List (Nat×D)):Arg->Option D
 | .t n=>AK e n
 | .c d=>some d
theorem Vs {c:Bool} (hx:Ae e x=some (.bool c)) (h1:Tr Γ a K ⟨e,o,n⟩ t1) (h2:Tr Γ b K ⟨e,o,n⟩ t2):Tr Γ (.cond x a b) K ⟨e,o,n⟩ (bif c then t1 else t2):=by
 intro r hr;have hv:CJ ⟨e,o,n⟩ x= .bool c:=by cases x<;>simp_all[Ae,CJ,S.ge,Bz]
 simp only[DWp,hv];cases c with
 | true=>exact⟨λ_=>h1 r hr,λh=>by cases h⟩
 | false=>exact⟨λh=>(by cases h),λ_=>h2 r hr⟩
theorem Hr (hx:Ae e x=some (.bool true)) (h1:Tr Γ a K ⟨e,o,n⟩ t):Tr Γ (.cond x a b) K ⟨e,o,n⟩ t:=by
 intro r hr;have hv:CJ ⟨e,o,n⟩ x= .bool true:=by cases x<;>simp_all[Ae,CJ,S.ge,Bz]
 simp only[DWp,hv];exact⟨λ_=>h1 r hr,λh=>(by cases h)⟩
theorem Gv (hx:Ae e x=some (.bool false)) (h1:Tr Γ b K ⟨e,o,n⟩ t):Tr Γ (.cond x a b) K ⟨e,o,n⟩ t:=by
 intro r hr;have hv:CJ ⟨e,o,n⟩ x= .bool false:=by cases x<;>simp_all[Ae,CJ,S.ge,Bz]
 simp only[DWp,hv];exact⟨λh=>(by cases h),λ_=>h1 r hr⟩
variable {E:ι->γ->List (Nat×D)} {O:ι->γ->List (Nat×Aa)} {j:ι->Option R}
theorem Vg (h1:Tr Γ a (GU E O j K) σ t) (h2:∀ s g n,Tr Γ b K ⟨E s g,O s g,n⟩ (j s)):Tr Γ (.seq a b) K σ t:=by
 intro r hr;refine AG a _ _ σ (λe τ hq=>?_) (h1 r hr)
 cases e with
 | normal =>
  obtain⟨s,g,hj,m,hw⟩:=hq;exact⟨_,hw,h2 s g _ r hj⟩
 | exit id=>exact hq
 | ret=>exact hq
theorem YA {s:ι} (g:γ) (h:Has τ (E s g) (O s g)):TrX .normal (GU E O j K) τ (j s):=λ_ hr=>⟨s,g,hr,h⟩
theorem Ho (h:TrX (.exit id) K τ t):TrX (.exit id) (GU E O j K) τ t:=h
theorem HG (h:TrX .ret K τ t):TrX .ret (GU E O j K) τ t:=h
theorem SG {c:OX} (h1:Tr Γ b (DV id E O j K) σ t) (h2:∀ s g n,Tr Γ c K ⟨E s g,O s g,n⟩ (j s)):Tr Γ (.seq (.block id b) c) K σ t:=by
 intro r hr;refine AG b _ _ σ (λe τ hq=>?_) (h1 r hr)
 cases e with
 | normal =>
  obtain⟨s,g,hj,m,hw⟩:=hq;exact⟨_,hw,h2 s g _ r hj⟩
 | exit id' =>
  simp only[DV]at hq;simp only[Aq.inBlock];split
  ·rename_i e;rw[if_pos e]at hq;obtain⟨s,g,hj,m,hw⟩:=hq;exact⟨_,hw,_,.refl _,h2 s g _ r hj⟩
  ·rename_i e;rw[if_neg e]at hq;exact hq
 | ret=>exact hq
theorem Uz {s:ι} (g:γ) (h:Has τ (E s g) (O s g)):TrX .normal (DV id E O j K) τ (j s):=λ_ hr=>⟨s,g,hr,h⟩
theorem Gt {s:ι} (g:γ) (h:Has τ (E s g) (O s g)):TrX (.exit id) (DV id E O j K) τ (j s):=λr hr=>by
 show(if id=id then _ else _)
 grind
theorem Hl (h:TrX .ret K τ t):TrX .ret (DV id E O j K) τ t:=h
theorem UF {s:ι} (g:γ) (h:Has τ (E s g) (O s g)):TrX .normal (Ft E O K) τ (cnt s):=λr hr=>by
 cases hr;exact⟨g,h⟩
theorem Gu (h:TrX (.exit id) K τ t):TrX (.exit id) (Ft E O K) τ (lft t):=λr hr=>by
 cases t with
 | none=>cases hr
 | some x=>cases hr;exact h x rfl
theorem Hp (h:TrX .ret K τ t):TrX .ret (Ft E O K) τ (lft t):=λr hr=>by
 cases t with
 | none=>cases hr
 | some x=>cases hr;exact h x rfl
theorem XG {body:ι->Option (ι⊕R)} {s:ι} (g:γ) (h0:Has ⟨e,o,n⟩ (E s g) (O s g)) (hb:∀ s g n,Tr Γ b (Ft E O K) ⟨E s g,O s g,n⟩ (body s)):Tr Γ (.loop b) K ⟨e,o,n⟩ (NB body s):=by
 intro r hr;obtain⟨k,hk⟩:=Adi.1 hr;refine⟨{ x:(ι×γ×Nat)×Nat // AbG body x.2 x.1.1=some r },λx=>⟨E x.1.1.1 x.1.1.2.1,O x.1.1.1 x.1.1.2.1,x.1.1.2.2⟩,λx=>x.1.2,⟨((s,g,h0.choose),k),hk⟩,h0.choose_spec,?_⟩
 rintro⟨⟨⟨s,g,n⟩,k⟩,hk⟩;simp only at hk;cases k with
 | zero=>cases hk
 | succ k =>
  rw[XT]at hk;cases hx:body s with
  | none=>simp_all
  | some x =>
   rw[hx]at hk;refine AG b _ _ _ (λe τ hq=>?_) (hb s g n x hx)
   cases x with
   | inr r' =>
    cases hk;cases e with
    | normal=>exact hq.elim
    | exit id=>exact hq
    | ret=>exact hq
   | inl s' =>
    cases e with
    | normal =>
     obtain⟨g',m,hw⟩:=hq;exact⟨⟨((s',g',m),k),hk⟩,Nat.lt_succ_self _,hw⟩
    | exit id=>exact hq.elim
    | ret=>exact hq.elim
end
def rdK:Arg->List Key
 | .t n=>[.e n]
 | .c _=>[]
def lkO (o:List (Nat×Aa)) (g:Nat):Aa:=(AK o g).getD none
def gOn (e:List (Nat×D)):Option (Nat×Bool)->Bool
 | none=>true
 | some (t,want)=>match (AK e t).getD .top with
  | .bool b=>b==want
  | .when p (.bool b)=>p&&(b==want)
  | _=>false
def LW (e:List (Nat×D)):Option (Nat×Bool)->Bool
 | none=>false
 | some (t,want)=>match (AK e t).getD .top with
  | .bool b=>!(b==want)
  | .when p (.bool b)=>!(p&&(b==want))
  | _=>false
def gK:Option (Nat×Bool)->List Key
 | none=>[]
 | some (t,_)=>[.e t]
section
variable {Γ:Al} {X:Type} {K:KR X} {t t1 t2:Option X} {e:List (Nat×D)} {o:List (Nat×Aa)} {n nv:Nat} {d:Bool} {acc:List Cj}
 {r:List Ar} {dst:Nat} {g:Option (Nat×Bool)} {af:List Nat} {α:Type}
@[simp] theorem BP (x:Arg):(raw x).run ⟨e,o,n⟩=(Ae e x).getD .top:=by cases x<;>simp[raw,Ae,Bz,S.ge]
@[simp] theorem Hb (x:Arg):(raw x).rd ⟨e,o,n⟩=rdK x:=by cases x<;>rfl
@[simp] theorem BV (i:Nat):(S.mk e o n).go i=lkO o i:=by simp[S.go,lkO,Bz]
@[simp] theorem BM (x:Arg):(rdA x).run ⟨e,o,n⟩=strip ((Ae e x).getD .top):=by simp[rdA]
@[simp] theorem HX (x:Arg):(rdA x).rd ⟨e,o,n⟩=rdK x:=by simp[rdA]
theorem QN {m:Option α} {k:α->Option X} (h:∀ x,m=some x->TrO Γ ops nv σ d acc K (k x)):TrO Γ ops nv σ d acc K (m.bind k):=by
 intro r hr;obtain⟨x,hx,hk⟩:=aAI.1 hr;exact h x hx r hk
theorem QW [Decidable p] (h:p->TrO Γ ops nv σ d acc K t):TrO Γ ops nv σ d acc K (chk p t):=by
 intro r hr;obtain⟨hp,ht⟩:=JQ hr;exact h hp r ht
theorem As {dst:Option Nat} {rd:List Key} (hg:gOn e g=true) (hu:(evalOp Γ nv dst op).run ⟨e,o,n⟩=⟨c,we,wo⟩) (hrd:(evalOp Γ nv dst op).rd ⟨e,o,n⟩=rd) (hc:c) (h:TrO Γ r (nv+1) ⟨we++e,wo++o,n⟩ d (acc++[(gK g++rd,we.map (λx=>.e x.1)++wo.map (λx=>.o x.1),af)]) K t) :
  TrO Γ (⟨dst,op,g,af⟩::r) nv ⟨e,o,n⟩ d acc K t:=by
 intro x hx;obtain⟨h1,h2⟩:=h x hx;have key:((At Γ nv ⟨dst,op,g,af⟩).run ⟨e,o,n⟩).c/\((At Γ nv ⟨dst,op,g,af⟩).run ⟨e,o,n⟩).we=we/\((At Γ nv ⟨dst,op,g,af⟩).run ⟨e,o,n⟩).wo=wo /\
   (At Γ nv ⟨dst,op,g,af⟩).rd ⟨e,o,n⟩=gK g++rd:=by
  cases g with
  | none =>
   simp_all[At,gK]
  | some p =>
   obtain⟨tt,want⟩:=p;have hg2:(guardOf ((S.mk e o n).ge tt) want).2=true/\(guardOf ((S.mk e o n).ge tt) want).1:=by
    grind [gOn,Bz,S.ge,guardOf]
   simp only[At,R.Jz,R.Nc,hg2.1,if_true,R.run_bind,R.CZ,R.run_pure,R.FO,hu,hrd,gK];simp_all
 obtain⟨k1,k2,k3,k4⟩:=key;have happ:(S.mk e o n).app ((At Γ nv ⟨dst,op,g,af⟩).run ⟨e,o,n⟩)=⟨we++e,wo++o,n⟩:=by grind [S.app]
 refine⟨λhd=>.inl ⟨k1,by simp_all⟩,λhd=>⟨⟨k1,by simp_all⟩,?_⟩⟩
 grind [Cv]
theorem LG (hg:LW e g=true) (h:TrO Γ r (nv+1) ⟨(dst,.when false (.bool false))::e,o,n⟩ d (acc++[(gK g,[.e dst],af)]) K t):TrO Γ (⟨some dst,op,g,af⟩::r) nv ⟨e,o,n⟩ d acc K t:=by
 intro x hx;obtain⟨h1,h2⟩:=h x hx;cases g with
 | none=>cases hg
 | some p =>
  obtain⟨tt,want⟩:=p;have hg2:(guardOf ((S.mk e o n).ge tt) want).2=false/\(guardOf ((S.mk e o n).ge tt) want).1:=by
   grind [LW,Bz,S.ge,guardOf]
  have hu:(At Γ nv ⟨some dst,op,some (tt,want),af⟩).run ⟨e,o,n⟩=⟨(guardOf ((S.mk e o n).ge tt) want).1,[(dst,.when false (.bool false))],[]⟩:=by
   simp_all[At,Ah]
  have hr:(At Γ nv ⟨some dst,op,some (tt,want),af⟩).rd ⟨e,o,n⟩=[.e tt]:=by
   simp_all[At]
  refine⟨λhd=>.inl ⟨by simp_all,by rw[hu];exact h1 hd⟩,λhd=>⟨⟨by simp_all,by rw[hu];exact(h2 hd).1⟩,?_⟩⟩
  grind [Cv,gK,S.app]
def Dg:List (Nat×D)->Nat->D->List (Nat×D)
 | [],_,_=>[]
 | (k,y)::r,t,v=>bif aAL t k then(k,v)::r else(k,y)::Dg r t v
theorem EP:∀ {e:List (Nat×D)} {x:Nat} {v:D},AK e x=some v->Dg e x v=e
 | [],_,_,h=>by cases h
 | (k,y)::r,x,v,h=>by
  simp only[AK]at h;simp only[Dg];cases hb:aAL x k with
  | true =>
   simp_all
  | false =>
   rw[hb]at h;simp only[cond_false]at h ⊢;rw[EP h]
theorem JF (x:Nat) {b:Bool} (hx:AK e x=some (.bool b)) (h1:TrO Γ ops nv ⟨Dg e x (.bool true),o,n⟩ d acc K t1) (h2:TrO Γ ops nv ⟨Dg e x (.bool false),o,n⟩ d acc K t2) :
  TrO Γ ops nv ⟨e,o,n⟩ d acc K (bif b then t1 else t2):=by
 grind [EP]
variable {x y:Arg} {v w:D} {k k':IntKind} {a b:Int} {s ty gi vi ii off m:Nat} {fz var:Bool} {es:List D} {z z':D} {l l':List α} {en:α->D}
attribute [local simp] evalOp Ah AP BC strip On
theorem DY (p q u w:Nat):strip (.optr p q u w)=(true,.optr p q u w):=rfl
theorem Mt (hg:gOn e g=true) (hx:Ae e x=some v) (h:TrO Γ r (nv+1) ⟨(dst,v)::e,o,n⟩ d (acc++[(gK g++rdK x,[.e dst],af)]) K t) :
  TrO Γ (⟨some dst,.mv x,g,af⟩::r) nv ⟨e,o,n⟩ d acc K t :=
 As hg (c:=True) (we:=[(dst,v)]) (wo:=[]) (rd:=rdK x) (by simp[hx]) (by simp) trivial h
theorem Ls (hg:gOn e g=true) (hx:Ae e x=some v) (h:TrO Γ r (nv+1) ⟨(dst,v)::e,o,n⟩ d (acc++[(gK g++rdK x,[.e dst],af)]) K t) :
  TrO Γ (⟨some dst,.asg x none,g,af⟩::r) nv ⟨e,o,n⟩ d acc K t :=
 As hg (c:=True) (we:=[(dst,v)]) (wo:=[]) (rd:=rdK x) (by simp_all) (by simp_all) trivial h
theorem HC (hg:gOn e g=true) (en:α->D) (hx:Ae e x=some .nils) (h:TrO Γ r (nv+1) ⟨(dst,.osl dst nv 0 ([]:List α).length)::e,(dst,some (nv,⟨false,false,s,ty,([]:List α).map en⟩))::o,n⟩ d (acc++[(gK g++rdK x,[.e dst,.o dst],af)]) K t) :
  TrO Γ (⟨some dst,.asg x (some (s,ty)),g,af⟩::r) nv ⟨e,o,n⟩ d acc K t :=
 As hg (c:=True) (we:=[(dst,.osl dst nv 0 0)]) (wo:=[(dst,some (nv,⟨false,false,s,ty,[]⟩))]) (rd:=rdK x) (by simp[hx]) (by simp[hx]) trivial h
theorem IQ (hg:gOn e g=true) (hx:Ae e x=some (.sl es)) (h:TrO Γ r (nv+1) ⟨(dst,.sl es)::e,o,n⟩ d (acc++[(gK g++rdK x,[.e dst],af)]) K t) :
  TrO Γ (⟨some dst,.asg x (some (s,ty)),g,af⟩::r) nv ⟨e,o,n⟩ d acc K t :=
 As hg (c:=True) (we:=[(dst,.sl es)]) (wo:=[]) (rd:=rdK x) (by simp[hx]) (by simp[hx]) trivial h
theorem HD {s':Nat} (hq:q=l.length) (hg:gOn e g=true) (hx:Ae e x=some (.osl gi vi 0 q)) (ho:lkO o gi=some (vi,⟨false,false,s,ty,l.map en⟩)) (h:TrO Γ r (nv+1) ⟨(dst,.osl dst nv 0 l.length)::e,(dst,some (nv,⟨false,false,s,ty,l.map en⟩))::(gi,none)::o,n⟩ d (acc++[(gK g++(rdK x++[.o gi]),[.e dst,.o dst,.o gi],af)]) K t) (hrg:Ad gi=false:=by rfl) :
  TrO Γ (⟨some dst,.asg x (some (s',ty')),g,af⟩::r) nv ⟨e,o,n⟩ d acc K t :=
 As hg (c:=True) (we:=[(dst,.osl dst nv 0 l.length)]) (wo:=[(dst,some (nv,⟨false,false,s,ty,l.map en⟩)),(gi,none)]) (rd:=rdK x++[Key.o gi]) (by simp_all[nmR,Dx,aAE]) (by simp_all) trivial h
theorem HB {s':Nat} (hg:gOn e g=true) (hx:Ae e x=some (.osl gi vi 0 q)) (ho:lkO o gi=some (vi,⟨false,false,s,ty,l.map en⟩)) (hq:q<=l.length) (h:TrO Γ r (nv+1) ⟨(dst,.osl dst nv 0 (l.take q).length)::e,(dst,some (nv,⟨false,false,s,ty,(l.take q).map en⟩))::(gi,none)::o,n⟩ d (acc++[(gK g++(rdK x++[.o gi]),[.e dst,.o dst,.o gi],af)]) K t) (hrg:Ad gi=false:=by rfl) :
  TrO Γ (⟨some dst,.asg x (some (s',ty')),g,af⟩::r) nv ⟨e,o,n⟩ d acc K t :=
 As hg (c:=True) (we:=[(dst,.osl dst nv 0 (l.take q).length)]) (wo:=[(dst,some (nv,⟨false,false,s,ty,(l.take q).map en⟩)),(gi,none)]) (rd:=rdK x++[Key.o gi]) (by simp_all[nmR,Dx]) (by simp_all) trivial h
def isB:Option D->Bool
 | some (.bool _)=>true
 | some (.when _ (.bool _))=>true
 | _=>false
theorem Jp {x:Option D} (h:isB x=true):∃ (p q:Bool),strip (x.getD .top)=(p,.bool q):=by
 unfold isB at h;split at h
 all_goals simp_all
theorem Gr {c:Arg} {p:Bool} (hg:gOn e g=true) (hc:Ae e c=some (.bool true)) (hx:Ae e x=some (.bool p)) (hy:isB (Ae e y)=true)
  (h:TrO Γ r (nv+1) ⟨(dst,.bool p)::e,o,n⟩ d (acc++[(gK g++(rdK c++(rdK x++rdK y)),[.e dst],af)]) K t) :
  TrO Γ (⟨some dst,.pick c x y,g,af⟩::r) nv ⟨e,o,n⟩ d acc K t:=by
 obtain⟨b1,q,hq'⟩:=Jp hy;refine As hg (c:=True) (we:=[(dst,.bool p)]) (wo:=[]) (rd:=rdK c++(rdK x++rdK y)) ?_ ?_ trivial h
 ·simp_all
 simp_all
theorem FR {c:Arg} {p:Bool} (hg:gOn e g=true) (hc:Ae e c=some (.bool false)) (hx:isB (Ae e x)=true) (hy:Ae e y=some (.bool p))
  (h:TrO Γ r (nv+1) ⟨(dst,.bool p)::e,o,n⟩ d (acc++[(gK g++(rdK c++(rdK x++rdK y)),[.e dst],af)]) K t) :
  TrO Γ (⟨some dst,.pick c x y,g,af⟩::r) nv ⟨e,o,n⟩ d acc K t:=by
 obtain⟨b1,q,hq'⟩:=Jp hx;refine As hg (c:=True) (we:=[(dst,.bool p)]) (wo:=[]) (rd:=rdK c++(rdK x++rdK y)) ?_ ?_ trivial h
 ·simp_all
 simp_all
theorem LD (hg:gOn e g=true) (h:TrO Γ r (nv+1) ⟨(dst,.optr dst nv 0 0)::e,(dst,some (nv,⟨false,true,s,ty,[z]⟩))::o,n⟩ d (acc++[(gK g++[],[.e dst,.o dst],af)]) K t) :
  TrO Γ (⟨some dst,.new z s ty,g,af⟩::r) nv ⟨e,o,n⟩ d acc K t :=
 As hg (c:=True) (we:=[(dst,.optr dst nv 0 0)]) (wo:=[(dst,some (nv,⟨false,true,s,ty,[z]⟩))]) (rd:=[]) (by simp) (by simp) trivial h
theorem Lu (hg:gOn e g=true) (hx:Ae e x=some v) (hw:strip v=(true,v)) (hk:known v=true) (hl:(cells v).length=s)
  (h:TrO Γ r (nv+1) ⟨(dst,.optr dst nv 0 0)::e,(dst,some (nv,⟨false,true,s,ty,[v]⟩))::o,n⟩ d (acc++[(gK g++rdK x,[.e dst,.o dst],af)]) K t) :
  TrO Γ (⟨some dst,.box x s ty,g,af⟩::r) nv ⟨e,o,n⟩ d acc K t :=
 As hg (c:=True) (we:=[(dst,.optr dst nv 0 0)]) (wo:=[(dst,some (nv,⟨false,true,s,ty,[v]⟩))]) (rd:=rdK x) (by simp_all) (by simp) trivial h
def Ca (e:List (Nat×D)):List (Nat×Nat×Arg)->List (Nat×Nat×D)
 | []=>[]
 | (a,b,x)::r=>(a,b,(Ae e x).getD .top)::Ca e r
def CH:List (Nat×Nat×Arg)->List Key
 | []=>[]
 | (_,_,x)::r=>rdK x++CH r
def DI:Nat->List (Nat×Nat×D)->Bool
 | _,[]=>true
 | n,(off,s,d)::r=>known d&&(aAL (cells d).length s&&(aAH (off+s) n&&DI n r))
theorem Fp:∀ {n:Nat} {l:List (Nat×Nat×D)},DI n l=true->DH n l
 | _,[],_=>trivial
 | n,(off,s,d)::r,h=>by
  simp only[DI,Bool.and_eq_true]at h;exact⟨h.1,aAS h.2.1,aAA h.2.2.1,Fp h.2.2.2⟩
theorem EO:∀ parts:List (Nat×Nat×Arg),(BQ parts).run ⟨e,o,n⟩=Ca e parts
 | []=>rfl
 | (a,b,x)::r=>by simp[BQ,Ca,EO r]
theorem FA:∀ parts:List (Nat×Nat×Arg),(BQ parts).rd ⟨e,o,n⟩=CH parts
 | []=>rfl
 | (a,b,x)::r=>by simp[BQ,CH,FA r]
theorem Lt {zs:List D} (hg:gOn e g=true) (hp:Ca e parts=ps) (hf:DI zs.length ps=true) (hz:DR zs ps=cs) (h:TrO Γ r (nv+1) ⟨(dst,.agg cs)::e,o,n⟩ d (acc++[(gK g++CH parts,[.e dst],af)]) K t) :
  TrO Γ (⟨some dst,.bld zs parts,g,af⟩::r) nv ⟨e,o,n⟩ d acc K t :=
 As hg (c:=DH zs.length ps) (we:=[(dst,.agg cs)]) (wo:=[]) (rd:=CH parts) (by simp_all[EO]) (by simp[FA]) (Fp hf) h
def GM (s len:Nat) (ps:List (Nat×D)):Bool:=ps.all λp=>known p.2&&(aAL (cells p.2).length s&&aAC p.1 len)
theorem Ya {len:Nat} {parts:List (Nat×Arg)} {ps:List (Nat×D)} (l:List α) (en:α->D) (hg:gOn e g=true) (hr:(AR parts).run ⟨e,o,n⟩=(c,ps,wo)) (hk:(AR parts).rd ⟨e,o,n⟩=rk) (hc:c) (hp:GM s len ps=true) (hes:YJ (aAF len z) ps=l.map en) (hlen:l.length=len) (h:TrO Γ r (nv+1) ⟨(dst,.osl dst nv 0 l.length)::e,(dst,some (nv,⟨false,false,s,ty,l.map en⟩))::(wo++o),n⟩ d (acc++[(gK g++rk,[.e dst,.o dst]++wo.map (λx=>.o x.1),af)]) K t) :
  TrO Γ (⟨some dst,.bldS s ty z len parts,g,af⟩::r) nv ⟨e,o,n⟩ d acc K t:=by
 have h1:∀ p∈ps,known p.2=true/\(cells p.2).length=s/\p.1<len:=by
  intro p hp';have:=List.all_eq_true.1 hp p hp';simp_all
 subst hlen;exact As hg (c:=c/\∀ p∈ps,known p.2=true/\(cells p.2).length=s/\p.1<l.length) (we:=[(dst,.osl dst nv 0 l.length)]) (wo:=(dst,some (nv,⟨false,false,s,ty,l.map en⟩))::wo) (rd:=rk) (by simp_all) (by simp[hk]) ⟨hc,h1⟩ (by simp_all)
theorem CY {q:α} (h:l[i]? =some q):(l.map en)[i]? =some (en q):=by simp[h]
theorem Aey (hg:gOn e g=true) (hx:Ae e x=some (.optr gi vi i off)) (ho:lkO o gi=some (vi,⟨fz,var,s,ty,es⟩)) (hz:es[i]? =some z) (hb:aAH (off+m) (cells z).length=true) (hv:Oj (cells z) off m agg=v) (h:TrO Γ r (nv+1) ⟨(dst,v)::e,o,n⟩ d (acc++[(gK g++(rdK x++[.o gi]),[.e dst],af)]) K t) (hpl:(plain v|| !Ad gi)=true:=by rfl) :
  TrO Γ (⟨some dst,.ld m agg x,g,af⟩::r) nv ⟨e,o,n⟩ d acc K t:=by
 obtain⟨hi,rfl⟩:=aA.1 hz;have hb':=aAA hb;have hgd:es.getD i .top=es[i]:=by simp[hi]
 refine As hg (c:=True) (we:=[(dst,v)]) (wo:=[]) (rd:=rdK x++[Key.o gi]) ?_ ?_ trivial h
 ·simp only[evalOp,R.run_bind,BM,aAB,hx,strip,R.Cy,BV,ho,Ah,hgd,hv];cases hrg:Ad gi with
  | false=>simp_all
  | true=>cases v<;>first|(simp[hi,hb'];done)|(rw[hrg]at hpl;cases hpl)
 ·simp only[evalOp,R.CZ,BM,HX,aAB,hx,strip,R.IF,BV,ho,hgd,hv];cases hrg:Ad gi with
  | false=>simp
  | true=>cases v<;>first|(simp;done)|(rw[hrg]at hpl;cases hpl)
theorem DZ (hg:gOn e g=true) (hx:Ae e x=some (.fptr z off)) (hb:aAH (off+m) (cells z).length=true) (hv:Oj (cells z) off m agg=v) (h:TrO Γ r (nv+1) ⟨(dst,v)::e,o,n⟩ d (acc++[(gK g++rdK x,[.e dst],af)]) K t) :
  TrO Γ (⟨some dst,.ld m agg x,g,af⟩::r) nv ⟨e,o,n⟩ d acc K t:=by
 have hb':=aAA hb;refine As hg (c:=True) (we:=[(dst,v)]) (wo:=[]) (rd:=rdK x) ?_ ?_ trivial h
 all_goals simp_all
theorem Vf (hg:gOn e g=true) (hx:Ae e x=some (.optr gi vi 0 off)) (hy:Ae e y=some v) (hw:strip v=(true,v)) (ho:lkO o gi=some (vi,⟨false,true,s,ty,[z]⟩)) (hk:known v=true) (hl:(cells v).length=m)
  (hb:aAH (off+m) (cells z).length=true) (hz:Ps z off (cells v)=z')
  (h:TrO Γ r (nv+1) ⟨e,(gi,some (vi,⟨false,true,s,ty,[z']⟩))::o,n⟩ d (acc++[(gK g++(rdK x++(rdK y++[.o gi])),[.o gi],af)]) K t) (hrg:Ad gi=false:=by rfl) :
  TrO Γ (⟨none,.st m x y,g,af⟩::r) nv ⟨e,o,n⟩ d acc K t:=by
 have hb':=aAA hb;refine As hg (c:=True) (we:=[]) (wo:=[(gi,some (vi,⟨false,true,s,ty,[z']⟩))]) (rd:=rdK x++(rdK y++[Key.o gi])) ?_ ?_ trivial h
 ·simp_all
 simp_all
theorem WQ {q q':α} {v':D} (hg:gOn e g=true) (hx:Ae e x=some (.optr gi vi i off)) (hy:Ae e y=some v) (hw:strip v=(true,v)) (ho:lkO o gi=some (vi,⟨false,false,s,ty,l.map en⟩)) (hr:(res v).run ⟨e,o,n⟩=(c,v',wo)) (hrd:(res v).rd ⟨e,o,n⟩=rk) (hc:c) (hi:l[i]? =some q) (hk:known v'=true) (hl:(cells v').length=m) (hb:aAH (off+m) (cells (en q)).length=true) (hz:Ps (en q) off (cells v')=en q') (hwo:wo.all (λx=>x.1 != gi)=true) (h:TrO Γ r (nv+1) ⟨e,(gi,some (vi,⟨false,false,s,ty,(l.set i q').map en⟩))::(wo++o),n⟩ d (acc++[(gK g++(rdK x++(rdK y++(.o gi::rk))),.o gi::wo.map (λx=>.o x.1),af)]) K t) (hrg:Ad gi=false:=by rfl) :
  TrO Γ (⟨none,.st m x y,g,af⟩::r) nv ⟨e,o,n⟩ d acc K t:=by
 have hb':=aAA hb;obtain⟨hi',rfl⟩:=aA.1 hi;refine As hg (c:=True) (we:=[]) (wo:=(gi,some (vi,⟨false,false,s,ty,(l.set i q').map en⟩))::wo) (rd:=rdK x++(rdK y++(Key.o gi::rk))) ?_ ?_ trivial (by simp_all)
 ·simp only[evalOp,R.run_bind,BM,aAB,hx,hy,hw,DY,R.Cy,BV,ho,hrg,aAQ,if_false,hr,R.run_pure]
  grind [aAj]
 simp_all
theorem JE (hg:gOn e g=true) (hx:Ae e x=some v) (hv:(match v with| .optr .. | .fptr ..=>true|_=>false)=true) (h:TrO Γ r (nv+1) ⟨(dst,v)::e,o,n⟩ d (acc++[(gK g++rdK x,[.e dst],af)]) K t) :
  TrO Γ (⟨some dst,.nilck x,g,af⟩::r) nv ⟨e,o,n⟩ d acc K t :=
 As hg (c:=True) (we:=[(dst,v)]) (wo:=[]) (rd:=rdK x) (by cases v<;>simp[hx]at hv ⊢) (by cases v<;>simp[hx]at hv ⊢) trivial h
theorem Ih {op:BinOp} (hg:gOn e g=true) (hx:Ae e x=some (.int k a)) (hy:Ae e y=some (.int k' b)) (hb:GH op (.int k a) (.int k' b)=(c,v)) (hc:c) (h:TrO Γ r (nv+1) ⟨(dst,v)::e,o,n⟩ d (acc++[(gK g++(rdK x++rdK y),[.e dst],af)]) K t) :
  TrO Γ (⟨some dst,.bin op x y,g,af⟩::r) nv ⟨e,o,n⟩ d acc K t :=
 As hg (c:=c) (we:=[(dst,v)]) (wo:=[]) (rd:=rdK x++rdK y) (by simp_all) (by simp) hc h
theorem Ii {neg p q:Bool} (hg:gOn e g=true) (hx:Ae e x=some (.bool p)) (hy:Ae e y=some (.bool q))
  (h:TrO Γ r (nv+1) ⟨(dst,.bool (if neg then !(p==q)else(p==q)))::e,o,n⟩ d (acc++[(gK g++(rdK x++rdK y),[.e dst],af)]) K t) :
  TrO Γ (⟨some dst,.eqB neg x y,g,af⟩::r) nv ⟨e,o,n⟩ d acc K t :=
 As hg (c:=True) (we:=[(dst,.bool (if neg then !(p==q)else(p==q)))]) (wo:=[]) (rd:=rdK x++rdK y) (by simp_all) (by simp_all) trivial h
theorem Lx {neg p:Bool} (hg:gOn e g=true) (hx:Ae e x=some (.agg cs)) (hy:Ae e y=some (.agg cs')) (hq:eqL cs cs'=(c,p)) (hc:c) (hn:aAL cs.length m=true) (h:TrO Γ r (nv+1) ⟨(dst,.bool (if neg then !p else p))::e,o,n⟩ d (acc++[(gK g++(rdK x++rdK y),[.e dst],af)]) K t) :
  TrO Γ (⟨some dst,.eqA m neg x y,g,af⟩::r) nv ⟨e,o,n⟩ d acc K t:=by
 have hn':=aAS hn;exact As hg (c:=True) (we:=[(dst,.bool (if neg then !p else p))]) (wo:=[]) (rd:=rdK x++rdK y) (by simp_all) (by simp_all) trivial h
theorem Mu {op:UnOp} (hg:gOn e g=true) (hx:Ae e x=some v) (hw:strip v=(true,v)) (hb:unD op v=(c,w)) (hc:c) (h:TrO Γ r (nv+1) ⟨(dst,w)::e,o,n⟩ d (acc++[(gK g++rdK x,[.e dst],af)]) K t) :
  TrO Γ (⟨some dst,.un op x,g,af⟩::r) nv ⟨e,o,n⟩ d acc K t :=
 As hg (c:=c) (we:=[(dst,w)]) (wo:=[]) (rd:=rdK x) (by simp_all) (by simp) hc h
theorem Lv (hg:gOn e g=true) (hx:Ae e x=some (.int k' a)) (h:TrO Γ r (nv+1) ⟨(dst,.int k (k.wrap a))::e,o,n⟩ d (acc++[(gK g++rdK x,[.e dst],af)]) K t) :
  TrO Γ (⟨some dst,.cvt k x,g,af⟩::r) nv ⟨e,o,n⟩ d acc K t :=
 As hg (c:=True) (we:=[(dst,.int k (k.wrap a))]) (wo:=[]) (rd:=rdK x) (by simp[hx]) (by simp[hx]) trivial h
theorem LC {q:α} (en:α->D) (hg:gOn e g=true) (hx:Ae e x=some (.int k a)) (hy:Ae e y=some (.int k' a)) (hz:z=en q) (hl:0<=a/\a<=16777216) (hby:aAH bytes 65536=true) (h:TrO Γ r (nv+1) ⟨(dst,.osl dst nv 0 (aAF a.toNat q).length)::e,(dst,some (nv,⟨false,false,s,ty,(aAF a.toNat q).map en⟩))::o,n⟩ d (acc++[(gK g++(rdK x++rdK y),[.e dst,.o dst],af)]) K t) :
  TrO Γ (⟨some dst,.mkS s ty bytes z x y,g,af⟩::r) nv ⟨e,o,n⟩ d acc K t:=by
 have:=aAA hby;subst hz;exact As hg (c:=True) (we:=[(dst,.osl dst nv 0 (aAF a.toNat q).length)]) (wo:=[(dst,some (nv,⟨false,false,s,ty,(aAF a.toNat q).map en⟩))]) (rd:=rdK x++rdK y) (by simp_all) (by simp_all) trivial h
theorem Km (hg:gOn e g=true) (hx:Ae e x=some (.optr gi vi i off)) (h:TrO Γ r (nv+1) ⟨(dst,.optr gi vi i (off+m))::e,o,n⟩ d (acc++[(gK g++rdK x,[.e dst],af)]) K t) :
  TrO Γ (⟨some dst,.fldA m x,g,af⟩::r) nv ⟨e,o,n⟩ d acc K t :=
 As hg (c:=True) (we:=[(dst,.optr gi vi i (off+m))]) (wo:=[]) (rd:=rdK x) (by simp[hx]) (by simp[hx]) trivial h
theorem IU (hg:gOn e g=true) (hx:Ae e x=some (.fptr z off)) (h:TrO Γ r (nv+1) ⟨(dst,.fptr z (off+m))::e,o,n⟩ d (acc++[(gK g++rdK x,[.e dst],af)]) K t) :
  TrO Γ (⟨some dst,.fldA m x,g,af⟩::r) nv ⟨e,o,n⟩ d acc K t :=
 As hg (c:=True) (we:=[(dst,.fptr z (off+m))]) (wo:=[]) (rd:=rdK x) (by simp[hx]) (by simp[hx]) trivial h
theorem Lz (hg:gOn e g=true) (hx:Ae e x=some (.agg cs)) (hb:aAH (off+m) cs.length=true) (hv:Oj cs off m agg=v) (h:TrO Γ r (nv+1) ⟨(dst,v)::e,o,n⟩ d (acc++[(gK g++rdK x,[.e dst],af)]) K t) :
  TrO Γ (⟨some dst,.fld off m agg x,g,af⟩::r) nv ⟨e,o,n⟩ d acc K t:=by
 have hb':=aAA hb;exact As hg (c:=True) (we:=[(dst,v)]) (wo:=[]) (rd:=rdK x) (by simp_all) (by simp[hx]) trivial h
theorem CW {q:α} (hg:gOn e g=true) (hx:Ae e x=some (.sl (l.map en))) (hy:Ae e y=some (.int k a)) (hi:ixO l a=some q) (hs:(cells (en q)).length=s)
  (h:TrO Γ r (nv+1) ⟨(dst,.fptr (en q) 0)::e,o,n⟩ d (acc++[(gK g++(rdK x++rdK y),[.e dst],af)]) K t) :
  TrO Γ (⟨some dst,.ixA s x y,g,af⟩::r) nv ⟨e,o,n⟩ d acc K t:=by
 obtain⟨h0,h1,h2⟩:=WK hi;refine As hg (c:=True) (we:=[(dst,.fptr (en q) 0)]) (wo:=[]) (rd:=rdK x++rdK y) ?_ (by simp_all) trivial h
 simp_all
theorem Yz (hq:q=l.length) (hg:gOn e g=true) (hx:Ae e x=some (.osl gi vi 0 q)) (hy:Ae e y=some (.int k a)) (ho:lkO o gi=some (vi,⟨fz,false,s,ty,l.map en⟩)) (hi:0<=a/\a<l.length) (h:TrO Γ r (nv+1) ⟨(dst,.optr gi vi a.toNat 0)::e,o,n⟩ d (acc++[(gK g++(rdK x++(rdK y++[.o gi])),[.e dst],af)]) K t) :
  TrO Γ (⟨some dst,.ixA s x y,g,af⟩::r) nv ⟨e,o,n⟩ d acc K t:=by
 subst hq;refine As hg (c:=True) (we:=[(dst,.optr gi vi a.toNat 0)]) (wo:=[]) (rd:=rdK x++(rdK y++[Key.o gi])) ?_ (by simp_all) trivial h
 simp_all
theorem Ly (hg:gOn e g=true) (hx:Ae e x=some (.tup ds)) (hi:ds[i]? =some v) (h:TrO Γ r (nv+1) ⟨(dst,v)::e,o,n⟩ d (acc++[(gK g++rdK x,[.e dst],af)]) K t) :
  TrO Γ (⟨some dst,.ext x i,g,af⟩::r) nv ⟨e,o,n⟩ d acc K t:=by
 have hl:=(aA.1 hi).1;exact As hg (c:=True) (we:=[(dst,v)]) (wo:=[]) (rd:=rdK x) (by simp_all) (by simp[hx]) trivial h
theorem IW (hg:gOn e g=true) (hx:Ae e x=some (.sl (l.map en))) (h:TrO Γ r (nv+1) ⟨(dst,.int .i64 l.length)::e,o,n⟩ d (acc++[(gK g++rdK x,[.e dst],af)]) K t) :
  TrO Γ (⟨some dst,.len false x,g,af⟩::r) nv ⟨e,o,n⟩ d acc K t :=
 As hg (c:=True) (we:=[(dst,.int .i64 l.length)]) (wo:=[]) (rd:=rdK x) (by simp[hx]) (by simp[hx]) trivial h
theorem HE (hg:gOn e g=true) (hx:Ae e x=some (.osl gi vi i q)) (h:TrO Γ r (nv+1) ⟨(dst,.int .i64 q)::e,o,n⟩ d (acc++[(gK g++rdK x,[.e dst],af)]) K t) :
  TrO Γ (⟨some dst,.len false x,g,af⟩::r) nv ⟨e,o,n⟩ d acc K t :=
 As hg (c:=True) (we:=[(dst,.int .i64 q)]) (wo:=[]) (rd:=rdK x) (by simp[hx]) (by simp[hx]) trivial h
theorem AcM {c':Prop} {new old:List D} {rk':List Key} (l l':List α) (en:α->D) (hg:gOn e g=true) (hx:Ae e x=some v) (hy:Ae e y=some w) (hvw:strip v=(true,v)) (hww:strip w=(true,w)) (hv:(view w).run ⟨e,o,n⟩=(c,new)) (hvr:(view w).rd ⟨e,o,n⟩=rk) (hc:c) (hn:new=l'.map en) (ht:(target s ty v).run ⟨e,o,n⟩=(c',old,wo,false)) (htr:(target s ty v).rd ⟨e,o,n⟩=rk') (hc':c') (ho:old=l.map en) (hs:∀ q,(cells (en q)).length=s) (hby:aAH bytes 65536=true) (hl:l.length+l'.length<=16777216) (h:TrO Γ r (nv+1) ⟨(dst,.osl dst nv 0 (l++l').length)::e,(dst,some (nv,⟨false,false,s,ty,(l++l').map en⟩))::(wo++o),n⟩ d (acc++[(gK g++(rdK x++(rdK y++(rk++rk'))),[.e dst,.o dst]++wo.map (λx=>.o x.1),af)]) K t) :
  TrO Γ (⟨some dst,.app s ty bytes x y,g,af⟩::r) nv ⟨e,o,n⟩ d acc K t:=by
 have hb':=aAA hby;subst hn;subst ho;refine As hg (c:=True) (we:=[(dst,.osl dst nv 0 (l++l').length)]) (wo:=(dst,some (nv,⟨false,false,s,ty,(l++l').map en⟩))::wo) (rd:=rdK x++(rdK y++(rk++rk'))) ?_ ?_ trivial (by simp_all)
 ·simp only[evalOp,R.run_bind,BM,aAB,hx,hy,hvw,hww,source,hv,ht,R.run_pure,Ah,Dx,nmR,cond_false];simp_all
 grind [evalOp,R.CZ,BM,HX,source,R.FO]
theorem LA (hg:gOn e g=true) (hx:Ae e x=some (.int k a)) (hy:Ae e y=some (.int k b)) (h:TrO Γ r (nv+1) ⟨(dst,.int k (OM a b))::e,o,n⟩ d (acc++[(gK g++(rdK x++rdK y),[.e dst],af)]) K t) :
  TrO Γ (⟨some dst,.max [x,y],g,af⟩::r) nv ⟨e,o,n⟩ d acc K t :=
 As hg (c:=True) (we:=[(dst,.int k (OM a b))]) (wo:=[]) (rd:=rdK x++rdK y) (by simp[AD,hx,hy,Du]) (by simp_all[AD]) trivial h
theorem LB (hg:gOn e g=true) (hx:Ae e x=some (.int k a)) (hy:Ae e y=some (.int k b)) (h:TrO Γ r (nv+1) ⟨(dst,.int k (Tw a b))::e,o,n⟩ d (acc++[(gK g++(rdK x++rdK y),[.e dst],af)]) K t) :
  TrO Γ (⟨some dst,.min [x,y],g,af⟩::r) nv ⟨e,o,n⟩ d acc K t :=
 As hg (c:=True) (we:=[(dst,.int k (Tw a b))]) (wo:=[]) (rd:=rdK x++rdK y) (by simp_all[AD,Du]) (by simp_all[AD]) trivial h
theorem Gs {hi:Arg} (hg:gOn e g=true) (hx:Ae e x=some (.sl (l.map en))) (hy:Ae e hi=some (.int k a)) (hs:∀ q,(cells (en q)).length=s) (hp:aAC 0 s=true) (hl:0<=a/\a<=l.length)
  (h:TrO Γ r (nv+1) ⟨(dst,.sl ((l.take a.toNat).map en))::e,o,n⟩ d (acc++[(gK g++(rdK x++rdK hi),[.e dst],af)]) K t) :
  TrO Γ (⟨some dst,.slc s x none (some hi),g,af⟩::r) nv ⟨e,o,n⟩ d acc K t:=by
 have hp':0<s:=by simp_all
 refine As hg (c:=True) (we:=[(dst,.sl ((l.take a.toNat).map en))]) (wo:=[]) (rd:=rdK x++rdK hi) ?_ ?_ trivial h
 ·simp only[evalOp,R.run_bind,BM,aAB,hx,hy,strip,BE,R.BT,R.run_pure,BP,fits,BN,bound,BC,Ah];simp_all
 simp_all[BE,fits]
theorem AcN {hi:Arg} (hq:q=l.length) (hg:gOn e g=true) (hx:Ae e x=some (.osl gi vi 0 q)) (hy:Ae e hi=some (.int k a)) (ho:lkO o gi=some (vi,⟨fz,var,s,ty,es⟩)) (hp:aAC 0 s=true) (hl:0<=a/\a<=l.length) (h:TrO Γ r (nv+1) ⟨(dst,.osl gi vi 0 a.toNat)::e,o,n⟩ d (acc++[(gK g++(rdK x++(rdK hi++[.o gi])),[.e dst],af)]) K t) :
  TrO Γ (⟨some dst,.slc s x none (some hi),g,af⟩::r) nv ⟨e,o,n⟩ d acc K t:=by
 subst hq;have hp':0<s:=by simp_all
 refine As hg (c:=True) (we:=[(dst,.osl gi vi 0 a.toNat)]) (wo:=[]) (rd:=rdK x++(rdK hi++[Key.o gi])) ?_ ?_ trivial h
 ·simp only[evalOp,R.run_bind,BM,aAB,hx,hy,strip,BE,R.BT,R.run_pure,BP,fits,R.Cy,BV,ho,BN,bound,BC,Ah];simp_all
 simp_all[BE,fits]
theorem AcO {lo:Arg} (hq:q=l.length) (hg:gOn e g=true) (hx:Ae e x=some (.osl gi vi 0 q)) (hy:Ae e lo=some (.int k a)) (ho:lkO o gi=some (vi,⟨fz,var,s,ty,es⟩)) (hp:aAC 0 s=true) (hl:0<=a/\a<=l.length) (h:TrO Γ r (nv+1) ⟨(dst,.osl gi vi a.toNat (l.length-a.toNat))::e,o,n⟩ d (acc++[(gK g++(rdK x++(rdK lo++[.o gi])),[.e dst],af)]) K t) :
  TrO Γ (⟨some dst,.slc s x (some lo) none,g,af⟩::r) nv ⟨e,o,n⟩ d acc K t:=by
 subst hq;have hp':0<s:=by simp_all
 refine As hg (c:=True) (we:=[(dst,.osl gi vi a.toNat (l.length-a.toNat))]) (wo:=[]) (rd:=rdK x++(rdK lo++[Key.o gi])) ?_ ?_ trivial h
 ·simp only[evalOp,R.run_bind,BM,aAB,hx,hy,strip,BE,R.BT,R.run_pure,BP,fits,R.Cy,BV,ho,BN,bound,BC,Ah];simp_all
 simp_all[BE,fits]
end
section
variable {A B:Type}
def NU (ptr:List (Nat×(Nat×Nat))) (kind:Kind) (enc:A->List D) (dec:List D->A) (f:A->Option B) (encR:B->D) (encE:B->List D):Spec where
 ptr:=ptr
 kind:=kind
 pre:=λds=>∃ a b,ds=enc a/\f a=some b
 res:=λds=>match f (dec ds)with|some b=>encR b|none=>.top
 eff:=λds=>match f (dec ds)with|some b=>encE b|none=>[]
variable {ptr:List (Nat×(Nat×Nat))} {kind:Kind} {enc:A->List D} {dec:List D->A} {f:A->Option B} {encR:B->D} {encE:B->List D} {a:A} {b:B}
theorem Tm (hde:∀ a,dec (enc a)=a) (hf:f a=some b):(NU ptr kind enc dec f encR encE).res (enc a)=encR b:=by grind [NU]
theorem CM (hde:∀ a,dec (enc a)=a) (hf:f a=some b):(NU ptr kind enc dec f encR encE).eff (enc a)=encE b:=by grind [NU]
def Bb (ptr:List (Nat×(Nat×Nat))) (kind:Kind) (rs:List Az) (encR:B->D) (encE:B->List D):B->Aq->S->Prop:=λb e τ =>
 match e with
 | .exit _=>False
 | _=>Wk (Bn ⟨ptr,kind,λ_=>True,λ_=>encR b,λ_=>encE b⟩ rs []) τ
theorem MI {P:Program} (hΓ:∀ k sp,Γ k=some sp->Ns P (k % 4096) sp) (hf:P.funcs[k]? =some fn) (hname:(fn.name == "runtime.NumGoroutine")=false) (hc:(fn.body.bind (Pp P fn.ntmps))=some dc) (hr:fn.results.toList.mapM (UQ P)=some rs) (hnp:np<=fn.ntmps) (hde:∀ a,dec (enc a)=a) (hlen:∀ a,(enc a).length=np) (hkeys:∀ a,Ba ptr 0 (enc a)=ptr.map Prod.fst) (hptr:Dr ptr=true) (hT:∀ a,TrE Γ dc (Bb ptr kind rs encR encE) ⟨Cw ptr 0 (enc a),Ci ptr 0 (enc a),262144⟩ (f a)) (hni:Bx kind=none:=by rfl) (hno:Cx kind=none:=by rfl):Ns P k (NU ptr kind enc dec f encR encE):=by
 refine KT hΓ hf hname hc hr hnp (by rintro ds ⟨a,b,rfl,_⟩;exact⟨hlen a,hkeys a⟩) hptr ?_ hni hno
 rintro ds ⟨a,b,rfl,hb⟩ _;have h:=hT a b hb;refine h.mono λτ0 h=>AG _ _ _ _ (λe τ hq=>?_) h
 have key:∀ τ,Bn ⟨ptr,kind,λ_=>True,λ_=>encR b,λ_=>encE b⟩ rs [] τ->Bn (NU ptr kind enc dec f encR encE) rs (enc a) τ:=by
  simp only[Bn,Tm hde hb,CM hde hb];exact λ_ h=>h
 cases e with
 | exit id=>exact hq.elim
 | normal=>exact hq.mono key
 | ret=>exact hq.mono key
end
def Ap (e:List (Nat×D)):List Arg->List D
 | []=>[]
 | x::r=>(Ae e x).getD .top::Ap e r
def Bp:List Arg->List Key
 | []=>[]
 | x::r=>rdK x++Bp r
section
variable {Γ:Al} {X A B:Type} {K:KR X} {t:Option X} {e:List (Nat×D)} {o:List (Nat×Aa)} {n nv:Nat} {d:Bool} {acc:List Cj}
 {r:List Ar} {dst:Nat} {g:Option (Nat×Bool)} {af:List Nat} {α:Type}
 {ptr:List (Nat×(Nat×Nat))} {kind:Kind} {enc:A->List D} {dec:List D->A} {f:A->Option B} {encR:B->D} {encE:B->List D} {b:B}
 {fa:Arg} {args:List Arg} {caps:List D} {k:Nat} {c:Prop} {ds:List D} {w:List (Nat×Aa)} {ps:List (Nat×Nat×Own)} {rk:List Key} {s ty:Nat}
theorem BD:∀ args:List Arg,(AD args).run ⟨e,o,n⟩=Ap e args
 | []=>rfl
 | x::r=>by simp[AD,Ap,BD r]
theorem Df:∀ args:List Arg,(AD args).rd ⟨e,o,n⟩=Bp args
 | []=>rfl
 | x::r=>by simp[AD,Bp,Df r]
theorem Dh {dst:Option Nat} {c2:Prop} (hg:gOn e g=true) (hf:Ae e fa=some (.clo k caps)) (hΓ:Γ (k+4096*AJ (Ap e args))=some sp) (hr:(Ag sp.ptr 0 (Ap e args++caps)).run ⟨e,o,n⟩=(c,ds,w,ps)) (hk:(Ag sp.ptr 0 (Ap e args++caps)).rd ⟨e,o,n⟩=rk) (hco:Bg dst nv sp c ds w ps=⟨c2,we,wo⟩) (hc:c2) (h:TrO Γ r (nv+1) ⟨we++e,wo++o,n⟩ d (acc++[(gK g++(rdK fa++(Bp args++rk)),we.map (λx=>.e x.1)++wo.map (λx=>.o x.1),af)]) K t) (hin:Bx sp.kind=none:=by rfl) (hkb:aAC k 4096=true:=by rfl) :
  TrO Γ (⟨dst,.call fa args,g,af⟩::r) nv ⟨e,o,n⟩ d acc K t:=by
 refine As hg (c:=c2) (we:=we) (wo:=wo) (rd:=rdK fa++(Bp args++rk)) ?_ ?_ hc h
 ·grind [evalOp,R.run_bind,BP,Dj,BD,R.run_pure]
 ·simp only[evalOp,R.CZ,BP,Hb,aAB,hf,Dj hkb,hkb,BD,hΓ,hin,Df,hr,hk,R.FO,aAT]
theorem IV {vi gi m:Nat} {l l':List Int} (hg:gOn e g=true) (hf:Ae e fa=some (.clo k caps)) (hΓ:Γ (k+4096*AJ (Ap e args))=some sp) (hin:Bx sp.kind=some (inQ false fl fk)) (hr:Ap e args++caps=[.osl gi vi 0 m]) (hm:m=l.length) (ho:lkO o gi=some (vi,⟨false,false,1,ty',l.map (.int .i64)⟩)) (hl:l.length<4611686018427387904) (hfl:fl l=l') (h:TrO Γ r (nv+1) ⟨(dst,.top)::e,(gi,some (vi,⟨false,false,1,ty',l'.map (.int .i64)⟩))::o,n⟩ d (acc++[(gK g++(rdK fa++(Bp args++[.o gi])),[.e dst,.o gi],af)]) K t) (hkb:aAC k 4096=true:=by rfl) :
  TrO Γ (⟨some dst,.call fa args,g,af⟩::r) nv ⟨e,o,n⟩ d acc K t:=by
 subst hm hfl;have hd:(l.map (D.int .i64)).map Bf=l:=by simp[aAl,Bf]
 refine As hg (c:=True) (we:=[(dst,.top)]) (wo:=[(gi,some (vi,⟨false,false,1,ty',(fl l).map (.int .i64)⟩))]) (rd:=rdK fa++(Bp args++[Key.o gi])) ?_ ?_ trivial ?_
 ·simp only[evalOp,R.run_bind,BP,aAB,hf,Dj hkb,hkb,BD,hΓ,hin,hr,Dp,R.Cy,BV,ho,R.BT];simp_all[Ah,aAE,AO,cells,plain,inQ,CB.FM]
 ·simp only[evalOp,R.CZ,BP,Hb,aAB,hf,Dj hkb,hkb,BD,hΓ,hin,Df,hr,Dp,R.IF,BV,ho,R.Jw]
 ·exact h
theorem Hj {vi gi m:Nat} {l l':List Int} (hg:gOn e g=true) (hf:Ae e fa=some (.clo k caps)) (hΓ:Γ (k+4096*AJ (Ap e args))=some sp) (hin:Bx sp.kind=some (inQ true fl fk)) (hr:Ap e args++caps=[.osl gi vi 0 m]) (hm:m=l.length) (ho:lkO o gi=some (vi,⟨false,false,1,ty',l.map (.int .i64)⟩)) (hl:l.length<4611686018427387904) (hfl:(fl l).take (fk l)=l') (hfk:fk l=l'.length) (h:TrO Γ r (nv+1) ⟨(dst,.osl gi vi 0 l'.length)::e,(gi,some (vi,⟨false,false,1,ty',l'.map (.int .i64)⟩))::o,n⟩ d (acc++[(gK g++(rdK fa++(Bp args++[.o gi])),[.e dst,.o gi],af)]) K t) (hkb:aAC k 4096=true:=by rfl) :
  TrO Γ (⟨some dst,.call fa args,g,af⟩::r) nv ⟨e,o,n⟩ d acc K t:=by
 subst hm hfl;have hd:(l.map (D.int .i64)).map Bf=l:=by simp[aAl,Bf]
 refine As hg (c:=True) (we:=[(dst,.osl gi vi 0 ((fl l).take (fk l)).length)]) (wo:=[(gi,some (vi,⟨false,false,1,ty',((fl l).take (fk l)).map (.int .i64)⟩))]) (rd:=rdK fa++(Bp args++[Key.o gi])) ?_ ?_ trivial ?_
 ·simp only[evalOp,R.run_bind,BP,aAB,hf,Dj hkb,hkb,BD,hΓ,hin,hr,Dp,R.Cy,BV,ho,R.BT];simp[Ah,hd,hl,aAE,AO,cells,plain,inQ]
  grind
 ·simp only[evalOp,R.CZ,BP,Hb,aAB,hf,Dj hkb,hkb,BD,hΓ,hin,Df,hr,Dp,R.IF,BV,ho,R.Jw]
 ·exact h
theorem Afx (a:A) (hg:gOn e g=true) (hf:Ae e fa=some (.clo k caps)) (hΓ:Γ (k+4096*AJ (Ap e args))=some (NU ptr .val enc dec f encR encE)) (hde:∀ a,dec (enc a)=a) (hr:(Ag ptr 0 (Ap e args++caps)).run ⟨e,o,n⟩=(c,ds,w,ps))
  (hk:(Ag ptr 0 (Ap e args++caps)).rd ⟨e,o,n⟩=rk) (hc:c) (hds:ds=enc a) (hb:f a=some b)
  (h:TrO Γ r (nv+1) ⟨(dst,encR b)::e,(An ps (encE b)++w)++o,n⟩ d (acc++[(gK g++(rdK fa++(Bp args++rk)),.e dst::(An ps (encE b)++w).map (λx=>.o x.1),af)]) K t) (hkb:aAC k 4096=true:=by rfl) :
  TrO Γ (⟨some dst,.call fa args,g,af⟩::r) nv ⟨e,o,n⟩ d acc K t:=by
 subst hds;refine Dh (hkb:=hkb) hg hf hΓ (sp:=NU ptr .val enc dec f encR encE) hr hk (c2:=c/\∃ a' b',enc a=enc a'/\f a'=some b') (we:=[(dst,encR b)]) (wo:=An ps (encE b)++w) ?_ ⟨hc,a,b,rfl,hb⟩ h;simp only[Bg,Tm hde hb,CM hde hb,Ah];rfl
theorem Uy (a:A) (hg:gOn e g=true) (hf:Ae e fa=some (.clo k caps)) (hΓ:Γ (k+4096*AJ (Ap e args))=some (NU [] .ground enc dec f encR encE)) (hde:∀ a,dec (enc a)=a) (hr:(Ag [] 0 (Ap e args++caps)).run ⟨e,o,n⟩=(c,ds,w,ps))
  (hk:(Ag [] 0 (Ap e args++caps)).rd ⟨e,o,n⟩=rk) (hc:c) (hds:ds=enc a) (hb:f a=some b) (hgr:isGround (encR b)=true)
  (h:TrO Γ r (nv+1) ⟨(dst,encR b)::e,o,n⟩ d (acc++[(gK g++(rdK fa++(Bp args++rk)),[.e dst],af)]) K t) (hkb:aAC k 4096=true:=by rfl) :
  TrO Γ (⟨some dst,.call fa args,g,af⟩::r) nv ⟨e,o,n⟩ d acc K t:=by
 subst hds;refine Dh (hkb:=hkb) hg hf hΓ (sp:=NU [] .ground enc dec f encR encE) hr hk (c2:=c/\(∃ a' b',enc a=enc a'/\f a'=some b')/\isGround (encR b)=true/\([]:List (Nat×(Nat×Nat)))=[]) (we:=[(dst,encR b)]) (wo:=[]) ?_ ⟨hc,⟨a,b,rfl,hb⟩,hgr,rfl⟩ h;simp_all[Bg,Ah,NU]
theorem Ey (a:A) {l:List α} {en:α->D} (hg:gOn e g=true) (hf:Ae e fa=some (.clo k caps)) (hΓ:Γ (k+4096*AJ (Ap e args))=some (NU ptr (.row s ty) enc dec f encR encE)) (hde:∀ a,dec (enc a)=a) (hr:(Ag ptr 0 (Ap e args++caps)).run ⟨e,o,n⟩=(c,ds,w,ps))
  (hk:(Ag ptr 0 (Ap e args++caps)).rd ⟨e,o,n⟩=rk) (hc:c) (hds:ds=enc a) (hb:f a=some b) (hl:encR b= .sl (l.map en))
  (h:TrO Γ r (nv+1) ⟨(dst,.osl dst nv 0 l.length)::e,((dst,some (nv,⟨false,false,s,ty,l.map en⟩))::(An ps (encE b)++w))++o,n⟩ d (acc++[(gK g++(rdK fa++(Bp args++rk)),.e dst:: .o dst::(An ps (encE b)++w).map (λx=>.o x.1),af)]) K t) (hkb:aAC k 4096=true:=by rfl) :
  TrO Γ (⟨some dst,.call fa args,g,af⟩::r) nv ⟨e,o,n⟩ d acc K t:=by
 subst hds;refine Dh (hkb:=hkb) hg hf hΓ (sp:=NU ptr (.row s ty) enc dec f encR encE) hr hk (c2:=c/\(∃ a' b',enc a=enc a'/\f a'=some b')/\(some dst).isSome=true) (we:=[(dst,.osl dst nv 0 l.length)]) (wo:=(dst,some (nv,⟨false,false,s,ty,l.map en⟩))::(An ps (encE b)++w)) ?_ ⟨hc,⟨a,b,rfl,hb⟩,rfl⟩ h;simp_all[Bg,Ah,AP,NU]
theorem Afw (a:A) (hg:gOn e g=true) (hf:Ae e fa=some (.clo k caps)) (hΓ:Γ (k+4096*AJ (Ap e args))=some (NU ptr (.ptr s ty) enc dec f encR encE)) (hde:∀ a,dec (enc a)=a) (hr:(Ag ptr 0 (Ap e args++caps)).run ⟨e,o,n⟩=(c,ds,w,ps))
  (hk:(Ag ptr 0 (Ap e args++caps)).rd ⟨e,o,n⟩=rk) (hc:c) (hds:ds=enc a) (hb:f a=some b)
  (h:TrO Γ r (nv+1) ⟨(dst,.optr dst nv 0 0)::e,((dst,some (nv,⟨false,true,s,ty,[encR b]⟩))::(An ps (encE b)++w))++o,n⟩ d (acc++[(gK g++(rdK fa++(Bp args++rk)),.e dst:: .o dst::(An ps (encE b)++w).map (λx=>.o x.1),af)]) K t) (hkb:aAC k 4096=true:=by rfl) :
  TrO Γ (⟨some dst,.call fa args,g,af⟩::r) nv ⟨e,o,n⟩ d acc K t:=by
 subst hds;refine Dh (hkb:=hkb) hg hf hΓ (sp:=NU ptr (.ptr s ty) enc dec f encR encE) hr hk (c2:=c/\(∃ a' b',enc a=enc a'/\f a'=some b')/\(some dst).isSome=true) (we:=[(dst,.optr dst nv 0 0)]) (wo:=(dst,some (nv,⟨false,true,s,ty,[encR b]⟩))::(An ps (encE b)++w)) ?_ ⟨hc,⟨a,b,rfl,hb⟩,rfl⟩ h;simp_all[Bg,Ah,AP,NU]
theorem Anw (a:A) {rs:List D} (hg:gOn e g=true) (hf:Ae e fa=some (.clo k caps)) (hΓ:Γ (k+4096*AJ (Ap e args))=some (NU ptr (.tupPtr q s ty) enc dec f encR encE)) (hde:∀ a,dec (enc a)=a) (hr:(Ag ptr 0 (Ap e args++caps)).run ⟨e,o,n⟩=(c,ds,w,ps)) (hk:(Ag ptr 0 (Ap e args++caps)).rd ⟨e,o,n⟩=rk) (hc:c) (hds:ds=enc a) (hb:f a=some b) (hl:encR b= .tup rs) (hz:rs.getD q .top=z) (h:TrO Γ r (nv+1) ⟨(dst,.tup (rs.set q (.optr dst nv 0 0)))::e,((dst,some (nv,⟨false,true,s,ty,[z]⟩))::(An ps (encE b)++w))++o,n⟩ d (acc++[(gK g++(rdK fa++(Bp args++rk)),.e dst:: .o dst::(An ps (encE b)++w).map (λx=>.o x.1),af)]) K t) (hkb:aAC k 4096=true:=by rfl) :
  TrO Γ (⟨some dst,.call fa args,g,af⟩::r) nv ⟨e,o,n⟩ d acc K t:=by
 subst hds;subst hz;refine Dh (hkb:=hkb) hg hf hΓ (sp:=NU ptr (.tupPtr q s ty) enc dec f encR encE) hr hk (c2:=c/\(∃ a' b',enc a=enc a'/\f a'=some b')/\(some dst).isSome=true) (we:=[(dst,.tup (rs.set q (.optr dst nv 0 0)))]) (wo:=(dst,some (nv,⟨false,true,s,ty,[rs.getD q .top]⟩))::(An ps (encE b)++w)) ?_ ⟨hc,⟨a,b,rfl,hb⟩,rfl⟩ h;simp_all[Bg,Ah,AP,NU]
theorem AhY (hg:gOn e g=true) (hx:Ap e args=caps) (hc:∀ d∈caps,SE d=true) (h:TrO Γ r (nv+1) ⟨(dst,.clo q caps)::e,o,n⟩ d (acc++[(gK g++Bp args,[.e dst],af)]) K t):TrO Γ (⟨some dst,.mkf q args,g,af⟩::r) nv ⟨e,o,n⟩ d acc K t :=
 As hg (c:=∀ d∈caps,SE d=true) (we:=[(dst,.clo q caps)]) (wo:=[]) (rd:=Bp args) (by simp[evalOp,BD,hx,Ah]) (by simp[evalOp,Df]) hc h
end
@[simp] theorem II (g:Nat):(Ad g=false)↔g<4096:=by
 simp only[Ad];cases hb:aAH 4096 g
 ·simp only[true_iff];by_cases h:g<4096
  ·exact h
  ·rw[aAG (by omega)]at hb;cases hb
 ·have:=aAA hb;simp;omega
@[simp] theorem Nf (g:Nat):(Ad g=true)↔4096<=g:=by
 have:=II g;cases hb:Ad g<;>simp_all<;>omega
section
variable {B α:Type} {e:List (Nat×D)} {o:List (Nat×Aa)} {n np:Nat} {ptr:List (Nat×(Nat×Nat))} {encR:B->D} {encE:B->List D} {b:B} {r0:Az} {rs:List Az}
 {ce c c1:Prop} {effs ds:List D} {we w:List (Nat×Aa)} {d0 d1:D} {s ty g:Nat}
theorem TN (he:(Bw ptr).run ⟨e,o,n⟩=(ce,effs,we)) (hce:ce) (heff:effs=encE b) (hr:(Dz r0).run ⟨e,o,n⟩=(c,d0,w)) (hc:c) (hd:d0=encR b):TrX .ret (Bb ptr .val [r0] encR encE) ⟨e,o,n⟩ (some b):=by
 rintro _ ⟨⟩;refine⟨_,.refl _,?_⟩;simp_all[Bn]
theorem IH (he:(Bw ptr).run ⟨e,o,n⟩=(ce,effs,we)) (hce:ce) (heff:effs=encE b) (hr:(Dz r0).run ⟨e,o,n⟩=(c,d0,w)) (hc:c) (hd:d0=encR b):TrX .ret (Bb ptr .ground [r0] encR encE) ⟨e,o,n⟩ (some b):=by
 rintro _ ⟨⟩;refine⟨_,.refl _,?_⟩;simp_all[Bn]
theorem Eg {_q:D->Prop} (h:rs.length≠1) (hk:ce/\effs=encE b/\c/\ .tup ds=encR b/\rs.length≠1) (he:(Bw ptr).run ⟨e,o,n⟩=(ce,effs,we)) (hr:(AB rs).run ⟨e,o,n⟩=(c,ds,w)) (kind:Kind) (hkind:kind= .val\/kind= .ground) :
  Bn ⟨ptr,kind,λ_=>True,λ_=>encR b,λ_=>encE b⟩ rs [] ⟨e,o,n⟩:=by
 rcases hkind with rfl|rfl<;>(
  simp only[Bn,he]
  grind)
theorem Po (he:(Bw ptr).run ⟨e,o,n⟩=(ce,effs,we)) (hce:ce) (heff:effs=encE b) (hr:(AB rs).run ⟨e,o,n⟩=(c,ds,w)) (hc:c) (hd: .tup ds=encR b) (hl:rs.length≠1):TrX .ret (Bb ptr .val rs encR encE) ⟨e,o,n⟩ (some b):=by
 rintro _ ⟨⟩;refine⟨_,.refl _,?_⟩;exact Eg (_q:=λ_=>True) hl ⟨hce,heff,hc,hd,hl⟩ he hr _ (.inl rfl)
theorem FQ (he:(Bw ptr).run ⟨e,o,n⟩=(ce,effs,we)) (hce:ce) (heff:effs=encE b) (hr:(AB rs).run ⟨e,o,n⟩=(c,ds,w)) (hc:c) (hd: .tup ds=encR b) (hl:rs.length≠1):TrX .ret (Bb ptr .ground rs encR encE) ⟨e,o,n⟩ (some b):=by
 rintro _ ⟨⟩;refine⟨_,.refl _,?_⟩;exact Eg (_q:=λ_=>True) hl ⟨hce,heff,hc,hd,hl⟩ he hr _ (.inr rfl)
theorem Li (he:(Bw ptr).run ⟨e,o,n⟩=(ce,effs,we)) (hce:ce) (heff:effs=encE b) (hr:(Oi r0).run ⟨e,o,n⟩=(c,d0)) (hc:c) (hs:(Dy false s ty d0).run ⟨e,o,n⟩=(c1,d1,g)) (hc1:c1) (hd:d1=encR b) (hw:we.all (λx=>x.1 != g)=true) :
  TrX .ret (Bb ptr (.row s ty) [r0] encR encE) ⟨e,o,n⟩ (some b):=by
 rintro _ ⟨⟩;refine⟨_,.refl _,?_⟩;simp only[Bn,he,hr,hs]
 grind
theorem Lh (hr:(Oi r0).run ⟨e,o,n⟩=(c,d0)) (hc:c) (hs:(Cb s ty d0).run ⟨e,o,n⟩=(c1,d1,w,g)) (hc1:c1) (hd:d1=encR b) (he:(Bw ptr).run ⟨e,o,n⟩=(ce,effs,we)) (hce:ce) (heff:effs=encE b) (hrg:Ad g=false:=by rfl) :
  TrX .ret (Bb ptr (.ptr s ty) [r0] encR encE) ⟨e,o,n⟩ (some b):=by
 rintro _ ⟨⟩;refine⟨_,.refl _,?_⟩;simp_all[Bn]
theorem Ate {cA cB cP:Prop} {dA dB:List D} {dP dq:D} {wA wB wP:List (Nat×Aa)} (hq:q<rs.length) (hl:rs.length≠1) (hA:(AB (rs.take q)).run ⟨e,o,n⟩=(cA,dA,wA)) (hcA:cA) (hB:(AB (rs.drop (q+1))).run ⟨e,o,n⟩=(cB,dB,wB)) (hcB:cB) (hr:(Oi (rs.getD q (.t 0))).run ⟨e,o,n⟩=(c,dq)) (hc:c) (hP:(Cb s ty dq).run ⟨e,o,n⟩=(cP,dP,wP,g)) (hcP:cP) (hd: .tup (dA++dP::dB)=encR b) (he:(Bw []).run ⟨e,o,n⟩=(ce,effs,we)) (hce:ce) (heff:effs=encE b) :
  TrX .ret (Bb [] (.tupPtr q s ty) rs encR encE) ⟨e,o,n⟩ (some b):=by
 rintro _ ⟨⟩;refine⟨_,.refl _,?_⟩;simp_all[Bn]
end
@[simp] theorem Nd (cs:List D):cells (.agg cs)=cs:=rfl
def ER (e:List (Nat×D)):List (Nat×D)->Prop
 | []=>True
 | (t,d)::r=>(AK e t).getD .top=d/\ER e r
def ET (o:List (Nat×Aa)):List (Nat×Aa)->Prop
 | []=>True
 | (g,x)::r=>lkO o g=x/\ET o r
theorem ER.get {e:List (Nat×D)}:∀ {E:List (Nat×D)},ER e E->∀ p∈E,(AK e p.1).getD .top=p.2
 | [],_,p,hp=>by cases hp
 | q::r,h,p,hp=>by
  cases hp with
  | head=>exact h.1
  | tail _ hp=>exact ER.get h.2 p hp
theorem ET.get {o:List (Nat×Aa)}:∀ {O:List (Nat×Aa)},ET o O->∀ p∈O,lkO o p.1=p.2
 | [],_,p,hp=>by cases hp
 | q::r,h,p,hp=>by
  cases hp with
  | head=>exact h.1
  | tail _ hp=>exact ET.get h.2 p hp
theorem Zf {o:List (Nat×Aa)} {n:Nat} (hE:ER e E) (hO:ET o O):Has ⟨e,o,n⟩ E O:=by
 refine⟨n,?_⟩;refine Chg.Ez (τ:=⟨E,O,n⟩) [] ⟨?_,?_,?_,Nat.le_refl _⟩ (.refl _)
 ·intro p hp;cases hp
 ·intro p hp;refine .inl (.inl ?_);have:=hE.get p hp;rw[Bz]at this;exact this
 ·intro p hp;refine .inl ?_;have:=hO.get p hp
  grind [S.gof,BV]
theorem Acy {x:D} {g v q':Nat} (h1:x= .osl g v 0 q) (h2:q=q'):x= .osl g v 0 q':=h2▸h1
section
variable {e E:List (Nat×D)} {o O:List (Nat×Aa)} {n:Nat} {ws:List (Nat×Aa)} {α:Type}
def Gw (e:List (Nat×D)) (o:List (Nat×Aa)) (n:Nat) (ws:List (Nat×Aa)):List (Nat×D)->Prop
 | []=>True
 | (t,d)::r=>Conv ⟨e,o,n⟩ ws ((AK e t).getD .top) d/\Gw e o n ws r
def Gx (e:List (Nat×D)) (o:List (Nat×Aa)) (n:Nat) (ws:List (Nat×Aa)):List (Nat×Aa)->Prop
 | []=>True
 | (g,x)::r=>(lkO (ws++o) g=x\/∃ v p z z',lkO (ws++o) g=some (v,p)/\p.var=true/\p.es=[z]/\x=some (v,{ p with es:=[z'] })/\Conv ⟨e,o,n⟩ ws z z')/\Gx e o n ws r
def FzB (o:List (Nat×Aa)):List (Nat×Aa)->Prop
 | []=>True
 | (g,x)::r=>(∃ v p,lkO o g=some (v,p)/\p.var=false/\x=some (v,{ p with fz:=true }))/\FzB o r
theorem WI (ws:List (Nat×Aa)) (hw:FzB o ws) (hE:Gw e o n ws E) (hO:Gx e o n ws O):Has ⟨e,o,n⟩ E O:=by
 refine⟨n,?_⟩;refine Chg.Ez (τ:=⟨E,O,n⟩) ws ⟨?_,?_,?_,Nat.le_refl _⟩ (.refl _)
 ·clear hE hO
  induction ws with
  | nil=>intro p hp;cases hp
  | cons q r ih =>
   intro p hp;cases hp with
   | head =>
    obtain⟨v,p,h1,h2,h3⟩:=hw.1
    grind [BV]
   | tail _ hp=>exact ih hw.2 p hp
 ·clear hw hO
  induction E with
  | nil=>simp_all
  | cons q r ih =>
   intro p hp;cases hp with
   | head =>
    have:=hE.1;rw[Bz]at this;exact this
   | tail _ hp=>exact ih hE.2 p hp
 ·clear hw hE
  induction O with
  | nil=>simp_all
  | cons q r ih =>
   intro p hp;cases hp with
   | head =>
    simp only[S.gof,BV];exact hO.1
   | tail _ hp=>exact ih hO.2 p hp
theorem Og {x d:D} (h:x=d):Conv ⟨e,o,n⟩ ws x d:=.inl (.inl h)
theorem Ou {x d:D} (h:x=d):CS ⟨e,o,n⟩ ws x d:=.inl h
theorem Vi {x:D} (en:α->D) (h:x= .nils):CS ⟨e,o,n⟩ ws x (.sl (([]:List α).map en)):=by
 subst h;exact .inr ⟨trivial,rfl,λp hp=>by cases hp⟩
theorem Wg {x:D} {g v s ty:Nat} {fz:Bool} {l:List α} {en:α->D} (h:x= .osl g v 0 q) (hq:q=l.length) (ho:lkO o g=some (v,⟨fz,false,s,ty,l.map en⟩)) (hw:(g,some (v,(⟨true,false,s,ty,l.map en⟩:Own)))∈ws):CS ⟨e,o,n⟩ ws x (.sl (l.map en)):=by
 subst h;subst hq;refine .inr ⟨?_,?_,?_⟩
 all_goals simp_all[AE,aAE]
theorem Adp {x d:D} (h:CS ⟨e,o,n⟩ ws x d):Conv ⟨e,o,n⟩ ws x d:=.inl h
theorem Vu {x:D} (h:x= .agg cs) (hc:DA ⟨e,o,n⟩ ws cs cs'):Conv ⟨e,o,n⟩ ws x (.agg cs'):=.inr ⟨cs,cs',h,rfl,hc⟩
end
@[simp] theorem Cz (en:α->D) (l:List α):aAR l.length (l.map en)=l.map en:=aAE (by simp)
@[simp] theorem Ny (en:α->D) (l:List α) (i:Nat):aAR (l.length-i) (aAk i (l.map en))=(l.drop i).map en:=by
 rw[<- List.map_drop];exact aAE (by simp)
@[simp] theorem Mr (en:α->D) (l:List α) (i:Nat) (y:D):aAR l.length ((l.map en).set i y)=(l.map en).set i y:=aAE (by simp)
theorem Nv (en:α->D) (l:List α):aAR l.length (aAk 0 (l.map en))=l.map en:=Cz en l
theorem YP (en:α->D) (l:List α) (h:q=l.length):aAR q (aAk 0 (l.map en))=l.map en:=h▸Cz en l
theorem Wd (en:α->D) (l:List α) (h:q=l.length):aAR q (l.map en)=l.map en:=h▸Cz en l
@[simp] theorem Mq (en:α->D) (l l':List α):aAR (l.length+l'.length) (l.map en++l'.map en)=l.map en++l'.map en:=aAE (by simp)
def cel (d:D) (i:Nat):D:=match d with| .agg cs=>cs.getD i .top| .tup cs=>cs.getD i .top|_=>.top
def uI:D->Int| .int _ n=>n|_=>0
def uBo:D->Bool| .bool b=>b|_=>false
def uS:D->List UInt8| .str s=>s|_=>[]
def uL {α:Type} (u:D->α):D->List α| .sl es=>es.map u|_=>[]
abbrev eL {α:Type} (en:α->D) (l:List α):D:=.sl (l.map en)
@[simp] theorem Qe {u:D->α} {en:α->D} (h:∀ a,u (en a)=a) (l:List α):uL u (.sl (l.map en))=l:=by
 simp only[uL,aAU]
 conv=>rhs;rw[<- List.map_id l]
 exact aAP λa _=>h a
open Go.ChangeShapes Go.WideShapes Go.ChangeAt Go.RowKit Go.Deep
def Xv (W:World):Fz:=λb i=>W.cell? ⟨b,i,none⟩
def Rep (W:World) (ds:List D) (cs:List Value):Prop:=ds.length=cs.length/\(∀ v∈cs,v.oneCell'=true)/\∀ (j:Nat) c v,ds[j]? =some c->cs[j]? =some v->Fro (Xv W) c v
def Wt {H:Type} (P:Program) (t:TypeId) (d:DataW H):Prop:=∀ w∈d.weights P t,w<=reachBytes
theorem Wt.all {H:Type} {P:Program} {e:TypeId}:∀ {l:List (DataW H)} {i:Nat} {d:DataW H},l[i]? =some d->∀ w∈d.weights P e,w∈aAc P e l
 | x::l,0,d,h,w,hw=>by
  grind [aAc]
 | x::l,i+1,d,h,w,hw=>by
  simp only[List.getElem?_cons_succ]at h;simp only[aAc,aAe];exact .inr (Wt.all h w hw)
theorem Wt.part {P:Program} {t:TypeId} {fs:Array Field} {parts:List (DataW H)} (ht:P.underlying t=some (.struct fs)) (h:Wt P t (.agg parts)) {f:Field} {d:DataW H} (hf:fs[j]? =some f) (hd:parts[j]? =some d):Wt P f.type d:=by
 intro w hw;refine h w ?_;simp only[aAX,ht];exact aAf (j:=j) (by simp[hf]) hd w hw
theorem Wt.arg {P:Program} {ts us:List TypeId} {ds gs:List (DataW H)} (h:(DataW.weightsEach P (ts++us) (ds++gs)).all (· <=reachBytes)=true) {t:TypeId} {d:DataW H} (ht:ts[j]? =some t) (hd:ds[j]? =some d):Wt P t d:=by
 intro w hw;have h1:=(aA.1 ht).1;have h2:=(aA.1 hd).1;have:=List.all_eq_true.1 h w (aAf (j:=j) (by grind) (by grind) w hw)
 simp_all
structure Rd (P:Program) (W:World) {T:Type} (t:TypeId) (en:T->D) (Q:T->Prop):Prop where
 rd:∀ {H:Type} {enc:TypeId×Value->H} (n:Nat) (cs:List Value) (x:DataW H×List MemPlace),aAN enc P W 0 (λ_=>true) true n t cs=some x->Wt P t x.1->∃ a,Q a/\Rep W (cells (en a)) cs
def Pf (k:IntKind) (n:Int):Prop:=k.min<=n/\n<=k.max
def Awf {T:Type} (_:T):Prop:=True
def qL {T:Type} (q:T->Prop) (l:List T):Prop:=l.length<=140737488355328/\∀ x∈l,q x
section
variable {P:Program} {W:World} {t e:TypeId}
theorem Rep.one {d:D} (h1:v.oneCell'=true) (h:Fro (Xv W) d v):Rep W [d] [v]:=by
 refine⟨rfl,λx hx=>?_,λj c x hc hx=>?_⟩
 all_goals grind
theorem Rd.int {k:IntKind} (ht:P.underlying t=some (.int k)):Rd P W t (D.int k) (λn=>k.min<=n/\n<=k.max):=by
 refine⟨λn cs x h hw=>?_⟩
 cases n with
 | zero=>simp[aAN]at h
 | succ n =>
  simp only[aAN,ht]at h;split at h<;>rename_i h1<;>try (cases h1;done)
  all_goals try (cases h;done)
  cases h1;split at h
  ·rename_i hc;obtain⟨rfl,hw⟩:=hc;exact⟨_,by grind [Lit.wf],Rep.one rfl (.int _ _)⟩
  ·cases h
theorem Rd.bool (ht:P.underlying t=some .bool):Rd P W t D.bool (λ_=>True):=by
 refine⟨λn cs x h hw=>?_⟩
 cases n with
 | zero=>simp[aAN]at h
 | succ n =>
  simp only[aAN,ht]at h;split at h<;>rename_i h1<;>try (cases h1;done)
  all_goals try (cases h;done)
  exact⟨_,trivial,Rep.one rfl (.bool _)⟩
theorem Rd.str (ht:P.underlying t=some .string):Rd P W t D.str (λs=>s.length<=140737488355328):=by
 refine⟨λn cs x h hw=>?_⟩
 cases n with
 | zero=>simp[aAN]at h
 | succ n =>
  simp only[aAN,ht]at h;split at h<;>rename_i h1<;>try (cases h1;done)
  all_goals try (cases h;done)
  rename_i s;split at h
  ·cases h;have:=hw s.data.toList.length (by simp[aAX])
   simp only[reachBytes]at this;exact⟨s.data.toList,Nat.le_trans this (by decide),Rep.one rfl (by have:=Fro.str (F:=Xv W) s.data.toList;omega)⟩
  ·cases h
theorem Fk {n:Nat} {cs:List Value} (h:W.cells? 0 a n=some cs):cs.length=n/\∀ i,i<n->W.cell? (a.add i)=cs[i]?:=by
 unfold World.cells? at h;rw[if_pos (aAg _)]at h;have hl:=mapM_some_length h;simp only[List.length_range]at hl;exact⟨hl,λi hi=>mapM_some_get h i i (by simp[hi])⟩
theorem JC (h:W.cell? a=some v):a=⟨a.block,a.off,none⟩:=by
 unfold aAh at h;split at h
 ·split at h
  ·cases h
  ·rename_i hs;obtain⟨b,o,s⟩:=a;simp_all
 ·cases h
theorem Rd.slice {T:Type} [Inhabited T] {en:T->D} {Q:T->Prop} (ht:P.underlying t=some (.slice e)) (hs:0<P.cellsOf e) (hb:aAC 0 (P.bytesOf e)=true) (hc:∀ a,(cells (en a)).length=P.cellsOf e) (he:Rd P W e en Q) :
  Rd P W t (eL en) (λl=>l.length<=140737488355328/\∀ x∈l,Q x):=by
 refine⟨λn cs x h hw=>?_⟩
 rcases DataW.trod_slice ht h with⟨rfl,_⟩|⟨a,len,cap,elems,rest,m,_,rfl,rfl,_,hl,hm,hlen,hel,_,_⟩
 ·exact⟨[],⟨aAg _,λx hx=>by cases hx⟩,Rep.one rfl (.sl0 none 0)⟩
 ·have each:∀ i,∃ p:T×List Value,i<len->W.cells? 0 (a.add (i*P.cellsOf e)) (P.cellsOf e)=some p.2/\Q p.1/\Rep W (cells (en p.1)) p.2:=by
   intro i
   by_cases hi:i<len
   ·have h1:=hel i hi;have h2:i<elems.length:=by omega
    rw[aAD h2,aAI]at h1;obtain⟨cs,h3,h4⟩:=h1
    obtain⟨q,hq,hr⟩:=he.rd m cs _ h4 λw hw'=>hw w (by
     simp only[aAX,ht,aAY,aAe]
     exact .inr (.inl (Wt.all (i:=i) (by simp_all) w hw')))
    exact⟨(q,cs),λ_=>⟨h3,hq,hr⟩⟩
   ·exact⟨(default,[]),λh=>absurd h hi⟩
  obtain⟨f,hf⟩:=Classical.axiomOfChoice each;have hes:((aAO len).map λi=>(f i).1).length=len:=by simp
  have hreach:len<=140737488355328:=by
   have h1:=hw ((elems.length+rest.length)*P.bytesOf e) (by grind [aAX])
   have h2:0<P.bytesOf e:=by simp_all
   have h3:elems.length+rest.length<=(elems.length+rest.length)*P.bytesOf e:=Nat.le_mul_of_pos_right _ h2;simp only[reachBytes]at h1;omega
  refine⟨(aAO len).map λi=>(f i).1,⟨by omega,λx hx=>?_⟩,Rep.one rfl ?_⟩
  ·grind
  ·by_cases h0:len=0
   ·subst h0;exact .sl0 _ _
   ·have hget:∀ (i j:Nat),i<len->j<P.cellsOf e->W.cell? ((a.add (i*P.cellsOf e)).add j)=(f i).2[j]?:=λi j hi hj=>(Fk (hf i hi).1).2 j hj
    have hlenc:∀ i,i<len->(f i).2.length=P.cellsOf e:=λi hi=>(Fk (hf i hi).1).1
    have ha:a=⟨a.block,a.off,none⟩:=by
     have h1:=hget 0 0 (by omega) hs
     have h2:0<(f 0).2.length:=by grind
     rw[aAD h2]at h1;simp only[Nat.zero_mul,Addr.add,if_true]at h1;exact JC h1
    generalize a.block=b at ha;generalize a.off=o at ha;subst ha;have hidx:∀ (i:Nat) x,(((aAO len).map λi=>(f i).1).map en)[i]? =some x->i<len/\x=en (f i).1:=by
     grind
    have key:∀ (i j:Nat) x c,(((aAO len).map λi=>(f i).1).map en)[i]? =some x->(cells x)[j]? =some c->i<len/\∃ v,(f i).2[j]? =some v/\Xv W b (o+i*P.cellsOf e+j)=some v/\v.oneCell'=true/\Fro (Xv W) c v:=by
     intro i j x c hx hj;obtain⟨hi,rfl⟩:=hidx i x hx;obtain⟨_,_,r1,r2,r3⟩:=hf i hi;have hjl:j<(cells (en (f i).1)).length:=(aA.1 hj).1;have hjl':j<(f i).2.length:=by omega
     have hv:=aAD hjl';refine⟨hi,_,hv,?_,r2 _ (List.getElem_mem hjl'),r3 j c _ hj hv⟩;have:=hget i j hi (by grind)
     rw[Bs,Bs,hv]at this;exact this
    have:=Fro.sl (F:=Xv W) (((aAO len).map λi=>(f i).1).map en) b o cap (P.cellsOf e) (λi j=>(f i).2.getD j undef) (by grind)
     (λx hx=>by
      grind)
     (λi j x c hx hj=>by
      grind)
     (λi j x c hx hj=>by
      obtain⟨_,v,h1,_,h3,_⟩:=key i j x c hx hj
      rw[aAZ,h1];exact h3)
     (λi j x c hx hj=>by
      obtain⟨_,v,h1,_,_,h4⟩:=key i j x c hx hj
      rw[aAZ,h1];exact h4)
    grind
theorem Rep.append {ds':List D} {cs cs':List Value} (h:Rep W ds cs) (h':Rep W ds' cs'):Rep W (ds++ds') (cs++cs'):=by
 obtain⟨h1,h2,h3⟩:=h;obtain⟨k1,k2,k3⟩:=h';refine⟨by simp_all,λv hv=>(aAe.1 hv).elim (h2 v) (k2 v),λj c v hc hv=>?_⟩
 grind
theorem Rd.arg {T:Type} {en:T->D} {Q:T->Prop} (h:Rd P W t en Q) (hagg:∀ a,(match P.underlying t with|some (.struct _)|some (.array _ _)=>True|_=>False)->∃ cs,en a= .agg cs) (hone:∀ a,¬ (match P.underlying t with|some (.struct _)|some (.array _ _)=>True|_=>False)->cells (en a)=[en a]) {enc:TypeId×Value->H} {b0:Nat} {d:DataW H} {p:List MemPlace} (hv:aAd P W .any b0 t v) (hr:DataW.Trod enc P W 0 (λ_=>true) true t v d p) (hw:Wt P t d):∃ a,Q a/\Fro (Xv W) (en a) v:=by
 obtain⟨n,hn⟩:=hr;obtain⟨a,hq,r1,r2,r3⟩:=h.rd n _ _ hn hw;refine⟨a,hq,?_⟩
 by_cases hs:(match P.underlying t with|some (.struct _)|some (.array _ _)=>True|_=>False)
 ·obtain⟨cs,hcs⟩:=hagg a hs;have hva:∃ C,v= .agg C:=by
   grind [aAd]
  obtain⟨C,rfl⟩:=hva;rw[hcs]at r1 r3 ⊢;simp only[Value.cells]at r1 r2 r3;have:=Fro.agg (F:=Xv W) cs C.toList r1 r2 r3;omega
 ·have h1:=hone a hs;have hva:∃ x,v.cells.toList=[x]/\v=x:=by
   have hl:v.cells.toList.length=1:=by simp_all
   cases v with
   | agg C =>
    exfalso;unfold aAd at hv;split at hv
    all_goals simp_all[Cell.okWide,Cell.ok]
   | _=>exact⟨_,rfl,rfl⟩
  obtain⟨x,hx,rfl⟩:=hva;rw[h1]at r3;exact r3 0 _ _ rfl (by rw[hx];rfl)
end
open Go.ChangeShapes Go.WideShapes Go.ChangeAt Go.RowKit
section
variable {H:Type} {enc:TypeId×Value->H} {P:Program} {W W':World}
theorem JP (hb:∀ b,b<W.heap.size->W'.heap[b]? =W.heap[b]?) (h:a.block<W.heap.size):W'.cell? a=W.cell? a:=by
 grind [aAh]
theorem IA (hb:∀ b,b<W.heap.size->W'.heap[b]? =W.heap[b]?) (h:a.block<W.heap.size):W'.frozen? a=W.frozen? a:=by
 grind [World.frozen?]
theorem Kh (hb:∀ b,b<W.heap.size->W'.heap[b]? =W.heap[b]?) {p:MemPlace} (h:p.block<W.heap.size):W.sameAt W' p:=by
 cases p with
 | cell b off=>exact JP hb h
 | map b=>exact hb b h
theorem Eh {sp:Nat->Bool} (K:Kids P (· <P.types.size)) (hz:∀ t e,t<P.types.size->P.underlying t=some (.slice e)->0<P.cellsOf e):∀ {ts:List TypeId} {vs:List Value} {ds:List (DataW H)} {ps:List MemPlace},(∀ t∈ts,t<P.types.size) ->
  aAa enc P W 0 (λ_=>true) true ts vs ds ps->(∀ p∈ps,W.sameAt W' p)->(∀ p∈ps,sp p.block=true)->aAa enc P W' 0 sp true ts vs ds ps
 | [],[],[],_,_,h,_,_=>h
 | _::_,_::_,_::_,_,hT,⟨p,q,⟨n,h1⟩,h2,e⟩,hs,hsp=>by
  subst e
  exact⟨p,q,⟨n,DataW.trod_respare K hz n _ _ _ (hT _ (aAY.2 (Or.inl rfl))) (DataW.trod_carry n _ _ _ h1 (λx hx=>hs x (List.mem_append_left _ hx))) (λx hx=>hsp x (List.mem_append_left _ hx))⟩,
   Eh K hz (λt ht=>hT t (aAY.2 (Or.inr ht))) h2 (λx hx=>hs x (aAi _ hx)) (λx hx=>hsp x (aAi _ hx)),rfl⟩
 | [],[],_::_,_,_,h,_,_=>h.elim
 | [],_::_,_,_,_,h,_,_=>h.elim
 | _::_,[],_,_,_,h,_,_=>h.elim
 | _::_,_::_,[],_,_,h,_,_=>h.elim
theorem Gq {f:Func} {apart fresh handsOn again:Bool} {args:Array Value} {ds gs:List (DataW H)} (hW:DataW.Whole enc P f.params.toList s.vars apart W args.toList ds gs before) (hvs:s.vars=[]) (K:Kids P (· <P.types.size)) (hz:∀ t e,t<P.types.size->P.underlying t=some (.slice e)->0<P.cellsOf e) (hts:∀ t∈f.params.toList,t<P.types.size) (hres:∀ (b:Nat) (sp:Nat->Bool) (hd:Bool),aAa enc P W' b sp hd f.resultTypes.toList (v.resultList f.resultTypes.size) (s.fn H (ds++gs)).results []) (hargs:(s.fn H (ds++gs)).args=ds) (hvars:(s.fn H (ds++gs)).vars=[]) (hos:W'.os=W.os) (hout:W'.output=W.output) (hb:∀ b,b<W.heap.size->W'.heap[b]? =W.heap[b]?) (hok:∀ (j:Nat) (t:TypeId) (r:Value),f.resultTypes[j]? =some t->(v.resultList f.resultTypes.size)[j]? =some r->aAd P W' .any 0 t r) :
  s.post enc P f apart fresh handsOn again W args v W':=by
 have hW':=hW;obtain⟨p,q,hA,hV,e,hzz,hn⟩:=hW;rw[hvs]at hV;obtain⟨rfl,rfl⟩:=trodVars_none hV;subst e;simp only[aAT]at hW' hn hzz;have hlt:∀ x∈p,x.block<W.heap.size:=hW'.lt;have hargs':∀ sp:Nat->Bool,(∀ x∈p,sp x.block=true)->aAa enc P W' 0 sp true f.params.toList args.toList (s.fn H (ds++[])).args p:=by
  grind [Eh,Kh]
 have hvars':∀ sp:Nat->Bool,DataW.TrodVars enc P W' sp s.vars (s.fn H (ds++[])).vars []:=by
  intro sp;rw[hvs,hvars];exact(rfl:([]:List MemPlace)=[])
 have hold:∀ x∈p,(λb=>decide (b<W.heap.size)) x.block=true:=λx hx=>by simp_all
 refine⟨ds,[],p,[],p,[],hW',hres _ _ _,hargs' _ hold,hvars' _,⟨hos,hout,λi hi=>?_⟩,λ_=>?_⟩
 ·grind
 ·refine⟨hok,_,_,([]++p)++[],⟨[]++p,[],trodAll_append (hargs' _ (λ_ _=>rfl)) (hres _ _ _),hvars' _,rfl,?_,?_⟩,?_⟩
  ·intro b off hp;have hp':MemPlace.cell b off∈p:=by simp_all
   rw[IA hb (hlt _ hp')];exact hzz b off hp'
  all_goals simp_all
theorem Aqt {A:Type} {enc0:A->List D} {dec0:List D->A} {f:A->Option Bool} {encR:Bool->D} {encE:Bool->List D} (hspec:Ns P k (NU [] .ground enc0 dec0 f encR encE)) (hde:∀ a,dec0 (enc0 a)=a) (hR:encR true= .bool true) {apart fresh handsOn again:Bool} {args:Array Value} {ds gs:List (DataW H)} (hW:DataW.Whole enc P fn.params.toList s.vars apart W args.toList ds gs before) (hvs:s.vars=[]) (hl:laidOutB P=true) (hm:mapsRowed P=true) (hz:((aAO P.types.size).all λt=>match P.underlying t with|some (.slice e)=>decide (0<P.cellsOf e)|_=>true)=true) (hts:fn.params.toList.all (λt=>decide (t<P.types.size))=true) {tb:TypeId} (hrt:fn.resultTypes= #[tb]) (htb:P.underlying tb=some .bool) (hfn:∀ ds:List (DataW H),ds.length=fn.params.size->s.fn H ds={ results:=[.lit (.bool true)],args:=ds,vars:=[] }) (hlen:ds.length=fn.params.size) (hglob:YQ P (Xv W)) (hread:∃ a,UG (Xv W) W [] 0 (enc0 a) args.toList []/\f a=some true) :
  Calls P k args W λe W'=>∃ v,e= .returned v/\s.post enc P fn apart fresh handsOn again W args v W':=by
 obtain⟨a,hA,hfa⟩:=hread;have hgs:gs=[]:=by
  obtain⟨p,q,_,hV,_⟩:=hW
  grind [trodVars_none]
 subst hgs;have hF:Fok (Xv W) W:=λb i x h=>h
 have hfin:∀ b i x,Xv W b i=some x->b<W.heap.size:=by
  grind [Xv,aAh]
 have h:=(hspec (Xv W) hglob).2.2.1 rfl rfl W (Xv W) (enc0 a) args.toList [] (NX.refl _) hF hfin hA ⟨a,true,rfl,hfa⟩;have e0:args.toList.toArray=args:=by simp
 rw[e0]at h;refine h.mono λe W' hq=>?_
 obtain⟨v,F',_,_,rfl,_,_,hst,hres,_⟩:=hq;have hv:v= .bool true:=by
  have h1:Fro F' ((NU [] .ground enc0 dec0 f encR encE).res (enc0 a)) v:=hres;rw[Tm hde hfa,hR]at h1;cases h1;rfl
 subst hv;refine⟨_,rfl,Gq hW hvs (kids_rows hl hm) (slices_full_of P hz) (λt ht=>by grind) ?_ ?_ ?_ hst.os hst.output (λb hb=>hst.block b hb (λ⟨_,hm,_⟩=>by cases hm)) ?_⟩
 ·intro b sp hd;rw[aAT,hfn ds hlen,hrt];exact trodAll_cons_mk (p:=[]) (p':=[]) (shut_bool htb true) trodAll_mk0
 ·simp_all
 ·simp_all
 ·exact ok_one hrt rfl (okWide_bool_mk htb true)
end
def uR {α:Type} (u:D->α):D->List α| .row _ _ es=>es.map u|_=>[]
@[simp] theorem AwF {u:D->α} {en:α->D} (h:∀ a,u (en a)=a) (s ty:Nat) (l:List α):uR u (.row s ty (l.map en))=l:=by
 simp only[uR,aAU]
 conv=>rhs;rw[<- List.map_id l]
 exact aAP λa _=>h a
section
variable {Γ:Al} {X:Type} {K:KR X} {t:Option X} {e:List (Nat×D)} {o:List (Nat×Aa)} {n nv:Nat} {d:Bool} {acc:List Cj}
 {r:List Ar} {dst:Nat} {g:Option (Nat×Bool)} {af:List Nat} {α:Type}
variable {x y:Arg} {v w:D} {k k':IntKind} {a b:Int} {s ty gi vi ii off m:Nat} {fz var:Bool} {es es':List D} {z z':D} {l l':List α} {en:α->D}
theorem Adf (hg:gOn e g=true) (hx:Ae e x=some (.optr gi vi i off)) (hy:Ae e y=some v) (hw:strip v=(true,v)) (ho:lkO o gi=some (vi,⟨false,var,s,ty,es⟩)) (hr:(AF var (cells v)).run ⟨e,o,n⟩=(c,cs',wo)) (hrd:(AF var (cells v)).rd ⟨e,o,n⟩=rk) (hc:c) (hz:es[i]? =some z) (hk:known v=true) (hl:(cells v).length=m) (hb:aAH (off+m) (cells z).length=true) (hes:es.set i (Ps z off cs')=es') (hwo:wo.all (λx=>x.1 != gi)=true) (h:TrO Γ r (nv+1) ⟨e,(gi,some (vi,⟨false,var,s,ty,es'⟩))::(wo++o),n⟩ d (acc++[(gK g++(rdK x++(rdK y++(.o gi::rk))),.o gi::wo.map (λx=>.o x.1),af)]) K t) (hrg:Ad gi=true:=by rfl) :
  TrO Γ (⟨none,.st m x y,g,af⟩::r) nv ⟨e,o,n⟩ d acc K t:=by
 have hb':=aAA hb;obtain⟨hi',rfl⟩:=aA.1 hz;have hgd:es.getD i .top=es[i]:=by simp[hi']
 refine As hg (c:=True) (we:=[]) (wo:=(gi,some (vi,⟨false,var,s,ty,es'⟩))::wo) (rd:=rdK x++(rdK y++(Key.o gi::rk))) ?_ ?_ trivial (by simp_all)
 ·simp only[evalOp,R.run_bind,BM,aAB,hx,hy,hw,DY,R.Cy,BV,ho,hrg,if_true,R.BT,hr,hgd,hes]
  grind
 simp_all[evalOp,DY]
theorem Hi {s':Nat} (hg:gOn e g=true) (hx:Ae e x=some (.osl gi vi 0 q)) (ho:lkO o gi=some (ii,⟨false,var,s,ty,es⟩)) (h:TrO Γ r (nv+1) ⟨(dst,.osl gi vi 0 q)::e,o,n⟩ d (acc++[(gK g++(rdK x++[.o gi]),[.e dst],af)]) K t) (hrg:Ad gi=true:=by rfl) :
  TrO Γ (⟨some dst,.asg x (some (s',ty')),g,af⟩::r) nv ⟨e,o,n⟩ d acc K t:=by
 refine As hg (c:=True) (we:=[(dst,.osl gi vi 0 q)]) (wo:=[]) (rd:=rdK x++[Key.o gi]) ?_ ?_ trivial h
 ·simp only[evalOp,R.run_bind,BP,aAB,hx,R.Cy,BV,ho,aAQ,if_false,R.BT,hrg,if_true,Ah]
 simp_all[evalOp]
theorem Ade (hg:gOn e g=true) (hx:Ae e x=some (.int k a)) (hy:Ae e y=some (.int k' a)) (hl:0<=a/\a<=16777216) (hby:aAH bytes 65536=true) (h:TrO Γ r (nv+1) ⟨(dst,.osl dst nv 0 (aAF a.toNat ([]:List α)).length)::e,(dst,some (nv,⟨false,false,s,ty,(aAF a.toNat ([]:List α)).map (λ_=>.nils)⟩))::o,n⟩ d (acc++[(gK g++(rdK x++rdK y),[.e dst,.o dst],af)]) K t) :
  TrO Γ (⟨some dst,.mkS s ty bytes .nils x y,g,af⟩::r) nv ⟨e,o,n⟩ d acc K t:=by
 have:=aAA hby;exact As hg (c:=True) (we:=[(dst,.osl dst nv 0 (aAF a.toNat ([]:List α)).length)]) (wo:=[(dst,some (nv,⟨false,false,s,ty,(aAF a.toNat ([]:List α)).map (λ_=>.nils)⟩))]) (rd:=rdK x++rdK y) (by simp_all[evalOp,Ah,AP,strip]) (by simp_all[evalOp,strip]) trivial h
end
section
variable {e E:List (Nat×D)} {o O:List (Nat×Aa)} {n:Nat} {α:Type} {g v s ty:Nat} {var:Bool} {es es':List D} {z:D}
theorem CO {τ:S} (hw:Rw ⟨e,o,n⟩ τ) (h:Has τ E O):Has ⟨e,o,n⟩ E O:=h.imp λ_ h=>.rw hw h
theorem Abf {off g' v' m s':Nat} {l:List α} {en:α->D} {c:D} (ho:lkO o g=some (v,⟨false,var,s,ty,es⟩)) (hz:es[i]? =some z) (hc:(cells z)[off]? =some c) (hh:c= .hole g' v' m\/(c= .osl g' v' 0 m/\var=true)) (ho':lkO o g'=some (v',⟨false,false,s',ty',l.map en⟩)) (hm:m=l.length) (hp:∀ q,AO (en q)=true) (hes:es.set i (Ps z off [.row s' ty' (l.map en)])=es') (h:Has ⟨e,(g,some (v,⟨false,var,s,ty,es'⟩))::(g',none)::o,n⟩ E O) (hrg:Ad g=true:=by rfl) (hne:aAL g g'=false:=by rfl):Has ⟨e,o,n⟩ E O:=by
 obtain⟨hi,rfl⟩:=aA.1 hz;have hgd:es.getD i .top=es[i]:=by simp[hi]
 have hne':g≠g':=λe=>by simp_all
 subst hm
 have:=Rw.close (σ:=⟨e,o,n⟩) g v i off g' v' l.length ⟨false,var,s,ty,es⟩ ⟨false,false,s',ty',l.map en⟩ c (by simp_all) hrg rfl hi (by simp_all) hh (by simp_all) rfl rfl (by simp) (.inr λe he=>by
  grind) hne'
 grind [CO,Cz]
theorem Aht {off s':Nat} (t:Nat) (l:List α) (en:α->D) (ho:lkO o g=some (v,⟨false,true,s,ty,[z]⟩)) (hc:(cells z)[off]? =some (.row s' ty' (l.map en))) (hz:Ps z off [.osl (4096+t) n 0 l.length]=z') (h:Has ⟨e,(4096+t,some (n,⟨false,false,s',ty',l.map en⟩))::(g,some (v,⟨false,true,s,ty,[z']⟩))::o,n+1⟩ E O) (hrg:Ad g=true:=by rfl) (hne:aAL g (4096+t)=false:=by rfl):Has ⟨e,o,n⟩ E O:=by
 have hne':g≠4096+t:=λe=>by simp_all
 have:=Rw.opn (σ:=⟨e,o,n⟩) g v 0 off t s' ty' (l.map en) ⟨false,true,s,ty,[z]⟩ (by simp_all) hrg rfl rfl (by simp) hc hne'
 grind [CO]
theorem AsN {g2:Nat} (ho:lkO o g=some (v,⟨false,var,s,ty,es⟩)) (hrg:Ad g=false) (hg2:g2=4096+g) (he:Each (Enr false) es es')
  (h:Has ⟨e.map (λp=>(p.1,ren g g2 p.2)),(g2,some (v,⟨false,var,s,ty,es'⟩))::(g,none)::o,n⟩ E O):Has ⟨e,o,n⟩ E O:=by
 have:=Rw.enrich (σ:=⟨e,o,n⟩) g g2 v ⟨false,var,s,ty,es⟩ es' (by simp_all) rfl (.inr ⟨hrg,hg2⟩) (by grind)
 grind [CO,aAS]
theorem Age (ho:lkO o g=some (v,⟨false,false,s,ty,es⟩)) (he:es.map nrm=es') (h:Has ⟨e,(g,some (v,⟨false,false,s,ty,es'⟩))::o,n⟩ E O) (hrg:Ad g=false:=by rfl):Has ⟨e,o,n⟩ E O:=by
 subst he;have:=Rw.nilsl (σ:=⟨e,o,n⟩) g v ⟨false,false,s,ty,es⟩ (by simp_all) hrg rfl rfl
 grind [CO]
theorem AiA {l:List (List α)} (en:α->D) (hl:∀ q∈l,q=[]):(l.map λ_=>D.nils).map nrm=l.map (eL en):=by
 rw[aAU];refine aAP λq hq=>?_
 rw[hl q hq];rfl
theorem JV (ho:lkO o g=some (v,⟨false,true,s,ty,[z]⟩)) (hc:(cells z).all OQ=true) (h:Has ⟨e.map (λp=>(p.1,frp g v z p.2)),(g,none)::o.map (λp=>(p.1,frO g v z p.2)),n⟩ E O):Has ⟨e,o,n⟩ E O:=by
 have:=Rw.fvar (σ:=⟨e,o,n⟩) g v ⟨false,true,s,ty,[z]⟩ z (by simp_all) rfl rfl rfl hc
 grind [CO]
end
abbrev eA {α:Type} (en:α->D) (l:List α):D:=.agg (l.map en)
def uA {α:Type} (u:D->α):D->List α| .agg cs=>cs.map u|_=>[]
@[simp] theorem Nl {u:D->α} {en:α->D} (h:∀ a,u (en a)=a) (l:List α):uA u (.agg (l.map en))=l:=by
 simp only[uA,aAU]
 conv=>rhs;rw[<- List.map_id l]
 exact aAP λa _=>h a
def fpD:D->D| .fptr e _=>e|_=>.top
def AdN:D->Nat->D| .clo _ caps,j=>caps.getD j .top|_,_=>.top
theorem Gg (cs:List D) (off:Nat) (d:D):setAt cs off [d]=cs.set off d:=rfl
section
variable {Γ:Al} {X:Type} {K:KR X} {t:Option X} {e:List (Nat×D)} {o:List (Nat×Aa)} {n nv:Nat} {d:Bool} {acc:List Cj}
 {r:List Ar} {dst:Nat} {g:Option (Nat×Bool)} {af:List Nat} {α:Type}
variable {x y:Arg} {v w:D} {k k':IntKind} {a b:Int} {s ty gi vi ii off m:Nat} {fz var:Bool} {l:List α} {en:α->D}
theorem QA {len:Nat} (hg:gOn e g=true) (hx:Ae e x=some (.optr gi vi i off)) (hy:Ae e y=some (.int k a)) (hi:0<=a/\a<len) (h:TrO Γ r (nv+1) ⟨(dst,.optr gi vi i (off+a.toNat*s))::e,o,n⟩ d (acc++[(gK g++(rdK x++rdK y),[.e dst],af)]) K t) :
  TrO Γ (⟨some dst,.ixP s len x y,g,af⟩::r) nv ⟨e,o,n⟩ d acc K t :=
 As hg (c:=True) (we:=[(dst,.optr gi vi i (off+a.toNat*s))]) (wo:=[]) (rd:=rdK x++rdK y) (by simp[evalOp,Ah,strip,hx,hy,hi.1,hi.2]) (by simp[evalOp,strip,hx,hy]) trivial h
theorem Qs {q:α} (hj:off=j) (hg:gOn e g=true) (hx:Ae e x=some (.optr gi vi 0 off)) (ho:lkO o gi=some (vi,⟨fz,var,s,ty,[.agg (l.map en)]⟩)) (hi:l[j]? =some q) (hpl:plain (en q)=true) (_hc:∀ q,cells (en q)=[en q]) (h:TrO Γ r (nv+1) ⟨(dst,en q)::e,o,n⟩ d (acc++[(gK g++(rdK x++[.o gi]),[.e dst],af)]) K t) :
  TrO Γ (⟨some dst,.ld 1 false x,g,af⟩::r) nv ⟨e,o,n⟩ d acc K t:=by
 subst hj;have hl:=(aA.1 hi).1;refine Aey (i:=0) (m:=1) (agg:=false) (off:=off) (z:=.agg (l.map en)) (v:=en q) hg hx ho rfl ?_ ?_ h (by simp[hpl])
 ·simp only[cells,aAM];exact aAG (by omega)
 ·simp only[Oj,cells,aAQ,if_false];simp[hi]
theorem AiH {q q':α} (hj:off=j) (hg:gOn e g=true) (hx:Ae e x=some (.optr gi vi 0 off)) (hy:Ae e y=some (en q')) (hw:strip (en q')=(true,en q')) (ho:lkO o gi=some (vi,⟨false,true,s,ty,[.agg (l.map en)]⟩)) (hi:l[j]? =some q) (hk:known (en q')=true) (hc:cells (en q')=[en q']) (hz:D.agg ((l.set j q').map en)=z') (h:TrO Γ r (nv+1) ⟨e,(gi,some (vi,⟨false,true,s,ty,[z']⟩))::o,n⟩ d (acc++[(gK g++(rdK x++(rdK y++[.o gi])),[.o gi],af)]) K t) (hrg:Ad gi=false:=by rfl) :
  TrO Γ (⟨none,.st 1 x y,g,af⟩::r) nv ⟨e,o,n⟩ d acc K t:=by
 subst hj;subst hz;have hl:=(aA.1 hi).1;refine Vf (z:=.agg (l.map en)) (z':=.agg ((l.set off q').map en)) hg hx hy hw ho hk (by rw[hc];rfl) ?_ ?_ h hrg
 ·simp only[cells,aAM];exact aAG (by omega)
 ·simp only[Ps,hc,Gg,aAj]
theorem Agu {q q':α} (hj:off=j) (hg:gOn e g=true) (hx:Ae e x=some (.optr gi vi 0 off)) (hy:Ae e y=some (en q')) (hw:strip (en q')=(true,en q')) (ho:lkO o gi=some (vi,⟨false,true,s,ty,[.agg (l.map en)]⟩)) (hi:l[j]? =some q) (hk:known (en q')=true) (hc:cells (en q')=[en q']) (hz:D.agg ((l.set j q').map en)=z') (hcl:(AF true [en q']).run ⟨e,o,n⟩=(True/\True/\([]:List (Nat×Aa)).all (λ_=>([]:List (Nat×Aa)).all λ_=>true)=true,[en q'],[])) (hrd:(AF true [en q']).rd ⟨e,o,n⟩=[]) (h:TrO Γ r (nv+1) ⟨e,(gi,some (vi,⟨false,true,s,ty,[z']⟩))::o,n⟩ d (acc++[(gK g++(rdK x++(rdK y++[.o gi])),[.o gi],af)]) K t) (hrg:Ad gi=true:=by rfl) :
  TrO Γ (⟨none,.st 1 x y,g,af⟩::r) nv ⟨e,o,n⟩ d acc K t:=by
 subst hj;subst hz;have hl:=(aA.1 hi).1;refine Adf (i:=0) (c:=True/\True/\([]:List (Nat×Aa)).all (λ_=>([]:List (Nat×Aa)).all λ_=>true)=true) (z:=.agg (l.map en)) (es':=[.agg ((l.set off q').map en)]) (cs':=[en q']) (wo:=[]) (rk:=[]) hg hx hy hw ho (by rw[hc];exact hcl) (by rw[hc];exact hrd) ⟨trivial,trivial,rfl⟩ rfl hk (by rw[hc];rfl) ?_ ?_ rfl h hrg
 ·simp only[cells,aAM];exact aAG (by omega)
 ·simp only[Ps,Gg,aAj,List.set_cons_zero]
theorem AuK {len:Nat} (hg:gOn e g=true) (hx:Ae e x=some (.fptr z off)) (hy:Ae e y=some (.int k a)) (hi:0<=a/\a<len) (h:TrO Γ r (nv+1) ⟨(dst,.fptr z (off+a.toNat*s))::e,o,n⟩ d (acc++[(gK g++(rdK x++rdK y),[.e dst],af)]) K t) :
  TrO Γ (⟨some dst,.ixP s len x y,g,af⟩::r) nv ⟨e,o,n⟩ d acc K t :=
 As hg (c:=True) (we:=[(dst,.fptr z (off+a.toNat*s))]) (wo:=[]) (rd:=rdK x++rdK y) (by simp[evalOp,Ah,strip,hx,hy,hi.1,hi.2]) (by simp[evalOp,strip,hx,hy]) trivial h
theorem Ara {q:α} (hj:off=j) (hg:gOn e g=true) (hx:Ae e x=some (.fptr (.agg (l.map en)) off)) (hi:l[j]? =some q) (_hc:∀ q,cells (en q)=[en q]) (h:TrO Γ r (nv+1) ⟨(dst,en q)::e,o,n⟩ d (acc++[(gK g++rdK x,[.e dst],af)]) K t) :
  TrO Γ (⟨some dst,.ld 1 false x,g,af⟩::r) nv ⟨e,o,n⟩ d acc K t:=by
 subst hj;have hl:=(aA.1 hi).1;refine DZ (m:=1) (agg:=false) (off:=off) (z:=.agg (l.map en)) (v:=en q) hg hx ?_ ?_ h
 ·simp only[cells,aAM];exact aAG (by omega)
 ·simp only[Oj,cells,aAQ,if_false];simp[hi]
theorem Anx {q:α} {len:Nat} (hg:gOn e g=true) (hx:Ae e x=some (.agg (l.map en))) (hy:Ae e y=some (.int k a)) (hi:0<=a/\a<len) (hl:len<=l.length) (hq:l[a.toNat]? =some q)
  (h:TrO Γ r (nv+1) ⟨(dst,en q)::e,o,n⟩ d (acc++[(gK g++(rdK x++rdK y),[.e dst],af)]) K t) :
  TrO Γ (⟨some dst,.ix 1 len false x y,g,af⟩::r) nv ⟨e,o,n⟩ d acc K t:=by
 refine As hg (c:=True) (we:=[(dst,en q)]) (wo:=[]) (rd:=rdK x++rdK y) ?_ (by simp[evalOp,strip,hx,hy]) trivial h
 simp[evalOp,Ah,strip,hx,hy,hi.1,hi.2,hl,Oj,hq]
end
section
variable {Γ Γ':Al} {X ι γ:Type} {K:X->Aq->S->Prop} {t:Option X} {e E:List (Nat×D)} {o O:List (Nat×Aa)} {n nv N:Nat} {acc:List Cj}
 {r:List Ar} {dst:Option Nat} {g:Option (Nat×Bool)} {af:List Nat}
theorem WJ {E1:List (Nat×D)} {O1:List (Nat×Aa)} (h:Has σ E1 O1) (k:∀ n,Has ⟨E1,O1,n⟩ E O):Has σ E O :=
 h.elim λn h=>(k n).imp λ_ k=>h.trans k
theorem PK (rn:Nat->Nat) (hn:CG rn (o.map Prod.fst)=true) (h:Has ⟨e.map (λp=>(p.1,rnm rn p.2)),o.map (λp=>(rn p.1,rnO rn p.2)),n⟩ E O):Has ⟨e,o,n⟩ E O :=
 CO (Rw.nams (σ:=⟨e,o,n⟩) rn hn) h
def TrC (Γ:Al) (op:Ar) (r:List Ar) (K:X->Aq->S->Prop) (σ:S) (t:Option X):Prop:=∀ x,t=some x->FE Γ op σ (Wk (λτ=>wpS Γ r τ.n τ (K x .normal)))
theorem TQ {op:Ar} {E:γ->List (Nat×D)} {O:γ->List (Nat×Aa)} (g0:γ) (hh:Has ⟨e,o,nv⟩ (E g0) (O g0)) (h:∀ g nn,TrC Γ op r K ⟨E g,O g,nn⟩ t):TrO Γ (op::r) nv ⟨e,o,n⟩ false acc (EX N K) t:=by
 intro x hx;refine⟨λ_=>.inr ?_,λhd=>by cases hd⟩
 obtain⟨m,hm⟩:=hh;exact⟨_,hm,h g0 m x hx⟩
def IC (Γ:Al) (r:List Ar) (dst:Option Nat) (rs:List Az) (e:List (Nat×D)) (K:X->Aq->S->Prop):X->Aq->S->Prop:=λx =>
 GX rs e (λd τ=>Wk (λτ=>wpS Γ r τ.n τ (K x .normal)) ⟨Ah dst d++τ.e,τ.o,τ.n⟩)
def ID (dst:Option Nat) (rs:List Az) (e:List (Nat×D)) (E:ι->γ->List (Nat×D)) (O:ι->γ->List (Nat×Aa)) (j:ι->Option X):X->Aq->S->Prop:=λx =>
 GX rs e (λd τ=>∃ s g,j s=some x/\Has ⟨Ah dst d++τ.e,τ.o,τ.n⟩ (E s g) (O s g))
theorem Hh {args:List Arg} {caps:List D} {KK:X->Aq->S->Prop} (hg:gOn e g=true) (hf:Ae e fa=some (.clo k caps)) (hds:Ap e args=ds) (hw:ds.all (λd=>(match d with| .when ..=>false|_=>true))=true) (hkb:aAC (unb args k) 4096=true) (hΓ:Γ (unb args k+4096*AJ ds)=some (Zl Γ' np rs dc)) (hnp:(ds++caps).length=np) (hE:Da 0 (ds++caps)=E) (hK:∀ x ex τ,KK x ex τ->IC Γ r dst rs e K x ex τ) (h:Tr Γ' dc KK ⟨E,o,n⟩ t) :
  TrC Γ ⟨dst,.call fa args,g,af⟩ r K ⟨e,o,n⟩ t:=by
 intro x hx;have hrd:(AD args).run ⟨e,o,n⟩=ds:=by grind [BD]
 have hraw:(raw fa).run ⟨e,o,n⟩= .clo k caps:=by simp[hf]
 have hon:onG g ⟨e,o,n⟩:=by
  cases g with
  | none=>trivial
  | some p =>
   obtain⟨tt,want⟩:=p;show(guardOf ((S.mk e o n).ge tt) want).1/\(guardOf ((S.mk e o n).ge tt) want).2=true
   grind [gOn,Bz,S.ge,guardOf]
 refine⟨hon,fa,args,k,caps,Zl Γ' np rs dc,DW Γ' np rs dc,Wk (λτ=>wpS Γ r τ.n τ (K x .normal)),λτ hτ=>hτ,rfl,hraw,hkb,?_,rfl,?_,?_⟩
 ·simp_all
 ·grind
 ·show DW Γ' np rs dc ((AD args).run ⟨e,o,n⟩++caps) ⟨e,o,n⟩ _;rw[hrd];refine⟨hnp,_,.refl _,?_⟩;show DWp Γ' dc _ ⟨Da 0 (ds++caps),o,n⟩;rw[hE];exact AG dc _ _ _ (λex τ hq=>hK x ex τ hq) (h x hx)
theorem Afv {args:List Arg} {caps:List D} (hg:gOn e g=true) (hf:Ae e fa=some (.clo k caps)) (hds:Ap e args=ds) (hw:ds.all (λd=>(match d with| .when ..=>false|_=>true))=true) (hkb:aAC (unb args k) 4096=true) (hΓ:Γ (unb args k+4096*AJ ds)=some (Zl Γ' np rs dc)) (hnp:(ds++caps).length=np) (hE:Da 0 (ds++caps)=E) (h:Tr Γ' dc (IC Γ r dst rs e K) ⟨E,o,n⟩ t) :
  TrC Γ ⟨dst,.call fa args,g,af⟩ r K ⟨e,o,n⟩ t:=Hh hg hf hds hw hkb hΓ hnp hE (λ_ _ _ h=>h) h
theorem Ep {K1 K2:D->S->Prop} (h:∀ d τ,K1 d τ->K2 d τ) {τ:S} (hq:GX rs e K1 ex τ):GX rs e K2 ex τ:=by
 cases ex with
 | exit id=>exact hq
 | normal=>exact Wk.mono (λτ h'=>⟨h'.1,h _ _ h'.2⟩) hq
 | ret=>exact Wk.mono (λτ h'=>⟨h'.1,h _ _ h'.2⟩) hq
theorem Yy {args:List Arg} {caps:List D} {ES:ι->γ->List (Nat×D)} {OS:ι->γ->List (Nat×Aa)} {j:ι->Option X} (hg:gOn e g=true) (hf:Ae e fa=some (.clo k caps)) (hds:Ap e args=ds) (hw:ds.all (λd=>(match d with| .when ..=>false|_=>true))=true) (hkb:aAC (unb args k) 4096=true) (hΓ:Γ (unb args k+4096*AJ ds)=some (Zl Γ' np rs dc)) (hnp:(ds++caps).length=np) (hE:Da 0 (ds++caps)=E) (h:Tr Γ' dc (ID dst rs e ES OS j) ⟨E,o,n⟩ t) (h2:∀ s g nn,TrO Γ r nn ⟨ES s g,OS s g,nn⟩ false [] (EX 0 K) (j s)) :
  TrC Γ ⟨dst,.call fa args,g,af⟩ r K ⟨e,o,n⟩ t:=by
 refine Hh (KK:=ID dst rs e ES OS j) hg hf hds hw hkb hΓ hnp hE (λx ex τ hq=>?_) h
 refine Ep (λd τ hq=>?_) hq
 obtain⟨s,g,hj,m,hm⟩:=hq;exact⟨_,hm,(h2 s g m x hj).1 rfl⟩
theorem AcP {d:D} {n':Nat} (hex:(match ex with| .exit _=>false|_=>true)=true) (hr:(Oc rs ⟨e',o',n'⟩).1) (hd:(Oc rs ⟨e',o',n'⟩).2=d) (hh:Has ⟨Ah dst d++e,o',n'⟩ E O) (h:∀ nn,TrO Γ r nn ⟨E,O,nn⟩ false [] (EX 0 K) t):TrX ex (IC Γ r dst rs e K) ⟨e',o',n'⟩ t:=by
 intro x hx;subst hd;have key:Wk (λτ=>(Oc rs τ).1/\(λ(d:D) (τ:S)=>Wk (λτ=>wpS Γ r τ.n τ (K x .normal)) ⟨Ah dst d++τ.e,τ.o,τ.n⟩) (Oc rs τ).2 ⟨e,τ.o,τ.n⟩) ⟨e',o',n'⟩:=by
  refine⟨_,.refl _,?_⟩;obtain⟨m,hm⟩:=hh;exact⟨hr,_,hm,(h m x hx).1 rfl⟩
 cases ex with
 | exit id=>cases hex
 | normal=>exact key
 | ret=>exact key
theorem Qw {d:D} {n':Nat} {ES:ι->γ->List (Nat×D)} {OS:ι->γ->List (Nat×Aa)} {j:ι->Option X} {s:ι} (g:γ) (hex:(match ex with| .exit _=>false|_=>true)=true) (hr:(Oc rs ⟨e',o',n'⟩).1) (hd:(Oc rs ⟨e',o',n'⟩).2=d) (hh:Has ⟨Ah dst d++e,o',n'⟩ (ES s g) (OS s g)):TrX ex (ID dst rs e ES OS j) ⟨e',o',n'⟩ (j s):=by
 intro x hx;subst hd;have key:Wk (λτ=>(Oc rs τ).1/\(λ(d:D) (τ:S)=>∃ s g,j s=some x/\Has ⟨Ah dst d++τ.e,τ.o,τ.n⟩ (ES s g) (OS s g)) (Oc rs τ).2 ⟨e,τ.o,τ.n⟩) ⟨e',o',n'⟩:=by
  refine⟨_,.refl _,hr,s,g,hx,hh⟩
 cases ex with
 | exit id=>cases hex
 | normal=>exact key
 | ret=>exact key
theorem Ajf {KK:KR X} {y:Arg} {s ty gi vi:Nat} {l:List α} {en:α->D} {q q':α} (hg:gOn e g=true) (hx:Ae e x=some (.optr gi vi i 0)) (hy:Ae e y=some (en q')) (hw:strip (en q')=(true,en q')) (ho:lkO o gi=some (vi,⟨false,false,s,ty,l.map en⟩)) (hi:l[i]? =some q) (hk:known (en q')=true) (hc:∀ q,cells (en q)=[en q]) (hz:Ps (en q) 0 [en q']=en q') (hcl:(AF false [en q']).run ⟨e,o,n⟩=(c,[en q'],[])) (hrd:(AF false [en q']).rd ⟨e,o,n⟩=rk) (hcc:c) (h:TrO Γ r (nv+1) ⟨e,(gi,some (vi,⟨false,false,s,ty,(l.set i q').map en⟩))::o,n⟩ d (acc++[(gK g++(rdK x++(rdK y++(.o gi::rk))),[.o gi],af)]) KK t) (hrg:Ad gi=true:=by rfl) :
  TrO Γ (⟨none,.st 1 x y,g,af⟩::r) nv ⟨e,o,n⟩ d acc KK t:=by
 have hl:=(aA.1 hi).1;refine Adf (i:=i) (off:=0) (m:=1) (z:=en q) (es':=(l.set i q').map en) (cs':=[en q']) (wo:=[]) (rk:=rk) hg hx hy hw ho (by simp_all) (by simp_all) hcc (by simp[hi]) hk (by rw[hc];rfl) (by rw[hc];rfl) ?_ rfl h hrg
 simp_all
end
theorem AkE (l:List α) (en:α->D) (k:Nat):aAR (l.length-k) (aAk k (l.map en))=(l.drop k).map en:=by
 simp_all
section
variable {Γ:Al} {X α:Type} {K:KR X} {t:Option X} {e E:List (Nat×D)} {o O:List (Nat×Aa)} {n nv:Nat} {acc:List Cj} {d:Bool}
 {r:List Ar} {dst:Nat} {g:Option (Nat×Bool)} {af:List Nat} {x y i:Arg} {gi vi ty:Nat} {m:Int} {en:α->D} {l:List (Int×α)} {z:D}
theorem IM (k:IntKind) (n:Int):strip (.int k n)=(true,.int k n):=rfl
theorem Zg {v gg off tt s tyy ss:Nat} {zz:D} (ho:lkO o gg=some (v,⟨false,true,ss,ty,[zz]⟩)) (hc:(cells zz)[off]? =some .nils) (hs:aAC 0 s=true) (hz:Ps zz off [.osl tt n 0 0]=z') (h:Has ⟨e,(gg,some (v,⟨false,true,ss,ty,[z']⟩))::(tt,some (n,⟨false,false,s,tyy,[]⟩))::o,n+1⟩ E O) (hr:Ad gg=false:=by rfl) (hne:aAL gg tt=false:=by rfl):Has ⟨e,o,n⟩ E O:=by
 subst hz;have hs':0<s:=by simp_all
 have hne':gg≠tt:=λe=>by simp_all
 have:=Rw.nilv (σ:=⟨e,o,n⟩) gg v 0 off tt s tyy ⟨false,true,ss,ty,[zz]⟩ (by simp_all) hr rfl rfl (by simp) hc hs' hne'
 grind [CO]
theorem AsO {v vw gw off gg s tyy ss tw:Nat} {β:Type} {l:List β} {en:β->D} {zz:D} (how:lkO o gw=some (vw,⟨false,true,ss,tw,[zz]⟩)) (hc:(cells zz)[off]? =some (.osl gg v 0 k)) (ho:lkO o gg=some (v,⟨false,false,s,tyy,l.map en⟩)) (hk:k<=l.length) (hz:Ps zz off [.osl gg v 0 (l.take k).length]=z') (h:Has ⟨e,(gw,some (vw,⟨false,true,ss,tw,[z']⟩))::(gg,some (v,⟨false,false,s,tyy,(l.take k).map en⟩))::o,n⟩ E O) (hrw:Ad gw=false:=by rfl) (hr:Ad gg=false:=by rfl) (_hne:aAL gw gg=false:=by rfl):Has ⟨e,o,n⟩ E O:=by
 subst hz;have hne':gw≠gg:=λe=>by simp_all
 have:=Rw.shrink (σ:=⟨e,o,n⟩) gw vw 0 off gg v k ⟨false,true,ss,tw,[zz]⟩ ⟨false,false,s,tyy,l.map en⟩ (by simp_all) hrw rfl rfl (by simp) hc (by simp_all) hr rfl rfl (by simp_all) hne'
 refine CO this ?_;simp_all
end
theorem nbq (a b:Nat):aAL a b=decide (a=b):=by
 by_cases h:a=b
 all_goals simp_all[Bool.eq_false_iff]
class TyE (ty:Nat) {α:outParam Type} (en:outParam (α->D)):Prop
def noE {B:Type} (_:B):List D:=[]
class OZ {A:Type} (enc:A->List D) (dec:outParam (List D->A)):Prop where
 ok:∀ a,dec (enc a)=a
abbrev fS {A B:Type} (kind:Kind) (enc:A->List D) {dec:List D->A} [OZ enc dec] (f:A->Option B) (encR:B->D):Spec:=NU [] kind enc dec f encR noE
class De1 {A:Type} (e:A->D) (u:outParam (D->A)):Prop where
 ok:∀ a,u (e a)=a
instance {k:IntKind}:De1 (D.int k) uI:=⟨λ_=>rfl⟩
instance {k:IntKind}:De1 (λn=>D.int k n) uI:=⟨λ_=>rfl⟩
instance:De1 D.bool uBo:=⟨λ_=>rfl⟩
instance {A:Type} {e:A->D} {u:D->A} [h:De1 e u]:De1 (eL e) (uL u):=⟨Qe h.ok⟩
def fpE {A:Type} (e:A->D) (a:A):D:=.fptr (e a) 0
def fpU {A:Type} (u:D->A) (d:D):A:=u (fpD d)
instance {A:Type} {e:A->D} {u:D->A} [h:De1 e u]:De1 (fpE e) (fpU u):=⟨λa=>h.ok a⟩
def en1 {A:Type} (e:A->D) (a:A):List D:=[e a]
def de1 {A:Type} (u:D->A) (l:List D):A:=u (l.getD 0 .top)
instance {A:Type} {e:A->D} {u:D->A} [h0:De1 e u]:OZ (en1 e) (de1 u):=⟨λa=>by simp[en1,de1,h0.ok]⟩
def en2 {A B:Type} (e:A->D) (f:B->D) (a:A×B):List D:=[e a.1,f a.2]
def de2 {A B:Type} (u:D->A) (v:D->B) (l:List D):A×B:=(u (l.getD 0 .top),v (l.getD 1 .top))
instance {A B:Type} {e:A->D} {f:B->D} {u:D->A} {v:D->B} [h0:De1 e u] [h1:De1 f v]:OZ (en2 e f) (de2 u v):=⟨λa=>by simp[en2,de2,h0.ok,h1.ok]⟩
def en3 {A B C:Type} (e:A->D) (f:B->D) (g:C->D) (a:A×B×C):List D:=[e a.1,f a.2.1,g a.2.2]
def de3 {A B C:Type} (u:D->A) (v:D->B) (w:D->C) (l:List D):A×B×C:=(u (l.getD 0 .top),v (l.getD 1 .top),w (l.getD 2 .top))
instance {A B C:Type} {e:A->D} {f:B->D} {g:C->D} {u:D->A} {v:D->B} {w:D->C} [h0:De1 e u] [h1:De1 f v] [h2:De1 g w]:OZ (en3 e f g) (de3 u v w):=⟨λa=>by simp[en3,de3,h0.ok,h1.ok,h2.ok]⟩
def en4 {A B C E:Type} (e:A->D) (f:B->D) (g:C->D) (h:E->D) (a:A×B×C×E):List D:=[e a.1,f a.2.1,g a.2.2.1,h a.2.2.2]
def de4 {A B C E:Type} (u:D->A) (v:D->B) (w:D->C) (x:D->E) (l:List D):A×B×C×E:=(u (l.getD 0 .top),v (l.getD 1 .top),w (l.getD 2 .top),x (l.getD 3 .top))
instance {A B C E:Type} {e:A->D} {f:B->D} {g:C->D} {h:E->D} {u:D->A} {v:D->B} {w:D->C} {x:D->E} [h0:De1 e u] [h1:De1 f v] [h2:De1 g w] [h3:De1 h x]:OZ (en4 e f g h) (de4 u v w x):=⟨λa=>by simp[en4,de4,h0.ok,h1.ok,h2.ok,h3.ok]⟩
def en5 {A B C E F:Type} (e:A->D) (f:B->D) (g:C->D) (h:E->D) (i:F->D) (a:A×B×C×E×F):List D:=[e a.1,f a.2.1,g a.2.2.1,h a.2.2.2.1,i a.2.2.2.2]
def de5 {A B C E F:Type} (u:D->A) (v:D->B) (w:D->C) (x:D->E) (y:D->F) (l:List D):A×B×C×E×F:=(u (l.getD 0 .top),v (l.getD 1 .top),w (l.getD 2 .top),x (l.getD 3 .top),y (l.getD 4 .top))
instance {A B C E F:Type} {e:A->D} {f:B->D} {g:C->D} {h:E->D} {i:F->D} {u:D->A} {v:D->B} {w:D->C} {x:D->E} {y:D->F} [h0:De1 e u] [h1:De1 f v] [h2:De1 g w] [h3:De1 h x] [h4:De1 i y]:OZ (en5 e f g h i) (de5 u v w x y):=⟨λa=>by simp[en5,de5,h0.ok,h1.ok,h2.ok,h3.ok,h4.ok]⟩
def en6 {A B C E F G:Type} (e:A->D) (f:B->D) (g:C->D) (h:E->D) (i:F->D) (j:G->D) (a:A×B×C×E×F×G):List D:=[e a.1,f a.2.1,g a.2.2.1,h a.2.2.2.1,i a.2.2.2.2.1,j a.2.2.2.2.2]
def de6 {A B C E F G:Type} (u:D->A) (v:D->B) (w:D->C) (x:D->E) (y:D->F) (z:D->G) (l:List D):A×B×C×E×F×G:=(u (l.getD 0 .top),v (l.getD 1 .top),w (l.getD 2 .top),x (l.getD 3 .top),y (l.getD 4 .top),z (l.getD 5 .top))
instance {A B C E F G:Type} {e:A->D} {f:B->D} {g:C->D} {h:E->D} {i:F->D} {j:G->D} {u:D->A} {v:D->B} {w:D->C} {x:D->E} {y:D->F} {z:D->G} [h0:De1 e u] [h1:De1 f v] [h2:De1 g w] [h3:De1 h x] [h4:De1 i y] [h5:De1 j z]:OZ (en6 e f g h i j) (de6 u v w x y z):=⟨λa=>by simp[en6,de6,h0.ok,h1.ok,h2.ok,h3.ok,h4.ok,h5.ok]⟩
abbrev oP (k g:Nat):Nat×D:=(k,.optr k g 0 0)
abbrev oT {α:Type} (k g:Nat) (l:List α):Nat×D:=(k,.osl k g 0 l.length)
abbrev oS {α:Type} (k v g:Nat) (l:List α):Nat×D:=(k,.osl v g 0 l.length)
abbrev oL {α:Type} (k:Nat) (l:List α):Nat×D:=(k,.int .i64 (l.length:Int))
abbrev oI (k:Nat) (n:Int):Nat×D:=(k,.int .i64 n)
abbrev oM {α:Type} (k:Nat) (l:List α) (f:α->D):Nat×D:=(k,.sl (l.map f))
abbrev oB (k:Nat) (b:Bool):Nat×D:=(k,.bool b)
def EvL (l l':List D):Prop:=l=l'
theorem EvL.nil (h:l=[]):EvL l []:=h
theorem EvL.cons {t t':List D} {a:D} (h:l=a::t) (ht:EvL t t'):EvL l (a::t'):=by
 cases ht;exact h
def EvP (l l':List (Nat×Nat×D)):Prop:=l=l'
theorem EvP.nil {l:List (Nat×Nat×D)} (h:l=[]):EvP l []:=h
theorem EvP.cons {a b:Nat} {r:List (Nat×Nat×Arg)} {d:D} {r':List (Nat×Nat×D)} (h:Ae e x=some d) (ht:EvP (Ca e r) r'):EvP (Ca e ((a,b,x)::r)) ((a,b,d)::r'):=by
 grind [EvP,Ca]
section
variable {Γ:Al} {X:Type} {K:KR X} {t:Option X} {e:List (Nat×D)} {o:List (Nat×Aa)} {n nv:Nat} {d:Bool} {acc:List Cj}
 {r:List Ar} {dst:Nat} {g:Option (Nat×Bool)} {af:List Nat} {α:Type}
 {x y:Arg} {v v' w:D} {k k':IntKind} {a b:Int} {s ty gi vi ii off m:Nat} {fz var:Bool} {es cs:List D} {z z':D} {l l':List α} {en:α->D}
theorem EA (hg:gOn e g=true) (hx:Ae e x=some (.optr gi vi i off)) (ho:lkO o gi=some (vi,⟨fz,var,s,ty,es⟩)) (hz:es[i]? =some z) (hv:(cells z)[off]? =some v) (h:TrO Γ r (nv+1) ⟨(dst,v)::e,o,n⟩ d (acc++[(gK g++(rdK x++[.o gi]),[.e dst],af)]) K t) (hpl:(plain v|| !Ad gi)=true:=by rfl) :
  TrO Γ (⟨some dst,.ld 1 false x,g,af⟩::r) nv ⟨e,o,n⟩ d acc K t :=
 Aey hg hx ho hz (aAG (aA.1 hv).1) (by grind [Oj]) h hpl
theorem Iq (hg:gOn e g=true) (hx:Ae e x=some (.optr gi vi i off)) (ho:lkO o gi=some (vi,⟨fz,var,s,ty,es⟩)) (hz:es[i]? =some z) (hb:aAH (off+m) (cells z).length=true) (hv:EvL (((cells z).drop off).take m) cs) (h:TrO Γ r (nv+1) ⟨(dst,.agg cs)::e,o,n⟩ d (acc++[(gK g++(rdK x++[.o gi]),[.e dst],af)]) K t) :
  TrO Γ (⟨some dst,.ld m true x,g,af⟩::r) nv ⟨e,o,n⟩ d acc K t :=
 Aey hg hx ho hz hb (by cases hv;rfl) h (by rfl)
theorem HJ (hg:gOn e g=true) (hx:Ae e x=some (.fptr z off)) (hv:(cells z)[off]? =some v)
  (h:TrO Γ r (nv+1) ⟨(dst,v)::e,o,n⟩ d (acc++[(gK g++rdK x,[.e dst],af)]) K t) :
  TrO Γ (⟨some dst,.ld 1 false x,g,af⟩::r) nv ⟨e,o,n⟩ d acc K t :=
 DZ hg hx (aAG (aA.1 hv).1) (by grind [Oj]) h
theorem KA (hg:gOn e g=true) (hx:Ae e x=some (.fptr z off)) (hb:aAH (off+m) (cells z).length=true) (hv:EvL (((cells z).drop off).take m) cs)
  (h:TrO Γ r (nv+1) ⟨(dst,.agg cs)::e,o,n⟩ d (acc++[(gK g++rdK x,[.e dst],af)]) K t) :
  TrO Γ (⟨some dst,.ld m true x,g,af⟩::r) nv ⟨e,o,n⟩ d acc K t :=
 DZ hg hx hb (by cases hv;rfl) h
theorem MG (hg:gOn e g=true) (hx:Ae e x=some (.optr gi vi 0 0)) (hy:Ae e y=some v) (hw:strip v=(true,v)) (ho:lkO o gi=some (vi,⟨false,true,s,ty,[z]⟩)) (hk:known v=true) (hl:cells v=[v'])
  (hb:aAH 1 (cells z).length=true) (hz:(match z with| .agg _=>false|_=>true)=true)
  (h:TrO Γ r (nv+1) ⟨e,(gi,some (vi,⟨false,true,s,ty,[v']⟩))::o,n⟩ d (acc++[(gK g++(rdK x++(rdK y++[.o gi])),[.o gi],af)]) K t) (hrg:Ad gi=false:=by rfl) :
  TrO Γ (⟨none,.st 1 x y,g,af⟩::r) nv ⟨e,o,n⟩ d acc K t :=
 Vf hg hx hy hw ho hk (by rw[hl];rfl) hb (by rw[hl];cases z<;>first|rfl|cases hz) h hrg
theorem MH {zs:List D} (hg:gOn e g=true) (hx:Ae e x=some (.optr gi vi 0 off)) (hy:Ae e y=some v) (hw:strip v=(true,v)) (ho:lkO o gi=some (vi,⟨false,true,s,ty,[z]⟩)) (hk:known v=true) (hl:(cells v).length=m)
  (hzz:z= .agg zs) (hb:aAH (off+m) zs.length=true) (hz:EvL (setAt zs off (cells v)) cs)
  (h:TrO Γ r (nv+1) ⟨e,(gi,some (vi,⟨false,true,s,ty,[.agg cs]⟩))::o,n⟩ d (acc++[(gK g++(rdK x++(rdK y++[.o gi])),[.o gi],af)]) K t) (hrg:Ad gi=false:=by rfl) :
  TrO Γ (⟨none,.st m x y,g,af⟩::r) nv ⟨e,o,n⟩ d acc K t:=by
 subst hzz;cases hz;exact Vf hg hx hy hw ho hk hl hb rfl h hrg
theorem MD {zs:List D} (hg:gOn e g=true) (hp:EvP (Ca e parts) ps) (hf:DI zs.length ps=true) (hz:EvL (DR zs ps) cs) (h:TrO Γ r (nv+1) ⟨(dst,.agg cs)::e,o,n⟩ d (acc++[(gK g++CH parts,[.e dst],af)]) K t) :
  TrO Γ (⟨some dst,.bld zs parts,g,af⟩::r) nv ⟨e,o,n⟩ d acc K t:=Lt hg hp hf hz h
theorem LP (hg:gOn e g=true) (hx:Ae e x=some (.agg cs)) (hb:aAH (off+m) cs.length=true) (hv:EvL ((cs.drop off).take m) cs') (h:TrO Γ r (nv+1) ⟨(dst,.agg cs')::e,o,n⟩ d (acc++[(gK g++rdK x,[.e dst],af)]) K t) :
  TrO Γ (⟨some dst,.fld off m true x,g,af⟩::r) nv ⟨e,o,n⟩ d acc K t :=
 Lz hg hx hb (by cases hv;rfl) h
theorem Jb (_:TyE ty en) (hg:gOn e g=true) (hx:Ae e x=some .nils) (h:TrO Γ r (nv+1) ⟨(dst,.osl dst nv 0 ([]:List α).length)::e,(dst,some (nv,⟨false,false,s,ty,([]:List α).map en⟩))::o,n⟩ d (acc++[(gK g++rdK x,[.e dst,.o dst],af)]) K t) :
  TrO Γ (⟨some dst,.asg x (some (s,ty)),g,af⟩::r) nv ⟨e,o,n⟩ d acc K t:=HC hg en hx h
theorem MF {q:α} (_:TyE ty en) (hz:z=en q) (hg:gOn e g=true) (hx:Ae e x=some (.int k a)) (hy:Ae e y=some (.int k' a)) (hl:0<=a/\a<=16777216) (hby:aAH bytes 65536=true) (h:TrO Γ r (nv+1) ⟨(dst,.osl dst nv 0 (aAF a.toNat q).length)::e,(dst,some (nv,⟨false,false,s,ty,(aAF a.toNat q).map en⟩))::o,n⟩ d (acc++[(gK g++(rdK x++rdK y),[.e dst,.o dst],af)]) K t) :
  TrO Γ (⟨some dst,.mkS s ty bytes z x y,g,af⟩::r) nv ⟨e,o,n⟩ d acc K t:=LC en hg hx hy hz hl hby h
theorem Kw {parts:List (Nat×Arg)} {p:D} {q:α} (_:TyE ty en) (hg:gOn e g=true) (hr:(AR parts).run ⟨e,o,n⟩=(c,[(i,p)],[])) (hk:(AR parts).rd ⟨e,o,n⟩=rk) (hc:c) (hq:p=en q) (hp:GM s 1 [(i,p)]=true) (hes:YJ [z] [(i,en q)]=[en q]) (h:TrO Γ r (nv+1) ⟨(dst,.osl dst nv 0 [q].length)::e,(dst,some (nv,⟨false,false,s,ty,[q].map en⟩))::o,n⟩ d (acc++[(gK g++rk,[.e dst,.o dst],af)]) K t) :
  TrO Γ (⟨some dst,.bldS s ty z 1 parts,g,af⟩::r) nv ⟨e,o,n⟩ d acc K t:=by
 grind [Ya]
theorem Kz {p q:Bool} (hg:gOn e g=true) (hx:Ae e x=some (.bool p)) (hy:Ae e y=some (.bool q))
  (h:TrO Γ r (nv+1) ⟨(dst,.bool (!(p==q)))::e,o,n⟩ d (acc++[(gK g++(rdK x++rdK y),[.e dst],af)]) K t) :
  TrO Γ (⟨some dst,.eqB true x y,g,af⟩::r) nv ⟨e,o,n⟩ d acc K t:=Ii hg hx hy h
theorem Ky {p q:Bool} (hg:gOn e g=true) (hx:Ae e x=some (.bool p)) (hy:Ae e y=some (.bool q))
  (h:TrO Γ r (nv+1) ⟨(dst,.bool (p==q))::e,o,n⟩ d (acc++[(gK g++(rdK x++rdK y),[.e dst],af)]) K t) :
  TrO Γ (⟨some dst,.eqB false x y,g,af⟩::r) nv ⟨e,o,n⟩ d acc K t:=Ii hg hx hy h
theorem RL {x:Nat} {wt:Bool} {b:Bool} {dt:Option Nat} {t1 t2:Option X} (hx:AK e x=some (.bool b)) (h1:TrO Γ (⟨dt,op,some (x,wt),af⟩::ops) nv ⟨Dg e x (.bool true),o,n⟩ d acc K t1) (h2:TrO Γ (⟨dt,op,some (x,wt),af⟩::ops) nv ⟨Dg e x (.bool false),o,n⟩ d acc K t2) :
  TrO Γ (⟨dt,op,some (x,wt),af⟩::ops) nv ⟨e,o,n⟩ d acc K (bif b then t1 else t2):=JF x hx h1 h2
end
section
variable {Γ:Al} {X A B:Type} {K:KR X} {e:List (Nat×D)} {o:List (Nat×Aa)} {n nv:Nat} {d:Bool} {acc:List Cj}
 {r:List Ar} {dst:Nat} {g:Option (Nat×Bool)} {af:List Nat} {α:Type}
 {ptr:List (Nat×(Nat×Nat))} {kind:Kind} {enc:A->List D} {dec:List D->A} {f:A->Option B} {encR:B->D} {encE:B->List D} {m:Option B} {kt:B->Option X}
 {fa:Arg} {args:List Arg} {caps:List D} {k:Nat} {c:Prop} {ds:List D} {w:List (Nat×Aa)} {ps:List (Nat×Nat×Own)} {rk:List Key} {s ty:Nat}
theorem Ip (hg:gOn e g=true) (hf:Ae e fa=some (.clo k caps)) (hΓ:Γ (k+4096*AJ (Ap e args))=some (NU ptr .val enc dec f encR encE)) [hde:OZ enc dec] (hr:(Ag ptr 0 (Ap e args++caps)).run ⟨e,o,n⟩=(c,ds,w,ps))
  (hk:(Ag ptr 0 (Ap e args++caps)).rd ⟨e,o,n⟩=rk) (hc:c) (ha:∃ a,f a=m/\ds=enc a)
  (h:∀ b,m=some b->TrO Γ r (nv+1) ⟨(dst,encR b)::e,(An ps (encE b)++w)++o,n⟩ d (acc++[(gK g++(rdK fa++(Bp args++rk)),.e dst::(An ps (encE b)++w).map (λx=>.o x.1),af)]) K (kt b)) (hkb:aAC k 4096=true:=by rfl) :
  TrO Γ (⟨some dst,.call fa args,g,af⟩::r) nv ⟨e,o,n⟩ d acc K (m.bind kt) :=
 QN λb hb=>ha.elim λa ha=>Afx a hg hf hΓ hde.ok hr hk hc ha.2 (ha.1.trans hb) (h b hb) hkb
theorem Gl (hg:gOn e g=true) (hf:Ae e fa=some (.clo k caps)) (hΓ:Γ (k+4096*AJ (Ap e args))=some (NU [] .ground enc dec f encR encE)) [hde:OZ enc dec] (hr:(Ag [] 0 (Ap e args++caps)).run ⟨e,o,n⟩=(c,ds,w,ps))
  (hk:(Ag [] 0 (Ap e args++caps)).rd ⟨e,o,n⟩=rk) (hc:c) (ha:∃ a,f a=m/\ds=enc a) (hgr:∀ b,isGround (encR b)=true)
  (h:∀ b,m=some b->TrO Γ r (nv+1) ⟨(dst,encR b)::e,o,n⟩ d (acc++[(gK g++(rdK fa++(Bp args++rk)),[.e dst],af)]) K (kt b)) (hkb:aAC k 4096=true:=by rfl) :
  TrO Γ (⟨some dst,.call fa args,g,af⟩::r) nv ⟨e,o,n⟩ d acc K (m.bind kt) :=
 QN λb hb=>ha.elim λa ha=>Uy a hg hf hΓ hde.ok hr hk hc ha.2 (ha.1.trans hb) (hgr b) (h b hb) hkb
theorem Io {lf:B->List α} {en:α->D} (hg:gOn e g=true) (hf:Ae e fa=some (.clo k caps)) (hΓ:Γ (k+4096*AJ (Ap e args))=some (NU ptr (.row s ty) enc dec f encR encE)) [hde:OZ enc dec] (hr:(Ag ptr 0 (Ap e args++caps)).run ⟨e,o,n⟩=(c,ds,w,ps))
  (hk:(Ag ptr 0 (Ap e args++caps)).rd ⟨e,o,n⟩=rk) (hc:c) (ha:∃ a,f a=m/\ds=enc a) (hl:∀ b,encR b= .sl ((lf b).map en))
  (h:∀ b,m=some b->TrO Γ r (nv+1) ⟨(dst,.osl dst nv 0 (lf b).length)::e,((dst,some (nv,⟨false,false,s,ty,(lf b).map en⟩))::(An ps (encE b)++w))++o,n⟩ d (acc++[(gK g++(rdK fa++(Bp args++rk)),.e dst:: .o dst::(An ps (encE b)++w).map (λx=>.o x.1),af)]) K (kt b)) (hkb:aAC k 4096=true:=by rfl) :
  TrO Γ (⟨some dst,.call fa args,g,af⟩::r) nv ⟨e,o,n⟩ d acc K (m.bind kt) :=
 QN λb hb=>ha.elim λa ha=>Ey a hg hf hΓ hde.ok hr hk hc ha.2 (ha.1.trans hb) (hl b) (h b hb) hkb
theorem Im (hg:gOn e g=true) (hf:Ae e fa=some (.clo k caps)) (hΓ:Γ (k+4096*AJ (Ap e args))=some (NU ptr (.ptr s ty) enc dec f encR encE)) [hde:OZ enc dec] (hr:(Ag ptr 0 (Ap e args++caps)).run ⟨e,o,n⟩=(c,ds,w,ps))
  (hk:(Ag ptr 0 (Ap e args++caps)).rd ⟨e,o,n⟩=rk) (hc:c) (ha:∃ a,f a=m/\ds=enc a)
  (h:∀ b,m=some b->TrO Γ r (nv+1) ⟨(dst,.optr dst nv 0 0)::e,((dst,some (nv,⟨false,true,s,ty,[encR b]⟩))::(An ps (encE b)++w))++o,n⟩ d (acc++[(gK g++(rdK fa++(Bp args++rk)),.e dst:: .o dst::(An ps (encE b)++w).map (λx=>.o x.1),af)]) K (kt b)) (hkb:aAC k 4096=true:=by rfl) :
  TrO Γ (⟨some dst,.call fa args,g,af⟩::r) nv ⟨e,o,n⟩ d acc K (m.bind kt) :=
 QN λb hb=>ha.elim λa ha=>Afw a hg hf hΓ hde.ok hr hk hc ha.2 (ha.1.trans hb) (h b hb) hkb
variable {b:B} {t:Option X}
theorem It (hg:gOn e g=true) (hf:Ae e fa=some (.clo k caps)) (hΓ:Γ (k+4096*AJ (Ap e args))=some (NU ptr .val enc dec f encR encE)) [hde:OZ enc dec] (hr:(Ag ptr 0 (Ap e args++caps)).run ⟨e,o,n⟩=(c,ds,w,ps))
  (hk:(Ag ptr 0 (Ap e args++caps)).rd ⟨e,o,n⟩=rk) (hm:m=some b) (hc:c) (ha:∃ a,f a=m/\ds=enc a)
  (h:TrO Γ r (nv+1) ⟨(dst,encR b)::e,(An ps (encE b)++w)++o,n⟩ d (acc++[(gK g++(rdK fa++(Bp args++rk)),.e dst::(An ps (encE b)++w).map (λx=>.o x.1),af)]) K t) (hkb:aAC k 4096=true:=by rfl) :
  TrO Γ (⟨some dst,.call fa args,g,af⟩::r) nv ⟨e,o,n⟩ d acc K t :=
 ha.elim λa ha=>Afx a hg hf hΓ hde.ok hr hk hc ha.2 (ha.1.trans hm) h hkb
theorem Gm (hg:gOn e g=true) (hf:Ae e fa=some (.clo k caps)) (hΓ:Γ (k+4096*AJ (Ap e args))=some (NU [] .ground enc dec f encR encE)) [hde:OZ enc dec] (hr:(Ag [] 0 (Ap e args++caps)).run ⟨e,o,n⟩=(c,ds,w,ps))
  (hk:(Ag [] 0 (Ap e args++caps)).rd ⟨e,o,n⟩=rk) (hm:m=some b) (hc:c) (ha:∃ a,f a=m/\ds=enc a) (hgr:isGround (encR b)=true)
  (h:TrO Γ r (nv+1) ⟨(dst,encR b)::e,o,n⟩ d (acc++[(gK g++(rdK fa++(Bp args++rk)),[.e dst],af)]) K t) (hkb:aAC k 4096=true:=by rfl) :
  TrO Γ (⟨some dst,.call fa args,g,af⟩::r) nv ⟨e,o,n⟩ d acc K t :=
 ha.elim λa ha=>Uy a hg hf hΓ hde.ok hr hk hc ha.2 (ha.1.trans hm) hgr h hkb
theorem Is {l:List α} {en:α->D} (hg:gOn e g=true) (hf:Ae e fa=some (.clo k caps)) (hΓ:Γ (k+4096*AJ (Ap e args))=some (NU ptr (.row s ty) enc dec f encR encE)) [hde:OZ enc dec] (hr:(Ag ptr 0 (Ap e args++caps)).run ⟨e,o,n⟩=(c,ds,w,ps))
  (hk:(Ag ptr 0 (Ap e args++caps)).rd ⟨e,o,n⟩=rk) (hm:m=some b) (hc:c) (ha:∃ a,f a=m/\ds=enc a) (hl:encR b= .sl (l.map en))
  (h:TrO Γ r (nv+1) ⟨(dst,.osl dst nv 0 l.length)::e,((dst,some (nv,⟨false,false,s,ty,l.map en⟩))::(An ps (encE b)++w))++o,n⟩ d (acc++[(gK g++(rdK fa++(Bp args++rk)),.e dst:: .o dst::(An ps (encE b)++w).map (λx=>.o x.1),af)]) K t) (hkb:aAC k 4096=true:=by rfl) :
  TrO Γ (⟨some dst,.call fa args,g,af⟩::r) nv ⟨e,o,n⟩ d acc K t :=
 ha.elim λa ha=>Ey a hg hf hΓ hde.ok hr hk hc ha.2 (ha.1.trans hm) hl h hkb
theorem Ir (hg:gOn e g=true) (hf:Ae e fa=some (.clo k caps)) (hΓ:Γ (k+4096*AJ (Ap e args))=some (NU ptr (.ptr s ty) enc dec f encR encE)) [hde:OZ enc dec] (hr:(Ag ptr 0 (Ap e args++caps)).run ⟨e,o,n⟩=(c,ds,w,ps))
  (hk:(Ag ptr 0 (Ap e args++caps)).rd ⟨e,o,n⟩=rk) (hm:m=some b) (hc:c) (ha:∃ a,f a=m/\ds=enc a)
  (h:TrO Γ r (nv+1) ⟨(dst,.optr dst nv 0 0)::e,((dst,some (nv,⟨false,true,s,ty,[encR b]⟩))::(An ps (encE b)++w))++o,n⟩ d (acc++[(gK g++(rdK fa++(Bp args++rk)),.e dst:: .o dst::(An ps (encE b)++w).map (λx=>.o x.1),af)]) K t) (hkb:aAC k 4096=true:=by rfl) :
  TrO Γ (⟨some dst,.call fa args,g,af⟩::r) nv ⟨e,o,n⟩ d acc K t :=
 ha.elim λa ha=>Afw a hg hf hΓ hde.ok hr hk hc ha.2 (ha.1.trans hm) h hkb
end
def FK (o:List (Nat×Aa)):List Nat->List (Nat×Aa)
 | []=>[]
 | g::r=>(g,(lkO o g).map λx=>(x.1,{ x.2 with fz:=true }))::FK o r
theorem Jk {o:List (Nat×Aa)}:∀ {gs:List Nat},(gs.all λg=>match lkO o g with|some (_,p)=>!p.var|none=>false)=true->FzB o (FK o gs)
 | [],_=>trivial
 | g::r,h=>by
  simp only[List.all_cons,Bool.and_eq_true]at h;refine⟨?_,Jk h.2⟩
  grind
theorem LO {o:List (Nat×Aa)} {n:Nat} (gs:List Nat) (hw:(gs.all λg=>match lkO o g with|some (_,p)=>!p.var|none=>false)=true) (hE:Gw e o n (FK o gs) E) (hO:Gx e o n (FK o gs) O):Has ⟨e,o,n⟩ E O:=WI _ (Jk hw) hE hO
section
variable {Γ:Al} {R ι γ:Type} {K:R->Aq->S->Prop} {τ:S} {t:Option R} {E:ι->γ->List (Nat×D)} {O:ι->γ->List (Nat×Aa)} {j:ι->Option R}
theorem ME (h:∃ s g,j s=t/\Has τ (E s g) (O s g)):TrX .normal (GU E O j K) τ t:=by
 obtain⟨s,g,rfl,h⟩:=h;exact YA g h
theorem Gk (h:∃ s g,j s=t/\Has τ (E s g) (O s g)):TrX .normal (DV id E O j K) τ t:=by
 obtain⟨s,g,rfl,h⟩:=h;exact Uz g h
theorem Hw (h:∃ s g,j s=t/\Has τ (E s g) (O s g)):TrX (.exit id) (DV id E O j K) τ t:=by
 obtain⟨s,g,rfl,h⟩:=h;exact Gt g h
theorem LQ {s:ι} (h:∃ g,Has τ (E s g) (O s g)):TrX .normal (Ft E O K) τ (cnt s):=by
 obtain⟨g,h⟩:=h;exact UF g h
theorem exU {p:Unit->Prop} (h:p ()):∃ s,p s:=⟨_,h⟩
theorem exP {β:Type} {p:α×β->Prop} (h:∃ a b,p (a,b)):∃ s,p s:=h.elim λa h=>h.elim λb h=>⟨(a,b),h⟩
end
section
variable {A B:Type} {ptr:List (Nat×(Nat×Nat))} {kind:Kind} {enc:A->List D} {dec:List D->A} {f:A->Option B} {encR:B->D} {encE:B->List D}
theorem fn2 {P:Program} [hde:OZ enc dec] (np:Nat) (hΓ:∀ k sp,Γ k=some sp->Ns P (k % 4096) sp) (hf:P.funcs[k]? =some fn) (hT:∀ a,Tr Γ dc (Bb ptr kind rs encR encE) ⟨Cw ptr 0 (enc a),Ci ptr 0 (enc a),262144⟩ (f a)) (hc:(fn.body.bind (Pp P fn.ntmps))=some dc:=by conv=>lhs;cbv) (hr:fn.results.toList.mapM (UQ P)=some rs:=by conv=>lhs;cbv) (hname:(fn.name == "runtime.NumGoroutine")=false:=by decide) (hnp:np<=fn.ntmps:=by decide) (hlen:∀ a,(enc a).length=np:=by exact λ_=>rfl) (hkeys:∀ a,Ba ptr 0 (enc a)=ptr.map Prod.fst:=by exact λ_=>rfl) (hptr:Dr ptr=true:=by decide) (hni:Bx kind=none:=by rfl) (hno:Cx kind=none:=by rfl):Ns P k (NU ptr kind enc dec f encR encE) :=
 MI hΓ hf hname hc hr hnp hde.ok hlen hkeys hptr (λa=>Mv (hT a)) hni hno
end
structure Ct (n:Nat):Prop
theorem Ct.dec {n:Nat} (_:Ct (n+1)):Ct n:=⟨⟩
structure Fz' (gs:List Nat):Prop
theorem wf (gs:List Nat) (h:Fz' gs->p):p:=h ⟨⟩
theorem Kx {o:List (Nat×Aa)} {n:Nat} {gs:List Nat} (_:Fz' gs) (hw:(gs.all λg=>match lkO o g with|some (_,p)=>!p.var|none=>false)=true) (hE:Gw e o n (FK o gs) E) (hO:Gx e o n (FK o gs) O):Has ⟨e,o,n⟩ E O:=LO gs hw hE hO
section
variable {Γ:Al} {X Y:Type} {K:KR X} {KK:X->Aq->S->Prop} {t t1 t2:Option X} {m0:Option Y} {kt:Y->Option X} {pp:Prop} [Decidable pp] {bb wt:Bool} {σ:S} {nv tt m m2 m3:Nat} {d:Bool} {acc:List Cj}
 {r:List Ar} {dst:Option Nat} {g:Option (Nat×Bool)} {af:List Nat} {op:DOp} {x y z:Arg} {xs:List Arg} {bo:BinOp} {uo:UnOp} {k:IntKind} {sl:Option (Nat×Nat)} {dd:D} {ds:List D} {ps:List (Nat×Arg)} {ps2:List (Nat×Nat×Arg)} {lo hi:Option Arg} {c1 c2:OX} {ex:Aq} {ptr:List (Nat×(Nat×Nat))} {encR:Y->D} {encE:Y->List D} {r0:Az} {rs:List Az} {tB:Option Y} {ι γ:Type} {E:ι->γ->List (Nat×D)} {O:ι->γ->List (Nat×Aa)} {j:ι->Option X}
theorem Ks (h:TrO Γ (⟨dst,op,some (tt,wt),af⟩::r) nv σ d acc K t):TrO Γ (⟨dst,op,some (tt,wt),af⟩::r) nv σ d acc K t:=h
theorem DS (h:TrO Γ r nv σ d acc K (Option.bind m0 kt)):TrO Γ r nv σ d acc K (Option.bind m0 kt):=h
theorem Dn (h:TrO Γ r nv σ d acc K (chk pp t)):TrO Γ r nv σ d acc K (chk pp t):=h
theorem MO (h:TrO Γ r nv σ d acc K (bif bb then t1 else t2)):TrO Γ r nv σ d acc K (bif bb then t1 else t2):=h
theorem LY (h:Tr Γ (.cond x c1 c2) KK σ t):Tr Γ (.cond x c1 c2) KK σ t:=h
theorem Mg (h:TrX ex (Bb ptr .val [r0] encR encE) σ tB):TrX ex (Bb ptr .val [r0] encR encE) σ tB:=h
theorem Jl (h:TrX ex (Bb ptr .ground [r0] encR encE) σ tB):TrX ex (Bb ptr .ground [r0] encR encE) σ tB:=h
theorem KV (h:TrX ex (Bb ptr .val rs encR encE) σ tB):TrX ex (Bb ptr .val rs encR encE) σ tB:=h
theorem IB (h:TrX ex (Bb ptr .ground rs encR encE) σ tB):TrX ex (Bb ptr .ground rs encR encE) σ tB:=h
theorem Mf (h:TrX ex (Bb ptr (.row m m2) rs encR encE) σ tB):TrX ex (Bb ptr (.row m m2) rs encR encE) σ tB:=h
theorem Me (h:TrX ex (Bb ptr (.ptr m m2) rs encR encE) σ tB):TrX ex (Bb ptr (.ptr m m2) rs encR encE) σ tB:=h
theorem Nk (h:TrX (.exit m) (EW m2 KK) σ t):TrX (.exit m) (EW m2 KK) σ t:=h
theorem Mc (h:TrO Γ [] nv σ true acc K t):TrO Γ [] nv σ true acc K t:=h
theorem Ni (h:TrO Γ (⟨dst,.mv x,g,af⟩::r) nv σ d acc K t):TrO Γ (⟨dst,.mv x,g,af⟩::r) nv σ d acc K t:=h
theorem LZ (h:TrO Γ (⟨dst,.fldA m x,g,af⟩::r) nv σ d acc K t):TrO Γ (⟨dst,.fldA m x,g,af⟩::r) nv σ d acc K t:=h
theorem Ku (h:TrO Γ (⟨dst,.ld m false x,g,af⟩::r) nv σ d acc K t):TrO Γ (⟨dst,.ld m false x,g,af⟩::r) nv σ d acc K t:=h
theorem Kv (h:TrO Γ (⟨dst,.ld m true x,g,af⟩::r) nv σ d acc K t):TrO Γ (⟨dst,.ld m true x,g,af⟩::r) nv σ d acc K t:=h
theorem ML (h:TrO Γ (⟨dst,.bin bo x y,g,af⟩::r) nv σ d acc K t):TrO Γ (⟨dst,.bin bo x y,g,af⟩::r) nv σ d acc K t:=h
theorem MK (h:TrO Γ (⟨dst,.asg x sl,g,af⟩::r) nv σ d acc K t):TrO Γ (⟨dst,.asg x sl,g,af⟩::r) nv σ d acc K t:=h
theorem Md (h:TrO Γ (⟨dst,.pick x y z,g,af⟩::r) nv σ d acc K t):TrO Γ (⟨dst,.pick x y z,g,af⟩::r) nv σ d acc K t:=h
theorem GP (h:TrO Γ (⟨dst,.call x xs,g,af⟩::r) nv σ d acc K t):TrO Γ (⟨dst,.call x xs,g,af⟩::r) nv σ d acc K t:=h
theorem MS (h:TrO Γ (⟨dst,.ext x m,g,af⟩::r) nv σ d acc K t):TrO Γ (⟨dst,.ext x m,g,af⟩::r) nv σ d acc K t:=h
theorem MU (h:TrO Γ (⟨dst,.len bb x,g,af⟩::r) nv σ d acc K t):TrO Γ (⟨dst,.len bb x,g,af⟩::r) nv σ d acc K t:=h
theorem Kt (h:TrO Γ (⟨dst,.ixA m x y,g,af⟩::r) nv σ d acc K t):TrO Γ (⟨dst,.ixA m x y,g,af⟩::r) nv σ d acc K t:=h
theorem Nj (h:TrO Γ (⟨dst,.un uo x,g,af⟩::r) nv σ d acc K t):TrO Γ (⟨dst,.un uo x,g,af⟩::r) nv σ d acc K t:=h
theorem MN (h:TrO Γ (⟨dst,.box x m m2,g,af⟩::r) nv σ d acc K t):TrO Γ (⟨dst,.box x m m2,g,af⟩::r) nv σ d acc K t:=h
theorem MY (h:TrO Γ (⟨dst,.new dd m m2,g,af⟩::r) nv σ d acc K t):TrO Γ (⟨dst,.new dd m m2,g,af⟩::r) nv σ d acc K t:=h
theorem Mh (h:TrO Γ (⟨dst,.st m x y,g,af⟩::r) nv σ d acc K t):TrO Γ (⟨dst,.st m x y,g,af⟩::r) nv σ d acc K t:=h
theorem LX (h:TrO Γ (⟨dst,.bldS m m2 dd m3 ps,g,af⟩::r) nv σ d acc K t):TrO Γ (⟨dst,.bldS m m2 dd m3 ps,g,af⟩::r) nv σ d acc K t:=h
theorem MJ (h:TrO Γ (⟨dst,.app m m2 m3 x y,g,af⟩::r) nv σ d acc K t):TrO Γ (⟨dst,.app m m2 m3 x y,g,af⟩::r) nv σ d acc K t:=h
theorem MM (h:TrO Γ (⟨dst,.bld ds ps2,g,af⟩::r) nv σ d acc K t):TrO Γ (⟨dst,.bld ds ps2,g,af⟩::r) nv σ d acc K t:=h
theorem MP (h:TrO Γ (⟨dst,.cvt k x,g,af⟩::r) nv σ d acc K t):TrO Γ (⟨dst,.cvt k x,g,af⟩::r) nv σ d acc K t:=h
theorem MX (h:TrO Γ (⟨dst,.mkS m m2 m3 dd x y,g,af⟩::r) nv σ d acc K t):TrO Γ (⟨dst,.mkS m m2 m3 dd x y,g,af⟩::r) nv σ d acc K t:=h
theorem KU (h:TrO Γ (⟨dst,.nilck x,g,af⟩::r) nv σ d acc K t):TrO Γ (⟨dst,.nilck x,g,af⟩::r) nv σ d acc K t:=h
theorem Ma (h:TrO Γ (⟨dst,.fld m m2 true x,g,af⟩::r) nv σ d acc K t):TrO Γ (⟨dst,.fld m m2 true x,g,af⟩::r) nv σ d acc K t:=h
theorem MR (h:TrO Γ (⟨dst,.eqB bb x y,g,af⟩::r) nv σ d acc K t):TrO Γ (⟨dst,.eqB bb x y,g,af⟩::r) nv σ d acc K t:=h
theorem MQ (h:TrO Γ (⟨dst,.eqA m bb x y,g,af⟩::r) nv σ d acc K t):TrO Γ (⟨dst,.eqA m bb x y,g,af⟩::r) nv σ d acc K t:=h
theorem MV (h:TrO Γ (⟨dst,.max xs,g,af⟩::r) nv σ d acc K t):TrO Γ (⟨dst,.max xs,g,af⟩::r) nv σ d acc K t:=h
theorem MW (h:TrO Γ (⟨dst,.min xs,g,af⟩::r) nv σ d acc K t):TrO Γ (⟨dst,.min xs,g,af⟩::r) nv σ d acc K t:=h
theorem MZ (h:TrO Γ (⟨dst,.slc m x lo hi,g,af⟩::r) nv σ d acc K t):TrO Γ (⟨dst,.slc m x lo hi,g,af⟩::r) nv σ d acc K t:=h
end
structure Hid (p:Prop):Prop where
 h:p
theorem DT {n:Nat} (_:Ct n) (_:aAH n 500=true) (h:p):p:=h
theorem A' {n:Nat} (c:Ct n) {q:Prop} (hq:q) (f:Ct n->Hid q->p:=by
 intro c h
 repeat1' (
  replace c:=Ct.dec c
  first
  | ((with_reducible refine Ks ?_);refine LG rfl ?_)
  | ((with_reducible refine Ni ?_);refine Mt rfl rfl ?_)
  | with_reducible refine LF ?_
  | ((with_reducible refine LZ ?_);first|refine Km rfl rfl ?_|refine IU rfl rfl ?_)
  | ((with_reducible refine Ku ?_);first|((with_reducible refine DS ?_);refine DT c ?_ ?_;(· rfl);refine EA rfl rfl rfl (CY (by assumption)) rfl ?_)|refine EA rfl rfl rfl rfl rfl ?_|refine HJ rfl rfl rfl ?_|(refine DT c ?_ ?_;(· rfl);refine EA rfl rfl rfl (CY (by assumption)) rfl ?_))
  | ((with_reducible refine ML ?_);first|((with_reducible refine Dn ?_);refine QW λhq=>Ih rfl rfl rfl rfl (by first|exact hq|exact⟨rfl,hq⟩) ?_)|refine Ih rfl rfl rfl rfl (by first|exact rfl|exact trivial|assumption|decide|exact⟨rfl,by assumption⟩|exact⟨rfl,by decide⟩) ?_)
  | with_reducible refine My ?_
  | with_reducible refine Mw ?_
  | with_reducible refine LH ?_
  | ((with_reducible refine MK ?_);first|refine Ls rfl rfl ?_|((with_reducible refine Dn ?_);refine QW λhq=>HB rfl rfl rfl hq ?_)|refine Jb inferInstance rfl rfl ?_|refine IQ rfl rfl ?_|refine HD (by first|rfl|simp) rfl rfl rfl ?_|refine Hi rfl rfl rfl ?_)
  | with_reducible refine FT ?_
  | with_reducible refine HH ?_
  | with_reducible refine Hq ?_
  | with_reducible refine Kn ?_
  | with_reducible refine LJ ?_
  | with_reducible refine Mx ?_
  | with_reducible refine LI ?_
  | with_reducible refine HF ?_
  | with_reducible refine HG ?_
  | with_reducible refine Ho ?_
  | with_reducible refine Hl ?_
  | with_reducible refine Hp ?_
  | with_reducible refine Gu ?_
  | with_reducible refine Hn ?_
  | ((with_reducible refine Nk ?_);refine Hm rfl ?_)
  | ((with_reducible refine LY ?_);first|refine Hr rfl ?_|refine Gv rfl ?_)
  | ((with_reducible refine Md ?_);first|refine Gr rfl rfl rfl rfl ?_|refine FR rfl rfl rfl rfl ?_)
  | ((with_reducible refine GP ?_);refine DT c ?_ ?_;(· rfl);(first|refine Gm rfl rfl rfl rfl rfl (by assumption) ?_ ?_ rfl ?_|refine It rfl rfl rfl rfl rfl (by assumption) ?_ ?_ ?_|refine Is rfl rfl rfl rfl rfl (by assumption) ?_ ?_ rfl ?_|refine Ir rfl rfl rfl rfl rfl (by assumption) ?_ ?_ ?_);(· simp);(· (repeat' first|exact⟨rfl,(by first|rfl|(simp only[Nv];rfl)|(simp only[Ny];rfl)|(simp only[Nv,Ny];rfl))⟩|refine exP ?_|refine exU ?_|apply Exists.intro|(dsimp only;exact⟨rfl,(by first|rfl|(simp only[Nv];rfl)|(simp only[Ny];rfl)|(simp only[Nv,Ny];rfl))⟩))))
  | ((with_reducible refine GP ?_);((with_reducible refine Dn ?_);first|refine QW λhq=>IV rfl rfl rfl rfl rfl (by first|rfl|simp) rfl hq rfl ?_|refine QW λhq=>Hj rfl rfl rfl rfl rfl (by first|rfl|simp) rfl hq (by exact FG _) rfl ?_))
  | ((with_reducible refine MS ?_);refine Ly rfl rfl rfl ?_)
  | ((with_reducible refine MU ?_);first|refine IW rfl rfl ?_|refine HE rfl rfl ?_)
  | ((with_reducible refine Kt ?_);first|((with_reducible refine DS ?_);refine DT c ?_ ?_;(· rfl);refine CW rfl rfl rfl (by assumption) rfl ?_)|((with_reducible refine Dn ?_);refine QW λhq=>Yz (by first|rfl|simp) rfl rfl rfl rfl hq ?_)|(refine DT c ?_ ?_;(· rfl);refine CW rfl rfl rfl (by assumption) rfl ?_))
  | ((with_reducible refine Nj ?_);refine Mu rfl rfl rfl rfl trivial ?_)
  | ((with_reducible refine MN ?_);refine Lu rfl rfl rfl rfl rfl ?_)
  | ((with_reducible refine MY ?_);refine LD rfl ?_)
  | ((with_reducible refine Mh ?_);first|refine MG rfl rfl rfl rfl rfl rfl rfl rfl rfl ?_|refine MH rfl rfl rfl rfl rfl rfl rfl rfl rfl (by repeat' first|exact EvL.nil rfl|apply EvL.cons rfl) ?_|(refine DT c ?_ ?_;(· rfl);refine WQ rfl rfl rfl rfl rfl rfl rfl (by simp) (by assumption) rfl rfl rfl rfl rfl ?_))
  | ((with_reducible refine Kv ?_);first|refine Iq rfl rfl rfl rfl rfl (by repeat' first|exact EvL.nil rfl|apply EvL.cons rfl) ?_|refine KA rfl rfl rfl (by repeat' first|exact EvL.nil rfl|apply EvL.cons rfl) ?_|(refine DT c ?_ ?_;(· rfl);refine Iq rfl rfl rfl (CY (by assumption)) rfl (by repeat' first|exact EvL.nil rfl|apply EvL.cons rfl) ?_))
  | ((with_reducible refine LX ?_);refine Kw inferInstance rfl rfl rfl (by simp) rfl rfl rfl ?_)
  | ((with_reducible refine MJ ?_);((with_reducible refine Dn ?_);refine QW λhq=>AcM _ _ _ rfl rfl rfl rfl rfl rfl rfl (by first|(simp;done)|(simp;omega)) (by first|rfl|exact YP _ _ rfl|exact YP _ _ (by simp)|exact AkE _ _ _|simp[List.map_take]) rfl rfl (by simp) (by first|rfl|exact Wd _ _ rfl|exact Wd _ _ (by simp)) (λ_=>rfl) rfl hq ?_))
  | ((with_reducible refine MM ?_);refine MD rfl (by repeat' first|apply EvP.cons rfl|exact EvP.nil rfl) rfl (by repeat' first|exact EvL.nil rfl|apply EvL.cons rfl) ?_)
  | ((with_reducible refine MP ?_);refine Lv rfl rfl ?_)
  | ((with_reducible refine MX ?_);((with_reducible refine Dn ?_);refine QW λhq=>MF inferInstance rfl rfl rfl rfl hq rfl ?_))
  | ((with_reducible refine KU ?_);refine JE rfl rfl rfl ?_)
  | ((with_reducible refine Ma ?_);refine LP rfl rfl rfl (by repeat' first|exact EvL.nil rfl|apply EvL.cons rfl) ?_)
  | ((with_reducible refine MR ?_);first|refine Ky rfl rfl rfl ?_|refine Kz rfl rfl rfl ?_)
  | ((with_reducible refine MQ ?_);refine Lx rfl rfl rfl rfl (by repeat' first|exact trivial|refine⟨rfl,?_⟩) rfl ?_)
  | ((with_reducible refine MV ?_);refine LA rfl rfl rfl ?_)
  | ((with_reducible refine MW ?_);refine LB rfl rfl rfl ?_)
  | ((with_reducible refine MZ ?_);((with_reducible refine Dn ?_);first|refine QW λhq=>Gs rfl rfl rfl (λ_=>rfl) rfl hq ?_|refine QW λhq=>AcN (by first|rfl|simp) rfl rfl rfl rfl rfl hq ?_|refine QW λhq=>AcO (by first|rfl|simp) rfl rfl rfl rfl rfl hq ?_))
  | ((with_reducible refine Mc ?_);refine Hk (by kernel_rfl) ?_)
  )
 exact h.h):p:=f c ⟨hq⟩
theorem A (n:Nat) {q:Prop} (hq:q) (f:Ct n->Hid q->p:=by intro c h;exact A' c h.h):p:=f ⟨⟩ ⟨hq⟩
theorem Ab (n:Nat) {q:Prop} (hq:q) (f:Ct n->Hid q->p:=by intro c h;refine A' c ?_;exact QN h.h):p:=f ⟨⟩ ⟨hq⟩
theorem Ac (n:Nat) {q q2:Prop} (hq:q) (hq2:q2) (f:Ct n->Hid q->Hid q2->p:=by intro c h h2;refine A' c ?_;exact Vs rfl h.h h2.h):p:=f ⟨⟩ ⟨hq⟩ ⟨hq2⟩
theorem hX {o:List (Nat×Aa)} {n:Nat} (hE:ER e E:=by repeat first|exact trivial|refine And.intro rfl ?_) (hO:ET o O:=by repeat first|exact trivial|refine And.intro rfl ?_):Has ⟨e,o,n⟩ E O:=Zf hE hO
theorem MT (h:Has σ E O):Has σ E O:=h
theorem Nh {a b:α} (h1:a=b) (h2:Has σ E O):a=b/\Has σ E O:=⟨h1,h2⟩
theorem B (h:p:=by
 repeat' first
 | ((with_reducible refine Ks ?_);(with_reducible refine MO ?_);refine RL rfl ?_ ?_)
 | ((with_reducible refine Ku ?_);first|((with_reducible refine DS ?_);refine QN λq hq=>EA rfl rfl rfl (CY hq) rfl ?_)|refine EA rfl rfl rfl rfl rfl ?_|refine HJ rfl rfl rfl ?_|refine EA rfl rfl rfl (CY (by assumption)) rfl ?_)
 | ((with_reducible refine LY ?_);refine Vs rfl ?_ ?_)
 | ((with_reducible refine Kt ?_);first|((with_reducible refine DS ?_);refine QN λq hq=>CW rfl rfl rfl hq rfl ?_)|((with_reducible refine Dn ?_);refine QW λhq=>Yz (by first|rfl|simp) rfl rfl rfl rfl hq ?_)|refine CW rfl rfl rfl (by assumption) rfl ?_)
 | ((with_reducible refine GP ?_);(with_reducible refine DS ?_);(first|refine Gl rfl rfl rfl rfl rfl ?_ ?_ (λ_=>rfl) λ_ _=>?_|refine Ip rfl rfl rfl rfl rfl ?_ ?_ λ_ _=>?_|refine Io rfl rfl rfl rfl rfl ?_ ?_ (λ_=>rfl) λ_ _=>?_|refine Im rfl rfl rfl rfl rfl ?_ ?_ λ_ _=>?_);(· simp);(· (repeat' first|exact⟨rfl,(by first|rfl|(simp only[Nv];rfl)|(simp only[Ny];rfl)|(simp only[Nv,Ny];rfl))⟩|refine exP ?_|refine exU ?_|apply Exists.intro|(dsimp only;exact⟨rfl,(by first|rfl|(simp only[Nv];rfl)|(simp only[Ny];rfl)|(simp only[Nv,Ny];rfl))⟩))))
 | ((with_reducible refine Mh ?_);(with_reducible refine DS ?_);refine QN λq hq=>WQ rfl rfl rfl rfl rfl rfl rfl (by simp) hq rfl rfl rfl rfl rfl ?_)
 | ((with_reducible refine Kv ?_);(with_reducible refine DS ?_);refine QN λq hq=>Iq rfl rfl rfl (CY hq) rfl (by repeat' first|exact EvL.nil rfl|apply EvL.cons rfl) ?_)
 | with_reducible refine ME ?_
 | with_reducible refine Gk ?_
 | with_reducible refine Hw ?_
 | with_reducible refine LQ ?_
 | ((with_reducible refine MT ?_);first|refine Kx (by assumption) rfl ?_ ?_|refine Zf ?_ ?_)
 | ((with_reducible refine Nh ?_ ?_);(· exact rfl))
 | with_reducible refine exP ?_
 | with_reducible refine exU ?_
 | with_reducible apply Exists.intro
 | refine A 999 ?_
 | refine A 1 ?_
 | ((with_reducible refine Mg ?_);exact TN rfl (by first|(simp;done)|(simp;omega)|rfl|(simp[OQ,OJ];done)) (by first|rfl|(simp only[Nv];rfl)|(simp only[Ny];rfl)|(simp only[Nv,Ny];rfl)) rfl (by first|(simp;done)|(simp;omega)|rfl|(simp[OQ,OJ];done)) (by first|rfl|(simp only[Nv];rfl)|(simp only[Ny];rfl)|(simp only[Nv,Ny];rfl)))
 | ((with_reducible refine KV ?_);exact Po rfl (by first|(simp;done)|(simp;omega)|rfl|(simp[OQ,OJ];done)) (by first|rfl|(simp only[Nv];rfl)|(simp only[Ny];rfl)|(simp only[Nv,Ny];rfl)) rfl (by first|(simp;done)|(simp;omega)|rfl|(simp[OQ,OJ];done)) (by first|rfl|(simp only[Nv];rfl)|(simp only[Ny];rfl)|(simp only[Nv,Ny];rfl)) (by decide))
 | ((with_reducible refine Jl ?_);exact IH rfl (by first|(simp;done)|(simp;omega)|rfl|(simp[OQ,OJ];done)) (by first|rfl|(simp only[Nv];rfl)|(simp only[Ny];rfl)|(simp only[Nv,Ny];rfl)) rfl (by first|(simp;done)|(simp;omega)|rfl|(simp[OQ,OJ];done)) (by first|rfl|(simp only[Nv];rfl)|(simp only[Ny];rfl)|(simp only[Nv,Ny];rfl)))
 | ((with_reducible refine IB ?_);exact FQ rfl (by first|(simp;done)|(simp;omega)|rfl|(simp[OQ,OJ];done)) (by first|rfl|(simp only[Nv];rfl)|(simp only[Ny];rfl)|(simp only[Nv,Ny];rfl)) rfl (by first|(simp;done)|(simp;omega)|rfl|(simp[OQ,OJ];done)) (by first|rfl|(simp only[Nv];rfl)|(simp only[Ny];rfl)|(simp only[Nv,Ny];rfl)) (by decide))
 | ((with_reducible refine Mf ?_);exact Li rfl (by first|(simp;done)|(simp;omega)|rfl|(simp[OQ,OJ];done)) (by first|rfl|(simp only[Nv];rfl)|(simp only[Ny];rfl)|(simp only[Nv,Ny];rfl)) rfl (by first|(simp;done)|(simp;omega)|rfl|(simp[OQ,OJ];done)) rfl (by first|(simp;done)|(simp;omega)|rfl|(simp[OQ,OJ];done)) (congrArg D.sl (Wd _ _ (by first|rfl|simp))) rfl)
 | ((with_reducible refine Me ?_);exact Lh rfl (by first|(simp;done)|(simp;omega)|rfl|(simp[OQ,OJ];done)) rfl (by first|(simp;done)|(simp;omega)|rfl|(simp[OQ,OJ];done)) (by first|rfl|(simp only[Nv];rfl)|(simp only[Ny];rfl)|(simp only[Nv,Ny];rfl)) rfl (by first|(simp;done)|(simp;omega)|rfl|(simp[OQ,OJ];done)) (by first|rfl|(simp only[Nv];rfl)|(simp only[Ny];rfl)|(simp only[Nv,Ny];rfl)))
 | exact trivial
 | refine⟨rfl,?_⟩
 | refine⟨Acy rfl (by simp),?_⟩
 | refine⟨Og rfl,?_⟩
 | refine⟨Adp (Vi _ rfl),?_⟩
 | refine⟨Adp (Wg rfl (by first|rfl|simp) rfl (by first|exact .head _|exact .tail _ (.head _)|exact .tail _ (.tail _ (.head _))|exact .tail _ (.tail _ (.tail _ (.head _))))),?_⟩
 | refine⟨Vu rfl (by repeat' first|exact trivial|refine⟨Ou rfl,?_⟩|refine⟨Vi _ rfl,?_⟩|refine⟨Wg rfl (by first|rfl|simp) rfl (by first|exact .head _|exact .tail _ (.head _)|exact .tail _ (.tail _ (.head _))|exact .tail _ (.tail _ (.tail _ (.head _)))),?_⟩),?_⟩
 | refine⟨.inl rfl,?_⟩
 | refine⟨.inr ⟨_,_,_,_,rfl,rfl,rfl,rfl,Vu rfl (by repeat' first|exact trivial|refine⟨Ou rfl,?_⟩|refine⟨Vi _ rfl,?_⟩|refine⟨Wg rfl (by first|rfl|simp) rfl (by first|exact .head _|exact .tail _ (.head _)|exact .tail _ (.tail _ (.head _))|exact .tail _ (.tail _ (.tail _ (.head _)))),?_⟩)⟩,?_⟩
 | refine⟨.inr ⟨_,_,_,_,rfl,rfl,rfl,rfl,Adp (Vi _ rfl)⟩,?_⟩
 | refine⟨.inr ⟨_,_,_,_,rfl,rfl,rfl,rfl,Adp (Wg rfl (by first|rfl|simp) rfl (by first|exact .head _|exact .tail _ (.head _)|exact .tail _ (.tail _ (.head _))|exact .tail _ (.tail _ (.tail _ (.head _)))))⟩,?_⟩
 ):p:=h
inductive FrL:List D->List D->Prop
 | nil:FrL [] []
 | same (c:D) {l l':List D} (h:FrL l l'):FrL (c::l) (c::l')
 | row {s ty:Nat} {es l l':List D} (hp:∀ q∈es,AO q=true) (h:FrL l l'):FrL (.row s ty es::l) (.sl es::l')
theorem JS {R:D->D->Prop} (h:R z z'):Each R [z] [z']:=by
 refine⟨rfl,λi e e' h1 h2=>?_⟩
 grind
inductive AeG:List D->List D->Prop
 | nil:AeG [] []
 | same {c:D} (hc:plain c=true) {l l':List D} (h:AeG l l'):AeG (c::l) (c::l')
 | row {s ty:Nat} {l l':List D} (hs:0<s) (h:AeG l l'):AeG (.nils::l) (.row s ty []::l')
theorem AeG.enr:∀ {cs cs':List D},AeG cs cs'->cs'.length=cs.length/\∀ (j:Nat) c c',cs[j]? =some c->cs'[j]? =some c'->(c'=c/\(false=true\/plain c=true))\/(c= .nils/\∃ s ty,0<s/\c'= .row s ty [])
 | _,_,.nil=>⟨rfl,λj c c' h=>by simp at h⟩
 | _,_,.same hc h=>by
  obtain⟨h1,h2⟩:=h.enr
  grind
 | _,_,.row (s:=s) (ty:=ty) hs h=>by
  obtain⟨h1,h2⟩:=h.enr
  grind
theorem Axh (h:AeG cs cs'):Each (Enr false) [.agg cs] [.agg cs']:=JS h.enr
open Classical in
noncomputable def Akf {B:Type} (m:Nat->Option B):Option B:=if h:∃ n,(m n).isSome=true then m h.choose else none
theorem Ji {B:Type} {m:Nat->Option B} {b:B} (h:Akf m=some b):∃ n,m n=some b:=by
 unfold Akf at h;split at h
 all_goals grind
theorem Axo {B:Type} {m:Nat->Option B} {P:B->Prop} {n:Nat} {r:B} (h:m n=some r) (hP:∀ n r,m n=some r->P r):∃ r,Akf m=some r/\P r:=by
 have he:∃ n,(m n).isSome=true:=⟨n,by rw[h];rfl⟩
 obtain⟨r',hr'⟩:=Option.isSome_iff_exists.1 he.choose_spec;exact⟨r',by simp_all[Akf],hP _ _ hr'⟩
theorem Awz {P:Program} {A B:Type} {ptr:List (Nat×(Nat×Nat))} {kind:Kind} {enc:A->List D} {dec:List D->A} {f:Nat->A->Option B} {encR:B->D} {encE:B->List D} (hde:∀ a,dec (enc a)=a) (h:∀ n,Ns P k (NU ptr kind enc dec (f n) encR encE)) (hni:Bx kind=none:=by rfl) (hno:Cx kind=none:=by rfl):Ns P k (NU ptr kind enc dec (λa=>Akf λn=>f n a) encR encE):=by
 intro F0 hG;refine⟨(h 0 F0 hG).1,λq hq=>?_,λ_ _ w F ds vs M h1 h2 h3 h4 hp=>?_,λφ hφ=>?_,hG⟩
 ·have hq:Bx kind=some q:=hq;simp_all
 ·obtain⟨a,b,rfl,hb⟩:=hp;have hb':(λa=>Akf λn=>f n a) a=some b:=hb
  obtain⟨n,hn⟩:=Ji hb;refine((h n F0 hG).2.2.1 hni hno w F (enc a) vs M h1 h2 h3 h4 ⟨a,b,rfl,hn⟩).mono λe w' hq=>?_
  unfold BW at hq ⊢;rw[Tm hde hn,CM hde hn]at hq;rw[Tm hde hb',CM hde hb'];exact hq
 ·have hφ:Cx kind=some φ:=hφ;simp_all
section
variable {α:Type} {c:α->List D} {w:Nat}
theorem Jg {l:List α} {q:α} (hq:l[j]? =some q):l.flatMap c=(l.take j).flatMap c++(c q++(l.drop (j+1)).flatMap c):=by
 grind [List.getElem_cons_drop,List.take_append_drop]
variable (hw:∀ q,(c q).length=w)
 include hw
theorem HN:∀ l:List α,(l.flatMap c).length=l.length*w
 | []=>by simp
 | q::l=>by simp[hw,HN l,Nat.add_mul,Nat.add_comm]
theorem KG {l:List α} (hj:j<=l.length):((l.take j).flatMap c).length=j*w:=by
 grind [HN,List.length_take]
theorem KF {pre post:List D} {l:List α} {q:α} (hq:l[j]? =some q):((pre++(l.flatMap c++post)).drop (pre.length+j*w)).take w=c q:=by
 have hj:=(aA.1 hq).1;have hp:=KG hw (Nat.le_of_lt hj)
 grind [Jg]
end
section
variable {Γ:Al} {X:Type} {K:KR X} {t:Option X} {e:List (Nat×D)} {o:List (Nat×Aa)} {n nv:Nat} {d:Bool} {acc:List Cj}
 {r:List Ar} {dst:Nat} {g:Option (Nat×Bool)} {af:List Nat} {α:Type}
variable {x y:Arg} {v z z':D} {s ty gi vi off w j:Nat} {fz var:Bool} {l:List α} {c:α->List D} {q q':α}
theorem Arb (b b':Nat) (hw:∀ q,(c q).length=w) (hj:off=b+j*w) (hg:gOn e g=true) (hx:Ae e x=some (.fptr z off))
  (hc:cells z=(cells z).take b++(l.flatMap c++(cells z).drop b')) (hb:((cells z).take b).length=b) (hbl:aAH (b+l.length*w) (cells z).length=true) (hq:l[j]? =some q) (hv:D.agg (c q)=v)
  (h:TrO Γ r (nv+1) ⟨(dst,v)::e,o,n⟩ d (acc++[(gK g++rdK x,[.e dst],af)]) K t) :
  TrO Γ (⟨some dst,.ld w true x,g,af⟩::r) nv ⟨e,o,n⟩ d acc K t:=by
 subst hj;have hl:=(aA.1 hq).1;have hm:=Nat.mul_le_mul_right w (show j+1<=l.length by omega)
 rw[Nat.add_mul,Nat.one_mul]at hm;have hbl:=aAA hbl;refine DZ (m:=w) (agg:=true) (z:=z) (v:=v) hg hx (aAG (by omega)) ?_ h
 subst hv;simp only[Oj,if_true];congr 1
 grind [KF]
end
open Go
section
variable {Γ:Al} {R:Type} {K:R->Aq->S->Prop} {t:Option R} {σ τ:S} {b:OX}
def Il (Γ:Al) (b:OX) (Q:Aq->S->Prop):Nat->S->Prop
 | 0,_=>False
 | m+1,σ=>DWp Γ b (Aq.then (λτ=>∃ τ',Chg τ τ'/\Il Γ b Q m τ') Q) σ
theorem Il.loop {Q:Aq->S->Prop} {m:Nat} (h:Il Γ b Q m σ):DWp Γ (.loop b) Q σ:=by
 refine⟨{ p:Nat×S // Il Γ b Q p.1 p.2 },λp=>p.1.2,λp=>p.1.1,⟨(m,σ),h⟩,.refl _,?_⟩
 rintro⟨⟨k,σ⟩,h⟩;simp only at h;cases k with
 | zero=>exact h.elim
 | succ k =>
  refine AG b _ _ _ (λe τ hq=>?_) h
  cases e with
  | normal =>
   obtain⟨τ',h1,h2⟩:=hq;exact⟨⟨(k,τ'),h2⟩,Nat.lt_succ_self k,h1⟩
  | exit id=>exact hq
  | ret=>exact hq
end
section
variable {α:Type} {Γ:Al} {X:Type} {K:KR X} {t:Option X} {r:List Ar} {nv n:Nat} {e:List (Nat×D)} {o:List (Nat×Aa)} {d:Bool} {acc:List Cj} {g:Option (Nat×Bool)} {af:List Nat} {dst:Nat} {x y:Arg} {w:D} {gi vi ty:Nat}
theorem AwB {k:IntKind} {m:Int} {kt kk len w:Nat} (l:List α) (c:α->List D) (hds:Gz kt=l.flatMap c) (hg:gOn e g=true) (hy:Ae e y=some (.int k m)) (hi:0<=m/\m<len) (hΓ:Γ kk=some sp) (h:TrO Γ r (nv+1) ⟨(dst,.fptr (.agg (l.flatMap c)) (0+m.toNat*w))::e,o,n⟩ d (acc++[(gK g++rdK y,[.e dst],af)]) K t) :
  TrO Γ (⟨some dst,.ixG kt len w y,g,af⟩::r) nv ⟨e,o,n⟩ d acc K t:=by
 refine As hg (c:=True/\0<=m/\m<len/\∃ k sp,Γ k=some sp) (we:=[(dst,.fptr (.agg (l.flatMap c)) (0+m.toNat*w))]) (wo:=[]) (rd:=rdK y) ?_ ?_ ⟨trivial,hi.1,hi.2,kk,sp,hΓ⟩ h
 all_goals simp_all[evalOp,IM,Ah]
end
def Ail (f:Nat):D:=.clo f []
theorem AhX {X:Type} {nv:Nat} {acc:List Cj} {K:KR X} {c:Bool} {t1 t2:Option X} (h1:c=true->TrO Γ ops nv σ d acc K t1) (h2:c=false->TrO Γ ops nv σ d acc K t2):TrO Γ ops nv σ d acc K (bif c then t1 else t2):=by
 cases c
 ·exact h2 rfl
 ·exact h1 rfl
theorem AhW {l:List α} {v:α} {x:Int} (h:(x==(k:Int))=true) (hl:l[k]? =some v):l[x.toNat]? =some v:=by
 simp_all
theorem AxN {l:List α} {v:α} {x:Int} {n:Nat} (ks:List Nat) (hq:0<=x/\x<(n:Int)) (hk:∀ k∈ks,(x==(k:Int))=false) (hl:∀ j<n,j∉ks->l[j]? =some v):l[x.toNat]? =some v:=by
 obtain⟨j,rfl⟩:∃ j:Nat,x=j:=⟨x.toNat,by omega⟩
 exact hl _ (by simp at hq;omega) λh=>by simpa using hk _ h
section
variable {Γ Γ':Al} {A B γ:Type} {ptr:List (Nat×(Nat×Nat))} {kind:Kind} {enc:A->List D} {dec:List D->A} {f:A->Option B} {encR:B->D} {encE:B->List D}
 {fd np:Nat} {rs rs0:List Az} {dc:OX} {caps:List D} {tt:Option B} {e:List (Nat×D)} {o:List (Nat×Aa)} {n t:Nat} {r:OX} {ex:Aq}
 {E:γ->List (Nat×D)} {O:γ->List (Nat×Aa)}
def kDE (Γ':Al) (np:Nat) (rs:List Az) (dc:OX) (caps:List D) (K:B->Aq->S->Prop):B->Aq->S->Prop:=λx=>Gy Γ' np rs dc caps (K x .ret)
def kDA (Γ Γ':Al) (fd np:Nat) (rs:List Az) (dc:OX) (t:Nat) (r:OX) (K:B->Aq->S->Prop):B->Aq->S->Prop:=λx=>LR Γ Γ' fd np rs dc t r (K x .ret)
theorem AxO {K:B->Aq->S->Prop} {cp:γ->List D} (g0:γ) (hh:Has ⟨e,o,n⟩ (E g0) (O g0)) (hc:∀ g,Ae (E g) (.t t)=some (.clo fd (cp g))) (h:∀ g nn,Tr Γ r (kDE Γ' np rs dc (cp g) K) ⟨E g,O g,nn⟩ tt) :
  TrX ex (kDA Γ Γ' fd np rs dc t r K) ⟨e,o,n⟩ tt:=by
 intro x hx;obtain⟨m,hm⟩:=hh;have e1:(raw (.t t)).run ⟨E g0,O g0,m⟩= .clo fd (cp g0):=by simp[hc g0]
 exact⟨_,hm,cp g0,e1,h g0 m x hx⟩
theorem AwC {cp:γ->List D} {E2:γ->List (Nat×D)} (g0:γ) (hex:(match ex with| .exit _=>false|_=>true)=true) (hh:Has ⟨e,o,n⟩ (E g0) (O g0)) (hs:∀ g,(cp g).map nog=caps.map nog) (hnp:∀ g,(cp g).length=np) (hE:∀ g,Da 0 (cp g)=E2 g)
  (h:∀ g nn,Tr Γ' dc (IC Γ' [] none rs (E g) (Bb ptr kind rs0 encR encE)) ⟨E2 g,O g,nn⟩ tt):TrX ex (kDE Γ' np rs dc caps (Bb ptr kind rs0 encR encE)) ⟨e,o,n⟩ tt:=by
 intro x hx;obtain⟨m,hm⟩:=hh;have hx':=h g0 m x hx;rw[<- hE]at hx';have key:Wk (λτ=>∃ caps',caps'.map nog=caps.map nog/\DW Γ' np rs dc caps' τ λ_ τ'=>Bb ptr kind rs0 encR encE x .ret τ') ⟨e,o,n⟩ :=
  ⟨_,hm,cp g0,hs g0,hnp g0,_,.refl _,AG _ _ _ _ (λex τ hq=>Ep (λd τ ⟨_,c1,_,c2,k⟩=>⟨_,c1.trans c2,k⟩) hq) hx'⟩
 cases ex with
 | exit id=>cases hex
 | normal=>exact key
 | ret=>exact key
theorem fn3 {P:Program} {fn':Func} {c:List Ar×List Ar×Nat×OX} [hde:OZ enc dec] (fd np' np:Nat) (hΓ:∀ k sp,Γ k=some sp->Ns P (k % 4096) sp) (hΓ':∀ k sp,Γ' k=some sp->Ns P (k % 4096) sp) (hf:P.funcs[k]? =some fn) (hf':P.funcs[fd]? =some fn') (hT:∀ a,Tr Γ (.seq (.reg c.1 false) (.reg c.2.1 false)) (kDA Γ Γ' fd np' rs dc c.2.2.1 c.2.2.2 (Bb ptr kind rs0 encR encE)) ⟨Cw ptr 0 (enc a),Ci ptr 0 (enc a),262144⟩ (f a)) (hc:(fn.body.bind (JL P fn.ntmps))=some c:=by conv=>lhs;cbv) (hc':(fn'.body.bind (Pp P fn'.ntmps))=some dc:=by conv=>lhs;cbv) (hr':fn'.results.toList.mapM (UQ P)=some rs:=by conv=>lhs;cbv) (hr:fn.results.toList.mapM (UQ P)=some rs0:=by conv=>lhs;cbv) (hlt:aAC fd 4096=true:=by rfl) (hname':(fn'.name == "runtime.NumGoroutine")=false:=by decide) (hnp':np'<=fn'.ntmps:=by decide) (hname:(fn.name == "runtime.NumGoroutine")=false:=by decide) (hnp:np<=fn.ntmps:=by decide) (hlen:∀ a,(enc a).length=np:=by exact λ_=>rfl) (hkeys:∀ a,Ba ptr 0 (enc a)=ptr.map Prod.fst:=by exact λ_=>rfl) (hptr:Dr ptr=true:=by decide) (hni:Bx kind=none:=by rfl) (hno:Cx kind=none:=by rfl):Ns P k (NU ptr kind enc dec f encR encE):=by
 obtain⟨c0,hb,_⟩:=aAI.1 hc;refine Jj hΓ hf hname hb (Iu hΓ' hc hf' hlt hname' hc' hr' hnp') hr hnp (by rintro ds ⟨a,b,rfl,_⟩;exact⟨hlen a,hkeys a⟩) hptr ?_ hni hno
 rintro ds ⟨a,b,rfl,hb⟩ _;have key:∀ τ,Bn ⟨ptr,kind,λ_=>True,λ_=>encR b,λ_=>encE b⟩ rs0 [] τ->Bn (NU ptr kind enc dec f encR encE) rs0 (enc a) τ:=by
  simp only[Bn,Tm hde.ok hb,CM hde.ok hb];exact λ_ h=>h
 have end_:∀ caps ex τ,Gy Γ' np' rs dc caps (Bb ptr kind rs0 encR encE b .ret) ex τ->Gy Γ' np' rs dc caps (Wk (Bn (NU ptr kind enc dec f encR encE) rs0 (enc a))) ex τ:=by
  intro caps ex τ h;have k2:Wk (λτ=>∃ caps',caps'.map nog=caps.map nog/\DW Γ' np' rs dc caps' τ λ_ τ'=>Bb ptr kind rs0 encR encE b .ret τ') τ->Wk (λτ=>∃ caps',caps'.map nog=caps.map nog/\DW Γ' np' rs dc caps' τ λ_ τ'=>Wk (Bn (NU ptr kind enc dec f encR encE) rs0 (enc a)) τ') τ :=
   Wk.mono λτ ⟨c',h1,h2,h3⟩=>⟨c',h1,h2,h3.mono λτ h=>AG _ _ _ _ (λex τ hq=>Ep (λd τ h=>Wk.mono key h) hq) h⟩
  cases ex with
  | exit id=>exact h
  | normal=>exact k2 h
  | ret=>exact k2 h
 exact⟨_,.refl _,AG _ _ _ _ (λex τ hq=>Wk.mono (λτ ⟨cp,h1,h2⟩=>⟨cp,h1,AG _ _ _ _ (end_ cp) h2⟩) hq) (hT a b hb)⟩
end
open Go.Sort
theorem JW {w:World} {b off ty n:Nat} {C:Array Value} {zs l':List Int} {os:Array Obj} (hl:l'.length=zs.length) (hb:b<w.heap.size) (hC:w.heap[b]? =some (.cells C ty (0,0))) (hcell:∀ (j:Nat) x,zs[j]? =some x->C[off+j]? =some (.int .i64 x)) :
  (grow (putRow (aAJ .i64) (Sort.ahead w n) b off l'.toArray) os).os=w.os/\(grow (putRow (aAJ .i64) (Sort.ahead w n) b off l'.toArray) os).tape=w.tape/\(grow (putRow (aAJ .i64) (Sort.ahead w n) b off l'.toArray) os).output=w.output /\
   w.heap.size<=(grow (putRow (aAJ .i64) (Sort.ahead w n) b off l'.toArray) os).heap.size/\(∀ b',b'<w.heap.size->b'≠b->(grow (putRow (aAJ .i64) (Sort.ahead w n) b off l'.toArray) os).heap[b']? =w.heap[b']?) /\
   ∃ C',(grow (putRow (aAJ .i64) (Sort.ahead w n) b off l'.toArray) os).heap[b]? =some (.cells C' ty (0,0))/\C'.size=C.size/\(∀ k,(k<off\/off+zs.length<=k)->C'[k]? =C[k]?)/\∀ (j:Nat) x,l'[j]? =some x->C'[off+j]? =some (.int .i64 x):=by
 have hheap:∀ k,k<w.heap.size->(grow (putRow (aAJ .i64) (Sort.ahead w n) b off l'.toArray) os).heap[k]? =if b=k then(w.heap[k]?).map (onCells (putCells (aAJ .i64) off l'.toArray))else w.heap[k]?:=by
  grind [grow,putRow,mapBlock,Sort.ahead]
 refine⟨rfl,rfl,rfl,?_,λb' hb' hne=>?_,putCells (aAJ .i64) off l'.toArray C,?_,?_,?_,?_⟩
 ·simp_all
 ·grind
 ·rw[hheap b hb,if_pos rfl,hC];rfl
 ·simp[putCells]
 ·intro k hk;simp only[putCells,Array.getElem?_mapIdx]
  grind
 simp_all[aA,putCells]
theorem AlJ {P:Program} {f:Nat} {r:Bool} (h0:∀ zs,(fl zs).length=zs.length/\fk zs<=zs.length) (he:∀ (w:World) (a:Option Addr) (cap:Nat),Calls P f #[.slice a 0 cap] w λe w'=>e= .returned (if r then .slice a 0 cap else .tuple #[])/\w'=w) (hcon:∀ (blk off cap:Nat) (zs:List Int) (w:World),Holds (aAJ .i64) w blk off zs.toArray->blk<w.heap.size->zs.length<4611686018427387904->zs.length<=cap ->
   Calls P f #[.slice (some ⟨blk,off,none⟩) zs.length cap] w λe w'=>e= .returned (if r then .slice (some ⟨blk,off,none⟩) (fk zs) cap else .tuple #[]) /\
    ∃ n os,w'=grow (putRow (aAJ .i64) (Sort.ahead w n) blk off (fl zs).toArray) os):GF P f (inQ r fl fk):=by
 refine⟨λzs ks _=>h0 zs,λw a cap ks hks=>by obtain rfl:ks=[]:=hks;exact he w a cap,λw b off cap ty C zs ks hks hpos hbig hcap hC hcell=>?_⟩
 obtain rfl:ks=[]:=hks;have hb:b<w.heap.size:=(Array.getElem?_eq_some_iff.1 hC).1;have hH:Holds (aAJ .i64) w b off zs.toArray:=by
  intro j hj
  grind [aAh,World.frozen?]
 refine(hcon b off cap zs w hH hb hbig hcap).mono ?_;rintro e w' ⟨rfl,n,os,rfl⟩;exact⟨rfl,JW (h0 zs).1 hb hC hcell⟩
def Aub (r:Bool) (fl:List Int->List Int) (fk:List Int->Nat):Spec:=⟨[],.inpl (inQ r fl fk),λ_=>False,λ_=>.top,λ_=>[]⟩
theorem Ahg (zs:List Int):(Lib.compact zs).length<=zs.length:=by
 grind [Lib.compact,Lib.compactUpTo]
def AaY (zs:List Int):List Int:=Lib.compact zs++aAF (zs.length-(Lib.compact zs).length) 0
theorem FG (zs:List Int):(AaY zs).take (Lib.compact zs).length=Lib.compact zs:=by simp[AaY]
def YO (zs:List Int):List Int:=zs.mergeSort λx y=>decide (x<=y)
@[simp] theorem AqU (zs:List Int):(YO zs).length=zs.length:=List.length_mergeSort zs
theorem Amb (zs:List Int):(AaY zs).length=zs.length:=by
 grind [Ahg,AaY]
open Go.Proofs
def AiI (x:Int):Option Int:=chk (0<=x/\x<18446744073709551616) (some ((Lib.ctz 64 x.toNat:Nat):Int))
def Di (a:Int):List D:=[.int .u64 a]
def Ea (ds:List D):Int:=uI (ds.getD 0 .top)
theorem Ij (a:Int):Ea (Di a)=a:=rfl
instance:OZ Di Ea:=⟨Ij⟩
def JH (b:Int):D:=.int .i64 b
def JG (_b:Int):List D:=[]
def AuL:Dw.Spec:=NU [] .ground Di Ea (λa=>AiI a) JH JG
theorem Ko:Dt=Lib.deBruijn64tab:=by decide
theorem AuM {P:Program} {f g:Nat} (he:FF P f) (hg:P.globalNamed "math/bits.deBruijn64tab" = some g)
  (h:∀ (x:Nat) (w:World),x<18446744073709551616->(x≠0->TabAt g Lib.deBruijn64tab w)->Calls P f #[.int .u64 (x:Int)] w λe w'=>e= .returned (.int .i64 (Lib.ctz 64 x:Nat))/\w'=w):Ns P f AuL:=by
 intro F0 hG;refine⟨he,λq hq=>(by cases hq),λ_ _ w F ds vs M hsub hF hfin hA hp=>?_,λφ hφ=>(by cases hφ),hG⟩
 obtain⟨a,b,rfl,hb⟩:=hp;have hr:0<=a/\a<18446744073709551616:=by
  grind [AiI,chk]
 have hfa:AiI a=some ((Lib.ctz 64 a.toNat:Nat):Int):=by grind [AiI,chk]
 have hb':(λa=>AiI a) a=some ((Lib.ctz 64 a.toNat:Nat):Int):=hfa
 cases hA with
 | ptr j d ds xs M m hp=>cases hp
 | val j d ds x xs M hp hn hx hr' =>
  cases hx;cases hr';have ht:a.toNat≠0->TabAt g Lib.deBruijn64tab w:=λ_ j hj=>by
   have hj':j<64:=by
    have:Lib.deBruijn64tab.length=64:=by decide
    omega
   rw[<- Ko];exact hF _ _ _ (hsub _ _ _ (hG.tz hg j hj'))
  have key:=h a.toNat w (by omega) ht
  have e1:((a.toNat:Nat):Int)=a:=by omega
  rw[e1]at key;refine key.mono ?_;rintro e w' ⟨rfl,rfl⟩;refine⟨_,F,λ_ _ _=>False,λ_=>False,rfl,hF,hfin,Stp.refl _ _ _,?_,⟨λk m hm=>by simp at hm,λ_ _ _ h=>h.elim,λ_ _ _ h=>h.elim,λ_ _ _ _ _ h=>h.elim,λ_ _ _ _ h=>h.elim⟩,λ_ _ _ h=>h.elim⟩
  show Fro F ((NU [] .ground Di Ea (λa=>AiI a) JH JG).res (Di a)) _
  rw[Tm Ij hb'];exact .int _ _
def Fv (a:Int):List D:=[.int .u64 a]
def Fu (ds:List D):Int:=uI (ds.getD 0 .top)
theorem Jt (a:Int):Fu (Fv a)=a:=rfl
instance:OZ Fv Fu:=⟨Jt⟩
open Go.RowKit
theorem HL [Decidable p] {x:Option α} {b:α} (h:chk p x=some b):p/\x=some b:=by
 grind [chk]
def YY {α:Type} (l:List α):Option (List α):=chk (l.length<=16777216) (some l)
abbrev Aqa {α:Type} (l:List α):Option (List α):=YY l
abbrev ApZ {α:Type} (l:List α):Option (List α):=YY l
abbrev AmU {α:Type} (l:List α):Option (List α):=YY l
theorem Je {l b:List α} (h:YY l=some b):b=l:=by
 obtain⟨_,h⟩:=HL h;cases h;rfl
def VV {α:Type} (en:α->D) (l:List α):List D:=[.sl (l.map en)]
def Zx {α:Type} (u:D->α) (ds:List D):List α:=(uL u) (ds.getD 0 .top)
theorem AmT (en:α->D) (u:D->α) (h:∀ x,u (en x)=x) (l:List α):Zx u (VV en l)=l:=by simp[Zx,VV,Qe h]
def Aik {α:Type} (en:α->D) (l:List α):D:=.sl (l.map en)
theorem Mn {w:World} {s ty n:Nat} {xs:List Value} {es:List D} {b0:Nat} (hs:0<s) (hn:es.length=n) (hen:∀ e∈es,(cells e).length=s) (hown:w.ownsRow b0 ty s v n xs) (hx:∀ (i j:Nat) e d,es[i]? =some e->(cells e)[j]? =some d->∃ x,xs[i*s+j]? =some x/\x.oneCell'=true/\Fro F d x) :
  ∃ L:Loc,v= .slice (L.b.map λb=>⟨b,0,none⟩) es.length L.cap/\Au F noB w L ⟨false,false,s,ty,es⟩/\∀ b,L.b=some b->b0<=b/\b<w.heap.size:=by
 subst hn;obtain⟨hl,⟨hv,h0⟩|⟨g,cap,cur,hv,hb,hg,hc,hm,hcs,ht⟩⟩:=hown
 ·refine⟨⟨none,0,s⟩,by simp_all,⟨rfl,hs,by simp_all,aAg _,hen,rfl,rfl⟩,λb hb=>by cases hb⟩
 ·refine⟨⟨some g,cap,s⟩,hv,⟨rfl,hs,hc,hm,hen,cur,hg,hcs,λi j e d he hd=>?_⟩,λb hb'=>?_⟩
  all_goals grind
theorem Ais {P:Program} {f s ty:Nat} {en:α->D} {u:D->α} (hu:∀ x,u (en x)=x) (he:FF P f) (hs:0<s) (hen:∀ x,(cells (en x)).length=s) (h0:∀ (c:Nat) (w:World),Calls P f #[.slice none 0 c] w λe w'=>e= .returned (.slice none 0 0)/\w'=w) (h:∀ (a:Addr) (n c:Nat) (xs:List Value) (w:World),n<=16777216->xs.length=n*s->(∀ (j:Nat) x,xs[j]? =some x->w.cell? (a.add j)=some x)->(∀ x∈xs,x.oneCell'=true) ->
   Calls P f #[.slice (some a) n c] w λe w'=>∃ v',e= .returned v'/\w'.ownsRow w.heap.size ty s v' n xs/\Below w.heap.size w w') :
  Ns P f (NU [] (.row s ty) (VV en) (Zx u) (λa=>YY a) (Aik en) noE):=by
 intro F0 hG;refine⟨he,λq hq=>(by cases hq),λ_ _ w F ds vs M hsub hF hfin hA hp=>?_,λφ hφ=>(by cases hφ),hG⟩
 obtain⟨l,b,rfl,hb⟩:=hp;have hM:=Zw rfl hA;subst hM;have hres:(NU [] (.row s ty) (VV en) (Zx u) (λa=>YY a) (Aik en) noE).res (VV en l)= .sl (b.map en):=Tm (AmT en u hu) hb
 have hbl:=Je hb;subst hbl;obtain⟨hlen,_⟩:=HL hb;have fin:∀ (v':Value) (w':World) (xs:List Value),w'.ownsRow w.heap.size ty s v' b.length xs->Below w.heap.size w w' ->
   (∀ (i j:Nat) e d,(b.map en)[i]? =some e->(cells e)[j]? =some d->∃ x,xs[i*s+j]? =some x/\x.oneCell'=true/\Fro F d x) ->
   BW (NU [] (.row s ty) (VV en) (Zx u) (λa=>YY a) (Aik en) noE) w F (VV en b) [] (.returned v') w':=by
  intro v' w' xs hown hw hx;obtain⟨L,l1,l2,l3⟩:=Mn hs (aAM ..) (λe he=>by grind) hown hx
  refine⟨v',F,λ_ _ _=>False,λ_=>True,rfl,λb i x hx=>?_,λb i x hx=>Nat.lt_of_lt_of_le (hfin b i x hx) hw.size,⟨hw.os,hw.tape,hw.output,hw.size,λb hb _=>hw.block b hb,NX.refl _,λ_ _ _ _=>rfl⟩,?_,
   ⟨λk m hm=>by simp at hm,λ_ _ _ h=>h.elim,λ_ _ _ h=>h.elim,λ_ _ _ _ _ h=>h.elim,λ_ _ _ _ h=>h.elim⟩,λ_ _ _ h=>h.elim⟩
  ·rw[hw.cell (p:=⟨b,i,none⟩) (hfin b i x hx)];exact hF b i x hx
  ·rw[hres];refine⟨b.map en,L,rfl,l1,l2,λk hk=>⟨(l3 k hk).1,(l3 k hk).2,λi=>?_,trivial⟩⟩
   cases hFk:F k i with
   | none=>rfl
   | some x=>grind
 cases hA with
 | val j d ds x' xs M hp hn hx hr' =>
  cases hr';generalize hes:b.map en=es at hx;have zero:∀ a c,b=[]->Calls P f #[.slice a 0 c] w (BW (NU [] (.row s ty) (VV en) (Zx u) (λa=>YY a) (Aik en) noE) w F (VV en b) []):=by
   intro a c e;rcases a with _|a
   ·refine(h0 c w).mono ?_;rintro e' w' ⟨rfl,rfl⟩;exact fin _ _ [] (by grind [World.ownsRow_nil]) (Below.refl _ _) λi j e' d he=>by simp_all
   ·refine(h a 0 c [] w (aAg _) (Nat.zero_mul s).symm (λj x hj=>by simp at hj) (λx hx=>by cases hx)).mono ?_
    grind
  cases hx with
  | sl0 a c=>simp_all
  | sl es p o c k vf hc hk hcl h1 hv =>
   subst hes;rw[aAM]at hc ⊢;rcases Nat.eq_zero_or_pos b.length with h0'|h0'
   ·simp_all
   have hks:k=s:=by
    have:=hk (en (b[0]'h0')) (List.mem_map.2 ⟨_,List.getElem_mem h0',rfl⟩);simp_all
   subst hks;have cel:∀ i j:Nat,i<b.length->j<k->∃ e d,(b.map en)[i]? =some e/\(cells e)[j]? =some d:=λi j hi hj=>by
    simp_all
   let xs:List Value:=(aAO (b.length*k)).map λq=>vf (q / k) (q % k)
   have hxs:∀ (q:Nat) x,xs[q]? =some x->q<b.length*k/\x=vf (q / k) (q % k):=λq x hx=>by
    grind
   have hq:∀ q,q<b.length*k->q / k<b.length/\q % k<k:=λq hq=>⟨Nat.div_lt_of_lt_mul (by rw[Nat.mul_comm];exact hq),Nat.mod_lt _ hs⟩
   refine(h ⟨p,o,none⟩ b.length c xs w hlen (by simp[xs]) (λq x hx=>?_) (λx hx=>?_)).mono ?_
   ·obtain⟨q1,rfl⟩:=hxs q x hx;obtain⟨q2,q3⟩:=hq q q1;obtain⟨e,d,e1,e2⟩:=cel _ _ q2 q3;have:=hF _ _ _ (hcl _ _ e d e1 e2);rw[Nat.add_assoc,Nat.div_add_mod' q k]at this;rw[Addr.add_lit];exact this
   ·obtain⟨q,hq'⟩:=List.getElem?_of_mem hx;obtain⟨q1,rfl⟩:=hxs q x hq';obtain⟨q2,q3⟩:=hq q q1;obtain⟨e,d,e1,e2⟩:=cel _ _ q2 q3;exact h1 _ _ e d e1 e2
   ·rintro e' w' ⟨v',rfl,h2,h3⟩;refine fin _ _ xs h2 h3 λi j e d he hd=>⟨vf i j,?_,h1 i j e d he hd,hv i j e d he hd⟩
    have hi:i<b.length:=by have:=(aA.1 he).1;simpa using this
    have hj:j<k:=by
     have:=(aA.1 hd).1;rw[hk e (List.mem_of_getElem? he)]at this;exact this
    have hlt:i*k+j<b.length*k:=by
     have:(i+1)*k<=b.length*k:=Nat.mul_le_mul_right k hi;rw[Nat.add_mul,Nat.one_mul]at this;omega
    have hd1:(i*k+j) / k=i:=by rw[Nat.add_comm,Nat.add_mul_div_right _ _ hs,Nat.div_eq_of_lt hj,Nat.zero_add]
    have hd2:(i*k+j) % k=j:=by rw[Nat.add_comm,Nat.add_mul_mod_self_right,Nat.mod_eq_of_lt hj]
    simp only[xs,aAb,List.getElem?_range hlt,Option.map_some,hd1,hd2]
theorem rf {α:Sort _} {a:α}:a=a:=rfl
abbrev M (d s:Nat):Ar:=⟨some d,.mv (.t s),none,[]⟩
abbrev P (d:Nat) (o:DOp):Ar:=⟨some d,o,none,[]⟩
abbrev T (n:Nat):Arg:=.t n
abbrev C (n:Int):Arg:=.c (.int .i64 n)
abbrev Nn (n:Int):D:=.int .i64 n
abbrev AnK (n:Int):D:=.int .u64 n
abbrev dW (v s t:Nat) (l:List D):Option (Nat×Own):=some (v,⟨false,false,s,t,l⟩)
abbrev dV (v s t:Nat) (d:D):Option (Nat×Own):=some (v,⟨false,true,s,t,[d]⟩)
theorem Xb {X:Type} {c c':OX} {K:X->Aq->S->Prop} {t:Option X} (h:Tr Γ c' K σ t) (e:c=c':=by conv=>lhs;cbv):Tr Γ c K σ t:=e▸h
theorem hY {o:List (Nat×Aa)} {n:Nat} (hE:ER e E:=by repeat first|exact trivial|refine And.intro (by first|rfl|(simp[AK,frp];done)|(simp[AK,frp,BU];done)|(simp[AK,frp,BU,nbq];done)|(simp[AK,lkO,frp,BU,frO];done)|(simp[AK,lkO,frp,BU,frO];rfl)|(simp[AK,lkO,frp,BU,frO,nbq];done)) ?_) (hO:ET o O:=by repeat first|exact trivial|refine And.intro (by first|rfl|(simp[AK,frp];done)|(simp[AK,frp,BU];done)|(simp[AK,frp,BU,nbq];done)|(simp[AK,lkO,frp,BU,frO];done)|(simp[AK,lkO,frp,BU,frO];rfl)|(simp[AK,lkO,frp,BU,frO,nbq];done)) ?_):Has ⟨e,o,n⟩ E O:=Zf hE hO
theorem hV (g:Nat) {v s ty n:Nat} {o:List (Nat×Aa)} (ho:lkO o g=some (v,⟨false,true,s,ty,[z]⟩)) (h:Has ⟨e.map (λp=>(p.1,frp g v z p.2)),(g,none)::o.map (λp=>(p.1,frO g v z p.2)),n⟩ E O) (hc:(cells z).all OQ=true:=by first|rfl|(simp[cells,frp,BU,OQ];done)):Has ⟨e,o,n⟩ E O:=JV ho hc h
def rnB (own:List (Nat×Nat)) (g:Nat):Nat:=match look own g with|some h=>h|none=>bif aAH 24096 g then g-20000 else bif (aAH 1000 g&&aAC g 4096)then g-1000 else g
def rnI:List (Nat×Nat)->Nat->Nat
 | [],g=>bif aAH 4096 g then g+20000 else g+1000
 | (a,b)::r,g=>bif aAL b g then a else rnI r g
theorem PV (own:List (Nat×Nat)) (h1:Has σ (E.map λp=>(p.1,rnm (rnI own) p.2)) (O.map λp=>(rnI own p.1,rnO (rnI own) p.2))) (hn:CG (rnB own) ((O.map λp=>(rnI own p.1,rnO (rnI own) p.2)).map Prod.fst)=true) (h2:∀ n,Has ⟨(E.map λp=>(p.1,rnm (rnI own) p.2)).map (λp=>(p.1,rnm (rnB own) p.2)),(O.map λp=>(rnI own p.1,rnO (rnI own) p.2)).map (λp=>(rnB own p.1,rnO (rnB own) p.2)),n⟩ E O):Has σ E O :=
 WJ h1 λn=>PK (rnB own) hn (h2 n)
open Go.ChangeShapes Go.WideShapes Go.ChangeAt Go.RowKit
def WW (w:Int):Prop:=0<=w/\w<18446744073709551616
def Acm (w:Int) (j:Nat):Bool:=w.toNat.testBit j
theorem CK {w:Int} (h:WW w):(aAK IntKind.u64.bits w).toNat=w.toNat:=by
 show(aAK 64 w).toNat=w.toNat;have:=h.1;have:=h.2
 grind
theorem AeA {n:Nat} (h:n<18446744073709551616):IntKind.u64.wrap (n:Int)=n:=by
 grind [IntKind.wrap,IntKind.signed,IntKind.bits]
theorem AuN {n:Int} (h:WW n):IntKind.u64.wrap n=n:=by
 have:=h.1;have:=h.2
 grind [IntKind.wrap,IntKind.signed,IntKind.bits]
theorem WW.nat {n:Nat} (h:n<18446744073709551616):WW (n:Int):=⟨by omega,by omega⟩
theorem WW.toNat_lt {w:Int} (h:WW w):w.toNat<18446744073709551616:=by have:=h.1;have:=h.2;omega
theorem Iv (b:BitVec IntKind.u64.bits):b.toNat<18446744073709551616:=b.isLt
theorem AyL {x y:Int} (hx:WW x) (hy:WW y):IntKind.u64.wrap ((aAK IntKind.u64.bits x ||| aAK IntKind.u64.bits y).toNat:Nat)=((x.toNat ||| y.toNat:Nat):Int):=by
 grind [AeA,Iv,CK]
theorem AwK {x y:Int} (hx:WW x) (hy:WW y):IntKind.u64.wrap ((aAK IntKind.u64.bits x &&& aAK IntKind.u64.bits y).toNat:Nat)=((x.toNat &&& y.toNat:Nat):Int):=by
 grind [AeA,Iv,CK]
def Aqb (x y:Nat):Nat:=x &&& (18446744073709551615-y)
theorem ApQ {x y:Int} (hx:WW x) (hy:WW y):IntKind.u64.wrap ((aAK IntKind.u64.bits x &&& ~~~ aAK IntKind.u64.bits y).toNat:Nat)=((Aqb x.toNat y.toNat:Nat):Int):=by
 rw[AeA (Iv _),BitVec.toNat_and,BitVec.toNat_not,CK hx,CK hy];rfl
theorem Aqc {x y:Nat} (hx:x<18446744073709551616) (hy:y<18446744073709551616):(Aqb x y).testBit j=(x.testBit j&& !y.testBit j):=by
 unfold Aqb;rw[Nat.testBit_and]
 by_cases hj:j<64
 ·have e:18446744073709551615-y=2 ^ 64-(y+1):=by omega
  rw[e,Nat.testBit_two_pow_sub_succ (by omega)]
  simp[hj]
 ·have:x.testBit j=false:=Nat.testBit_lt_two_pow (Nat.lt_of_lt_of_le hx (Nat.pow_le_pow_right (by decide:0<2) (show 64<=j by omega)))
  simp[this]
theorem AnF {x y:Nat} (hx:x<18446744073709551616):x &&& y<18446744073709551616:=Nat.lt_of_le_of_lt Nat.and_le_left hx
theorem Auo {x y:Nat} (hx:x<18446744073709551616) (hy:y<18446744073709551616):x ||| y<18446744073709551616:=by
 have:=Nat.or_lt_two_pow (n:=64) (x:=x) (y:=y) (by omega) (by omega)
 omega
theorem AvW {x:Nat} (h0:0<x) (h:x<18446744073709551616) :
  Lib.ctz 64 x<64/\x.testBit (Lib.ctz 64 x)=true/\(∀ j,j<Lib.ctz 64 x->x.testBit j=false)/\∀ j,(x &&& (x-1)).testBit j=(x.testBit j&&decide (j≠Lib.ctz 64 x)):=by
 unfold Lib.ctz;rw[if_neg (by omega)]
 obtain⟨m,hm,hk⟩:=Lib.ctzFrom_spec 64 x h0 (by omega)
 generalize Lib.ctzFrom 64 x=k at hm hk;have hp:0<2 ^ k:=Nat.two_pow_pos k;have e1:x=2 ^ (k+1)*m+2 ^ k:=by grind
 have e2:x-1=2 ^ (k+1)*m+(2 ^ k-1):=by omega
 have b1:2 ^ k<2 ^ (k+1):=by omega
 have t1:∀ j,x.testBit j=if j<k+1 then decide (k=j)else m.testBit (j-(k+1)):=by
  intro j;rw[e1,aAW _ b1,Nat.testBit_two_pow]
 have t2:∀ j,(x-1).testBit j=if j<k+1 then decide (j<k)else m.testBit (j-(k+1)):=by
  intro j;rw[e2,aAW _ (by omega),Nat.testBit_two_pow_sub_one]
 refine⟨hk,by simp_all,λj hj=>by grind,λj=>?_⟩
 grind
def Gc (a:Int):List D:=[.int .i64 a]
def Gb (ds:List D):Int:=uI (ds.getD 0 .top)
theorem JX (a:Int):Gb (Gc a)=a:=rfl
instance:OZ Gc Gb:=⟨JX⟩
def FY (a:Int×Int):List D:=[.int .u64 a.1,.int .i64 a.2]
def FX (ds:List D):Int×Int:=(uI (ds.getD 0 .top),uI (ds.getD 1 .top))
theorem JT (a:Int×Int):FX (FY a)=a:=rfl
instance:OZ FY FX:=⟨JT⟩
def Em (a:List (List UInt8)×List UInt8):List D:=[.sl (a.1.map D.str),.str a.2]
def El (ds:List D):List (List UInt8)×List UInt8:=((uL uS) (ds.getD 0 .top),uS (ds.getD 1 .top))
theorem JY (a:List (List UInt8)×List UInt8):El (Em a)=a:=by grind [El,Em,uS,Qe]
instance:OZ Em El:=⟨JY⟩
def GS (a:List UInt8×List UInt8):List D:=[.str a.1,.str a.2]
def GR (ds:List D):List UInt8×List UInt8:=(uS (ds.getD 0 .top),uS (ds.getD 1 .top))
theorem KX (a:List UInt8×List UInt8):GR (GS a)=a:=rfl
instance:OZ GS GR:=⟨KX⟩
section
variable {P:Program} {W:World} {t:TypeId}
theorem Dv:∀ {laid:List (String×DataW Unit)} {ps:List MemPlace} {i:Nat} {n:String} {d:DataW Unit},DataW.LaidVars P W laid ps->laid[i]? =some (n,d) ->
  ∃ g t cs fuel p,P.globalNamed n=some g/\(P.globals[g]?).map (·.type)=some t/\W.var? P n=some cs/\aAN (λ_=>()) P W 0 (λ_=>true) false fuel t cs.toList=some (d,p)
 | [],_,i,n,d,_,hi=>by simp at hi
 | (n0,d0)::r,ps,i,n,d,h,hi=>by
  obtain⟨g,t,cs,fuel,p,q,h1,h2,h3,h4,hq,_⟩:=h;rcases i with _|i
  ·grind
  ·exact Dv hq (by simpa using hi)
theorem Jn {k:IntKind} {zs:List Int} {e:TypeId} {n g:Nat} (h:laidMet P laid W) (hi:laid[i]? =some (nm,.agg (zs.map λz=>.lit (.int k z)))) (hg:P.globalNamed nm=some g) (ht:(P.globals[g]?).map (·.type)=some t) (ha:P.underlying t=some (.array n e)) (he:P.underlying e=some (.int k)) (hc:P.cellsOf e=1):Cq P (Xv W) (nm,zs.map λz=>.int k z):=by
 obtain⟨ps,hv,_⟩:=h;obtain⟨g0,t0,cs,fuel,p,hg0,ht0,hv0,hd0⟩:=Dv hv hi;obtain rfl:=Option.some.inj (hg.symm.trans hg0);obtain rfl:=Option.some.inj (ht.symm.trans ht0);obtain⟨xs,m,rfl,hx,hlen,hn,hel⟩:=DataW.trod_array ha hd0;simp only[Prod.mk.injEq,DataW.agg.injEq]at hx;intro g' hg' j d hd;obtain rfl:=Option.some.inj (hg.symm.trans hg');simp only[aAb,Option.map_eq_some_iff]at hd;obtain⟨z,hz,rfl⟩:=hd;have hzl:zs.length=n:=by have:=congrArg List.length hx.1;grind
 have hj:j<n:=by grind
 have hej:=hel j hj;rw[hc,aAD (show j<xs.length by omega)]at hej
 obtain⟨z',e1,e2,_⟩:=aAV he hej;have hzz:z'=z:=by
  have:=congrArg (λl=>l[j]?) hx.1
  grind
 subst hzz;have hcs:cs[j]? =some (.int k z'):=by
  have h0:((cs.toList.drop (j*1)).take 1)[0]? =some (.int k z'):=by rw[e1];rfl
  grind
 refine⟨.int k z',?_,rfl,.int _ _⟩;show W.cell? ⟨g,j,none⟩=_
 grind [World.var?_cell]
def Hf (q:Int×Int×Int×Bool):DataW Unit:=.agg [.lit (.int .i64 q.1),.lit (.int .i64 q.2.1),.lit (.int .i64 q.2.2.1),.lit (.bool q.2.2.2)]
structure Ja (P:Program) (f0 f1 f2 f3:Field):Prop where
 u0:P.underlying f0.type=some (.int .i64)
 u1:P.underlying f1.type=some (.int .i64)
 u2:P.underlying f2.type=some (.int .i64)
 u3:P.underlying f3.type=some .bool
 o:f0.offset=0/\f1.offset=1/\f2.offset=2/\f3.offset=3
 c:P.cellsOf f0.type=1/\P.cellsOf f1.type=1/\P.cellsOf f2.type=1/\P.cellsOf f3.type=1
theorem GO {α:Type} (c:α->List D) (hc:∀ q,(c q).length=4):∀ (l:List α) (j:Nat) (d:D),(l.flatMap c)[j]? =some d->∃ q,l[j / 4]? =some q/\(c q)[j % 4]? =some d
 | [],j,d,h=>by simp at h
 | q::l,j,d,h=>by
  rw[List.flatMap_cons]at h
  by_cases hj:j<4
  ·grind
  ·rw[List.getElem?_append_right (by simp_all),hc]at h
   obtain⟨q',h1,h2⟩:=GO c hc l (j-4) d h
   grind
theorem Hy {zs:List (Int×Int×Int×Bool)} {e:TypeId} {n g:Nat} {f0 f1 f2 f3:Field} (h:laidMet P laid W) (hi:laid[i]? =some (nm,.agg (zs.map Hf))) (hg:P.globalNamed nm=some g) (ht:(P.globals[g]?).map (·.type)=some t) (ha:P.underlying t=some (.array n e)) (he:P.underlying e=some (.struct #[f0,f1,f2,f3])) (hc:P.cellsOf e=4) (hs:Ja P f0 f1 f2 f3):Cq P (Xv W) (nm,zs.flatMap Ex):=by
 obtain⟨ps,hv,_⟩:=h;obtain⟨g0,t0,cs,fuel,p,hg0,ht0,hv0,hd0⟩:=Dv hv hi;obtain rfl:=Option.some.inj (hg.symm.trans hg0);obtain rfl:=Option.some.inj (ht.symm.trans ht0);obtain⟨xs,m,rfl,hx,hlen,hn,hel⟩:=DataW.trod_array ha hd0;simp only[Prod.mk.injEq,DataW.agg.injEq]at hx;intro g' hg' j d hd;obtain rfl:=Option.some.inj (hg.symm.trans hg');obtain⟨q,hz,hd⟩:=GO Ex (λ_=>rfl) zs j d hd
 have hzl:zs.length=n:=by have:=congrArg List.length hx.1;grind
 have hj:j / 4<n:=by grind
 have hej:=hel (j / 4) hj;rw[hc,aAD (show j / 4<xs.length by omega)]at hej
 obtain⟨ys,m',_,e2,hl4,hyl,hf⟩:=DataW.trod_struct he hej;have hyl:ys.length=4:=hyl;have hq:ys.map (·.1)=[.lit (.int .i64 q.1),.lit (.int .i64 q.2.1),.lit (.int .i64 q.2.2.1),.lit (.bool q.2.2.2)]:=by
  have:=congrArg (λl=>l[j / 4]?) hx.1
  grind [Hf]
 have gy:∀ i,(hi:i<4)->ys[i]? =some (ys[i]'(by omega)):=λi hi=>aAD _
 have qy:∀ i,(hi:i<4)->(ys.map (·.1))[i]? =some (ys[i]'(by omega)).1:=λi hi=>by grind
 have fin:∀ (i:Nat) (v:Value),i<4->(((cs.toList.drop (j / 4*4)).take 4).drop i).take 1=[v]->j % 4=i->W.cell? ⟨g,j,none⟩=some v:=by
  intro i v hi4 hv hji;have h0:((((cs.toList.drop (j / 4*4)).take 4).drop i).take 1)[0]? =some v:=by rw[hv];rfl
  have hcs:cs[j]? =some v:=by
   simp only[List.getElem?_take,List.getElem?_drop]at h0;have e:j / 4*4+(i+0)=j:=by omega
   simp_all
  grind [World.var?_cell]
 have hm4:j % 4<4:=Nat.mod_lt _ (by decide)
 obtain⟨o0,o1,o2,o3⟩:=hs.o;obtain⟨c0,c1,c2,c3⟩:=hs.c;rcases(show j % 4=0\/j % 4=1\/j % 4=2\/j % 4=3 by omega)with hr|hr|hr|hr
 ·have z:=(hf 0 f0 rfl).trans (gy 0 (by omega))
  obtain⟨k,y1,y2,_⟩:=aAV hs.u0 z;have:=qy 0 (by omega)
  rw[hq,y2]at this;cases this;rw[hr]at hd;cases hd;rw[o0,c0]at y1;exact⟨_,fin 0 _ (by omega) y1 hr,rfl,.int _ _⟩
 ·have z:=(hf 1 f1 rfl).trans (gy 1 (by omega))
  obtain⟨k,y1,y2,_⟩:=aAV hs.u1 z;have:=qy 1 (by omega)
  rw[hq,y2]at this;cases this;rw[hr]at hd;cases hd;rw[o1,c1]at y1;exact⟨_,fin 1 _ (by omega) y1 hr,rfl,.int _ _⟩
 ·have z:=(hf 2 f2 rfl).trans (gy 2 (by omega))
  obtain⟨k,y1,y2,_⟩:=aAV hs.u2 z;have:=qy 2 (by omega)
  rw[hq,y2]at this;cases this;rw[hr]at hd;cases hd;rw[o2,c2]at y1;exact⟨_,fin 2 _ (by omega) y1 hr,rfl,.int _ _⟩
 ·have z:=(hf 3 f3 rfl).trans (gy 3 (by omega))
  obtain⟨k,y1,y2⟩:=DataW.trod_bool hs.u3 z;have:=qy 3 (by omega)
  rw[hq,y2]at this;cases this;rw[hr]at hd;cases hd;rw[o3,c3]at y1;exact⟨_,fin 3 _ (by omega) y1 hr,rfl,.bool _⟩
section
variable {laid:List (String×DataW Unit)} {i g n:Nat} {e:TypeId}
theorem AwA (h:P.globalNamed nm=none):Cq P F (nm,l):=λg hg=>by simp_all
theorem Azt (hL:laidMetH P laid W) (hn:(laid.all λx=>x.2.handleName?.isNone)=true) (a:laid[i]? =some ("math/bits.deBruijn64tab",.agg ((Dt.map λn:Nat=>(n:Int)).map λz=>.lit (.int .u8 z))))
  (b:P.globalNamed "math/bits.deBruijn64tab" = some g/\(P.globals[g]?).map (·.type)=some t/\P.underlying t=some (.array n e)/\P.underlying e=some (.int .u8)/\P.cellsOf e=1):Cq P (Xv W) ("math/bits.deBruijn64tab",Dt.map λn:Nat=>.int .u8 n):=by
 rw[MakeChecks.laidMetH_plain _ _ _ hn]at hL;have:=Jn hL a b.1 b.2.1 b.2.2.1 b.2.2.2.1 b.2.2.2.2;rwa[aAU]at this
theorem Azu {f0 f1 f2 f3:Field} (hL:laidMetH P laid W) (hn:(laid.all λx=>x.2.handleName?.isNone)=true) (a:laid[i]? =some ("spillframe/sir.shapes",.agg (Ro.map Hf)))
  (b:P.globalNamed "spillframe/sir.shapes" = some g/\(P.globals[g]?).map (·.type)=some t/\P.underlying t=some (.array n e)/\P.underlying e=some (.struct #[f0,f1,f2,f3])/\P.cellsOf e=4/\Ja P f0 f1 f2 f3):Cq P (Xv W) ("spillframe/sir.shapes",Ro.flatMap Ex):=by
 grind [MakeChecks.laidMetH_plain,Hy]
end
theorem AtY (c0:Cq P F ("math/bits.deBruijn64tab",Dt.map λn:Nat=>.int .u8 n)) (c1:Cq P F ("internal/strconv.uint64pow10",(aAO 20).map λi=>.int .u64 (10 ^ i:Nat))) (c2:Cq P F ("spillframe/sirtext.names",AqQ.map .str)) (c3:Cq P F ("spillframe/sirtext.forms",AqP.map .str)) (c4:Cq P F ("spillframe/sir.shapes",Ro.flatMap Ex)):YQ P F:=by
 intro x hx;simp only[CV,aAY,List.not_mem_nil,or_false]at hx
 grind
end
end Go.Dw
