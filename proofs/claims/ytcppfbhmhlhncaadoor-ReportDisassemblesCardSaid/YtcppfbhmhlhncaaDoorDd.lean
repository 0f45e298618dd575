/-
  THE LAYER: symbolic semantics of compiled code, and programs on typed data.
-/
import Derived.Test.YtcppfbhmhlhncaaDoorDc
import Derived.KernelRfl
import Derived.Shelf.Spec.TrailingZeros
import Derived.Lib.ItoaNum
import Derived.Lib.Join
import Derived.Lib.Bytealg
import Derived.Below
import Derived.Shelf.Strings.BuilderF
import Derived.Lib.FrozenHead2
import Derived.Lib.Hide
import Derived.Sort.Row
import Derived.Sort.Grow
import Derived.Lib.SlicesCompact
import Derived.LaidMore
import Derived.OpenShut
import Derived.MakeChecks
import Derived.Lib.TrailingZeros
open List renaming getElem?_map->aAA,getElem?_eq_some_iff->aAB,append_nil->aAC,getElem?_eq_getElem->aAE,length_map->aAF,length_append->aAJ,size_toArray->aAK,append_assoc->aAL,take_of_length_le->aAM,take_left->aAO,replicate->aAS,map_take->aAT,map_map->aAU
open Nat renaming blt->aAD,ble_eq_true_of_le->aAG,zero_le->aAI,le_refl->aAP,mul_one->aAQ,ble->aAR
open Option renaming getD_some->aA,map_eq_some_iff->aAH
open UInt8 renaming ofNat->aAN
namespace Go.Dw
def uA {α:Type} (u:D->α):D->List α| .agg cs=>cs.map u|_=>[]
@[simp] theorem Qg {α:Type} {u:D->α} {en:α->D} (h:∀ a,u (en a)=a) (l:List α):uA u (.agg (l.map en))=l:=by
 simp only[uA,aAU]
 conv=>rhs;rw[<- List.map_id l]
 exact List.map_congr_left λa _=>h a
section
variable {Γ:Ar} {X:Type} {K:KR X} {t:Option X} {e:List (Nat×D)} {o:List (Nat×Ac)} {n nv:Nat} {d:Bool} {acc:List Co}
 {r:List As} {dst:Nat} {g:Option (Nat×Bool)} {af:List Nat} {α:Type}
variable {x y:Arg} {v w:D} {k k':IntKind} {a b:Int} {s ty gi vi ii off m:Nat} {fz var:Bool} {l:List α} {en:α->D}
theorem AdM {i len:Nat} (hg:gOn e g=true) (hx:Aa e x=some (.optr gi vi i off)) (hy:Aa e y=some (.int k a)) (hi:0<=a/\a<len)
  (h:TrO Γ r (nv+1) ⟨(dst,.optr gi vi i (off+a.toNat*s))::e,o,n⟩ d (acc++[(gK g++(rdK x++rdK y),[.e dst],af)]) K t) :
  TrO Γ (⟨some dst,.ixP s len x y,g,af⟩::r) nv ⟨e,o,n⟩ d acc K t :=
 Al hg (c:=True) (we:=[(dst,.optr gi vi i (off+a.toNat*s))]) (wo:=[]) (rd:=rdK x++rdK y) (by simp[evalOp,Ad,strip,hx,hy,hi.1,hi.2]) (by simp[evalOp,strip,hx,hy]) trivial h
theorem Ach {q:α} {j:Nat} (hj:off=j) (hg:gOn e g=true) (hx:Aa e x=some (.optr gi vi 0 off)) (ho:lkO o gi=some (vi,⟨fz,var,s,ty,[.agg (l.map en)]⟩)) (hi:l[j]? =some q) (hpl:plain (en q)=true) (_hc:∀ q,cells (en q)=[en q])
  (h:TrO Γ r (nv+1) ⟨(dst,en q)::e,o,n⟩ d (acc++[(gK g++(rdK x++[.o gi]),[.e dst],af)]) K t) :
  TrO Γ (⟨some dst,.ld 1 false x,g,af⟩::r) nv ⟨e,o,n⟩ d acc K t:=by
 subst hj
 have hl:=(aAB.1 hi).1
 refine Fa (i:=0) (m:=1) (agg:=false) (off:=off) (z:=.agg (l.map en)) (v:=en q) hg hx ho rfl ?_ ?_ h (by simp[hpl])
 ·simp only[cells,aAF]
  exact aAG (by omega)
 ·simp only[QN,cells,Bool.false_eq_true,if_false]
  simp[hi]
theorem YL {q:α} {j:Nat} (hj:off=j) (hg:gOn e g=true) (hx:Aa e x=some (.fptr (.agg (l.map en)) off)) (hi:l[j]? =some q) (_hc:∀ q,cells (en q)=[en q])
  (h:TrO Γ r (nv+1) ⟨(dst,en q)::e,o,n⟩ d (acc++[(gK g++rdK x,[.e dst],af)]) K t) :
  TrO Γ (⟨some dst,.ld 1 false x,g,af⟩::r) nv ⟨e,o,n⟩ d acc K t:=by
 subst hj
 have hl:=(aAB.1 hi).1
 refine Hg (m:=1) (agg:=false) (off:=off) (z:=.agg (l.map en)) (v:=en q) hg hx ?_ ?_ h
 ·simp only[cells,aAF]
  exact aAG (by omega)
 ·simp only[QN,cells,Bool.false_eq_true,if_false]
  simp[hi]
end
section
variable {Γ Γ':Ar} {X ι γ:Type} {K:X->Ax->S->Prop} {t:Option X} {e E:List (Nat×D)} {o O:List (Nat×Ac)} {n nv N:Nat} {acc:List Co}
 {r:List As} {dst:Option Nat} {g:Option (Nat×Bool)} {af:List Nat}
theorem Vn {σ:S} {E1:List (Nat×D)} {O1:List (Nat×Ac)} (h:Has σ E1 O1) (k:∀ n,Has ⟨E1,O1,n⟩ E O):Has σ E O :=
 h.elim λn h=>(k n).imp λ_ k=>h.trans k
theorem Sz (rn:Nat->Nat) (hn:DV rn (o.map Prod.fst)=true) (h:Has ⟨e.map (λp=>(p.1,rnm rn p.2)),o.map (λp=>(rn p.1,rnO rn p.2)),n⟩ E O):Has ⟨e,o,n⟩ E O :=
 Cv (Rw.nams (σ:=⟨e,o,n⟩) rn hn) h
def TrC (Γ:Ar) (op:As) (r:List As) (K:X->Ax->S->Prop) (σ:S) (t:Option X):Prop:=∀ x,t=some x->HU Γ op σ (Wk (λτ=>wpS Γ r τ.n τ (K x .normal)))
theorem WQ {op:As} {E:γ->List (Nat×D)} {O:γ->List (Nat×Ac)} (g0:γ) (hh:Has ⟨e,o,nv⟩ (E g0) (O g0)) (h:∀ g nn,TrC Γ op r K ⟨E g,O g,nn⟩ t):TrO Γ (op::r) nv ⟨e,o,n⟩ false acc (Ck N K) t:=by
 intro x hx
 refine⟨λ_=>.inr (.inl ?_),λhd=>by cases hd⟩
 obtain⟨m,hm⟩:=hh
 exact⟨_,hm,h g0 m x hx⟩
def PV (Γ:Ar) (r:List As) (dst:Option Nat) (rs:List Be) (e:List (Nat×D)) (K:X->Ax->S->Prop):X->Ax->S->Prop:=λx =>
 Js rs e (λd τ=>Wk (λτ=>wpS Γ r τ.n τ (K x .normal)) ⟨Ad dst d++τ.e,τ.o,τ.n⟩)
def Ld (dst:Option Nat) (rs:List Be) (e:List (Nat×D)) (E:ι->γ->List (Nat×D)) (O:ι->γ->List (Nat×Ac)) (j:ι->Option X):X->Ax->S->Prop:=λx =>
 Js rs e (λd τ=>∃ s g,j s=some x/\Has ⟨Ad dst d++τ.e,τ.o,τ.n⟩ (E s g) (O s g))
theorem MY {fa:Arg} {args:List Arg} {k np:Nat} {caps ds:List D} {rs:List Be} {dc:Ru} {KK:X->Ax->S->Prop} (hg:gOn e g=true) (hf:Aa e fa=some (.clo k caps)) (hds:Am e args=ds) (hw:ds.all (λd=>(match d with| .when ..=>false|_=>true))=true) (hkb:aAD k 4096=true)
  (hΓ:Γ (k+4096*AN ds)=some (Abg Γ' np rs dc)) (hnp:(ds++caps).length=np) (hE:Em 0 (ds++caps)=E) (hK:∀ x ex τ,KK x ex τ->PV Γ r dst rs e K x ex τ) (h:Tr Γ' dc KK ⟨E,o,n⟩ t) :
  TrC Γ ⟨dst,.call fa args,g,af⟩ r K ⟨e,o,n⟩ t:=by
 intro x hx
 have hrd:(AL args).run ⟨e,o,n⟩=ds:=by rw[<- hds];exact Bo args
 have hraw:(raw fa).run ⟨e,o,n⟩= .clo k caps:=by simp[hf]
 have hon:onG g ⟨e,o,n⟩:=by
  cases g with
  | none=>trivial
  | some p =>
   obtain⟨tt,want⟩:=p
   show(guardOf ((S.mk e o n).ge tt) want).1/\(guardOf ((S.mk e o n).ge tt) want).2=true
   simp only[gOn,BO]at hg
   simp only[S.ge]
   generalize(look e tt).getD .top=dd at *
   cases dd<;>simp_all[guardOf]
   rename_i p dd
   cases dd<;>simp_all
 refine⟨hon,fa,args,k,caps,Abg Γ' np rs dc,ML Γ' np rs dc,Wk (λτ=>wpS Γ r τ.n τ (K x .normal)),λτ hτ=>hτ,rfl,hraw,hkb,?_,rfl,?_,?_⟩
 ·show Γ (k+4096*AN ((AL args).run ⟨e,o,n⟩))=_
  rw[hrd];exact hΓ
 ·show((AL args).run ⟨e,o,n⟩).all _=true
  rw[hrd];exact hw
 ·show ML Γ' np rs dc ((AL args).run ⟨e,o,n⟩++caps) ⟨e,o,n⟩ _
  rw[hrd]
  refine⟨hnp,_,.refl _,?_⟩
  show DWp Γ' dc _ ⟨Em 0 (ds++caps),o,n⟩
  rw[hE]
  exact Bw dc _ _ _ (λex τ hq=>hK x ex τ hq) (h x hx)
theorem Mf {rs:List Be} {K1 K2:D->S->Prop} (h:∀ d τ,K1 d τ->K2 d τ) {ex:Ax} {τ:S} (hq:Js rs e K1 ex τ):Js rs e K2 ex τ:=by
 cases ex with
 | exit id=>exact hq
 | normal=>exact Wk.mono (λτ h'=>⟨h'.1,h _ _ h'.2⟩) hq
 | ret=>exact Wk.mono (λτ h'=>⟨h'.1,h _ _ h'.2⟩) hq
theorem WN {fa:Arg} {args:List Arg} {k np:Nat} {caps ds:List D} {rs:List Be} {dc:Ru} {ES:ι->γ->List (Nat×D)} {OS:ι->γ->List (Nat×Ac)} {j:ι->Option X} (hg:gOn e g=true) (hf:Aa e fa=some (.clo k caps)) (hds:Am e args=ds) (hw:ds.all (λd=>(match d with| .when ..=>false|_=>true))=true) (hkb:aAD k 4096=true)
  (hΓ:Γ (k+4096*AN ds)=some (Abg Γ' np rs dc)) (hnp:(ds++caps).length=np) (hE:Em 0 (ds++caps)=E) (h:Tr Γ' dc (Ld dst rs e ES OS j) ⟨E,o,n⟩ t) (h2:∀ s g nn,TrO Γ r nn ⟨ES s g,OS s g,nn⟩ false [] (Ck 0 K) (j s)) :
  TrC Γ ⟨dst,.call fa args,g,af⟩ r K ⟨e,o,n⟩ t:=by
 refine MY (KK:=Ld dst rs e ES OS j) hg hf hds hw hkb hΓ hnp hE (λx ex τ hq=>?_) h
 refine Mf (λd τ hq=>?_) hq
 obtain⟨s,g,hj,m,hm⟩:=hq
 exact⟨_,hm,(h2 s g m x hj).1 rfl⟩
theorem VX {rs:List Be} {d:D} {ex:Ax} {e':List (Nat×D)} {o':List (Nat×Ac)} {n':Nat} {ES:ι->γ->List (Nat×D)} {OS:ι->γ->List (Nat×Ac)} {j:ι->Option X} {s:ι} (g:γ) (hex:(match ex with| .exit _=>false|_=>true)=true) (hr:(Rs rs ⟨e',o',n'⟩).1) (hd:(Rs rs ⟨e',o',n'⟩).2=d)
  (hh:Has ⟨Ad dst d++e,o',n'⟩ (ES s g) (OS s g)):TrX ex (Ld dst rs e ES OS j) ⟨e',o',n'⟩ (j s):=by
 intro x hx
 subst hd
 have key:Wk (λτ=>(Rs rs τ).1/\(λ(d:D) (τ:S)=>∃ s g,j s=some x/\Has ⟨Ad dst d++τ.e,τ.o,τ.n⟩ (ES s g) (OS s g)) (Rs rs τ).2 ⟨e,τ.o,τ.n⟩) ⟨e',o',n'⟩:=by
  refine⟨_,.refl _,hr,s,g,hx,hh⟩
 cases ex with
 | exit id=>cases hex
 | normal=>exact key
 | ret=>exact key
end
def itE (p:List UInt8×Nat):List D:=[.str p.1,.int .i64 (.ofNat p.2)]
def itN (p:List UInt8×Nat):List UInt8×Nat:=(p.1,p.2+(Vm p.1 p.2).2)
theorem FP {α:Type} (l:List α) (en:α->D) (k:Nat):List.take (l.length-k) (List.drop k (l.map en))=(l.drop k).map en:=by
 rw[<- List.map_drop]
 exact aAM (by simp)
section
variable {Γ:Ar} {X α:Type} {K:KR X} {t:Option X} {e E:List (Nat×D)} {o O:List (Nat×Ac)} {n nv:Nat} {acc:List Co} {d:Bool}
 {r:List As} {dst:Nat} {g:Option (Nat×Bool)} {af:List Nat} {x y i:Arg} {gi vi ty:Nat} {m:Int} {en:α->D} {l:List (Int×α)} {z:D}
theorem BV (g v:Nat):strip (.mref g v)=(true,.mref g v):=rfl
theorem DQ (k:IntKind) (n:Int):strip (.int k n)=(true,.int k n):=rfl
theorem AdP {K:X->Ax->S->Prop} {N:Nat} {s:List UInt8} (hx:Aa e x=some (.str s))
  (h:∀ nn,TrO Γ r (nn+1) ⟨(dst,.mref dst nn)::e,(dst,some (nn,⟨true,false,0,1,itE (s,0)⟩))::o,nn+1⟩ false [] (Ck N K) t) :
  TrO Γ (⟨some dst,.rng x,none,af⟩::r) nv ⟨e,o,n⟩ false acc (Ck N K) t:=by
 intro q hq
 refine⟨λ_=>.inr (.inr ?_),λhd=>by cases hd⟩
 exact⟨_,.refl _,rfl,dst,rfl,1,_,⟨s,by rw[Aj,hx];rfl,rfl,rfl⟩,_,.refl _,(h nv q hq).1 rfl⟩
theorem Qp {es:List D} (hg:gOn e g=true) (hx:Aa e x=some (.mref gi vi)) (ho:lkO o gi=some (vi,⟨true,false,0,2,es⟩))
  (h:TrO Γ r (nv+1) ⟨(dst,.mref gi vi)::e,o,n⟩ d (acc++[(gK g++(rdK x++[.o gi]),[.e dst],af)]) K t):TrO Γ (⟨some dst,.nilck x,g,af⟩::r) nv ⟨e,o,n⟩ d acc K t :=
 Al hg (c:=True/\vi=vi/\true=true/\0=0/\2=2) (we:=[(dst,.mref gi vi)]) (wo:=[]) (rd:=rdK x++[Key.o gi]) (by simp only[evalOp,R.run_bind,Aj,aA,hx,BV,bAt,R.AP,Ay,ho,R.AB,R.run_pure,Ad]) (by simp only[evalOp,R.AF,Aj,AU,aA,hx,BV,bAt,R.Ca,R.AP,Ay,ho,R.Cy,R.AB,R.Bh,aAC]) ⟨trivial,rfl,rfl,rfl,rfl⟩ h
theorem Qr {es:List D} (hg:gOn e g=true) (hx:Aa e x=some (.mref gi vi)) (ho:lkO o gi=some (vi,⟨true,false,0,2,es⟩))
  (h:TrO Γ r (nv+1) ⟨(dst,.mref gi vi)::e,o,n⟩ d (acc++[(gK g++(rdK x++[.o gi]),[.e dst],af)]) K t):TrO Γ (⟨some dst,.fldA 0 x,g,af⟩::r) nv ⟨e,o,n⟩ d acc K t :=
 Al hg (c:=True/\0=0/\vi=vi/\true=true/\0=0/\2=2) (we:=[(dst,.mref gi vi)]) (wo:=[]) (rd:=rdK x++[Key.o gi]) (by simp only[evalOp,R.run_bind,Aj,aA,hx,BV,bAt,R.AP,Ay,ho,R.AB,R.run_pure,Ad]) (by simp only[evalOp,R.AF,Aj,AU,aA,hx,BV,bAt,R.Ca,R.AP,Ay,ho,R.Cy,R.AB,R.Bh,aAC]) ⟨trivial,rfl,rfl,rfl,rfl,rfl⟩ h
theorem AdO {p:List UInt8×Nat} {t':Option X} (hg:gOn e g=true) (hx:Aa e x=some (.mref gi vi)) (ho:lkO o gi=some (vi,⟨true,false,0,1,itE p⟩))
  (h:p.2<p.1.length->TrO Γ r (nv+1) ⟨(dst,.tup [.bool true,.int .i64 p.2,.int .i32 (Vm p.1 p.2).1])::e,(gi,some (vi,⟨true,false,0,1,itE (itN p)⟩))::o,n⟩ d (acc++[(gK g++(rdK x++[.o gi]),[.e dst,.o gi],af)]) K t)
  (h':¬ p.2<p.1.length->TrO Γ r (nv+1) ⟨(dst,.tup [.bool false])::e,o,n⟩ d (acc++[(gK g++(rdK x++[.o gi]),[.e dst],af)]) K t') :
  TrO Γ (⟨some dst,.nxt x,g,af⟩::r) nv ⟨e,o,n⟩ d acc K (bif aAD p.2 p.1.length then t else t'):=by
 obtain⟨s,q⟩:=p
 simp only[itE,itN]at ho h h' ⊢
 by_cases hq:q<s.length
 ·have e1:aAD q s.length=true:=by simpa[Nat.blt_eq]using hq
  rw[e1]
  simp only[cond_true]
  refine Al hg (c:=True/\vi=vi/\0=0/\1=1) (we:=[(dst,.tup [.bool true,.int .i64 q,.int .i32 (Vm s q).1])]) (wo:=[(gi,some (vi,⟨true,false,0,1,[.str s,.int .i64 (.ofNat (q+(Vm s q).2))]⟩))]) (rd:=rdK x++[Key.o gi]) ?_ ?_ ⟨trivial,rfl,rfl,rfl⟩ (h hq)
  ·simp only[evalOp,R.run_bind,Aj,aA,hx,BV,Dh,R.AP,Ay,ho,R.AB,R.run_pure,if_pos hq,Ad]
  ·simp only[evalOp,R.AF,Aj,AU,aA,hx,BV,Dh,R.Ca,R.AP,Ay,ho,R.Cy,R.AB,R.Bh,if_pos hq,aAC]
 ·have e1:aAD q s.length=false:=by
   cases hb:aAD q s.length with
   | false=>rfl
   | true=>exact absurd (by simpa[Nat.blt_eq]using hb) hq
  rw[e1]
  simp only[cond_false]
  refine Al hg (c:=True/\vi=vi/\0=0/\1=1) (we:=[(dst,.tup [.bool false])]) (wo:=[]) (rd:=rdK x++[Key.o gi]) ?_ ?_ ⟨trivial,rfl,rfl,rfl⟩ (h' hq)
  ·simp only[evalOp,R.run_bind,Aj,aA,hx,BV,Dh,R.AP,Ay,ho,R.AB,R.run_pure,if_neg hq,Ad]
  ·simp only[evalOp,R.AF,Aj,AU,aA,hx,BV,Dh,R.Ca,R.AP,Ay,ho,R.Cy,R.AB,R.Bh,if_neg hq,aAC]
theorem Aba {v gg off tt s tyy ss:Nat} {zz z':D} (ho:lkO o gg=some (v,⟨false,true,ss,ty,[zz]⟩)) (hc:(cells zz)[off]? =some .nils) (hs:aAD 0 s=true) (hz:QG zz off [.osl tt n 0 0]=z')
  (h:Has ⟨e,(gg,some (v,⟨false,true,ss,ty,[z']⟩))::(tt,some (n,⟨false,false,s,tyy,[]⟩))::o,n+1⟩ E O) (hr:Ab gg=false:=by rfl) (hne:Nat.beq gg tt=false:=by rfl):Has ⟨e,o,n⟩ E O:=by
 subst hz
 have hs':0<s:=by simpa[Nat.blt_eq]using hs
 have hne':gg≠tt:=λe=>by subst e;simp at hne
 have:=Rw.nilv (σ:=⟨e,o,n⟩) gg v 0 off tt s tyy ⟨false,true,ss,ty,[zz]⟩ (by rw[Ay];exact ho) hr rfl rfl (by simp) hc hs' hne'
 exact Cv this h
theorem AbY {v vw gw off gg s tyy ss tw k:Nat} {β:Type} {l:List β} {en:β->D} {zz z':D} (how:lkO o gw=some (vw,⟨false,true,ss,tw,[zz]⟩)) (hc:(cells zz)[off]? =some (.osl gg v 0 k)) (ho:lkO o gg=some (v,⟨false,false,s,tyy,l.map en⟩)) (hk:k<=l.length)
  (hz:QG zz off [.osl gg v 0 (l.take k).length]=z')
  (h:Has ⟨e,(gw,some (vw,⟨false,true,ss,tw,[z']⟩))::(gg,some (v,⟨false,false,s,tyy,(l.take k).map en⟩))::o,n⟩ E O) (hrw:Ab gw=false:=by rfl) (hr:Ab gg=false:=by rfl) (hne:Nat.beq gw gg=false:=by rfl):Has ⟨e,o,n⟩ E O:=by
 subst hz
 have hne':gw≠gg:=λe=>by subst e;simp at hne
 have:=Rw.shrink (σ:=⟨e,o,n⟩) gw vw 0 off gg v k ⟨false,true,ss,tw,[zz]⟩ ⟨false,false,s,tyy,l.map en⟩ (by rw[Ay];exact how) hrw rfl rfl (by simp) hc (by rw[Ay];exact ho) hr rfl rfl (by simpa using hk) hne'
 refine Cv this ?_
 have e1:((l.map en).take k).length=(l.take k).length:=by simp
 have e2:(l.map en).take k=(l.take k).map en:=aAT.symm
 simp only[List.getD_cons_zero,List.set_cons_zero]
 rw[e2,aAF]
 exact h
end
class TyE (ty:Nat) {α:outParam Type} (en:outParam (α->D)):Prop
def noE {B:Type} (_:B):List D:=[]
class QW {A:Type} (enc:A->List D) (dec:outParam (List D->A)):Prop where
 ok:∀ a,dec (enc a)=a
def EvL (l l':List D):Prop:=l=l'
theorem EvL.nil {l:List D} (h:l=[]):EvL l []:=h
theorem EvL.cons {l t t':List D} {a:D} (h:l=a::t) (ht:EvL t t'):EvL l (a::t'):=by
 cases ht;exact h
def EvP (l l':List (Nat×Nat×D)):Prop:=l=l'
theorem EvP.nil {l:List (Nat×Nat×D)} (h:l=[]):EvP l []:=h
theorem EvP.cons {e:List (Nat×D)} {a b:Nat} {x:Arg} {r:List (Nat×Nat×Arg)} {d:D} {r':List (Nat×Nat×D)} (h:Aa e x=some d) (ht:EvP (Cx e r) r'):EvP (Cx e ((a,b,x)::r)) ((a,b,d)::r'):=by
 cases ht;simp[EvP,Cx,h]
section
variable {Γ:Ar} {X:Type} {K:KR X} {t:Option X} {e:List (Nat×D)} {o:List (Nat×Ac)} {n nv:Nat} {d:Bool} {acc:List Co}
 {r:List As} {dst:Nat} {g:Option (Nat×Bool)} {af:List Nat} {α:Type}
 {x y:Arg} {v v' w:D} {k k':IntKind} {a b:Int} {s ty gi vi ii off m:Nat} {fz var:Bool} {es cs:List D} {z z':D} {l l':List α} {en:α->D}
theorem Ge {i:Nat} (hg:gOn e g=true) (hx:Aa e x=some (.optr gi vi i off)) (ho:lkO o gi=some (vi,⟨fz,var,s,ty,es⟩)) (hz:es[i]? =some z) (hv:(cells z)[off]? =some v)
  (h:TrO Γ r (nv+1) ⟨(dst,v)::e,o,n⟩ d (acc++[(gK g++(rdK x++[.o gi]),[.e dst],af)]) K t) (hpl:(plain v|| !Ab gi)=true:=by rfl) :
  TrO Γ (⟨some dst,.ld 1 false x,g,af⟩::r) nv ⟨e,o,n⟩ d acc K t :=
 Fa hg hx ho hz (aAG (aAB.1 hv).1) (by simp[QN,hv]) h hpl
theorem Gf {i:Nat} (hg:gOn e g=true) (hx:Aa e x=some (.optr gi vi i off)) (ho:lkO o gi=some (vi,⟨fz,var,s,ty,es⟩)) (hz:es[i]? =some z) (hb:aAR (off+m) (cells z).length=true) (hv:EvL (((cells z).drop off).take m) cs)
  (h:TrO Γ r (nv+1) ⟨(dst,.agg cs)::e,o,n⟩ d (acc++[(gK g++(rdK x++[.o gi]),[.e dst],af)]) K t) :
  TrO Γ (⟨some dst,.ld m true x,g,af⟩::r) nv ⟨e,o,n⟩ d acc K t :=
 Fa hg hx ho hz hb (by cases hv;rfl) h (by rfl)
theorem JV (hg:gOn e g=true) (hx:Aa e x=some (.fptr z off)) (hv:(cells z)[off]? =some v)
  (h:TrO Γ r (nv+1) ⟨(dst,v)::e,o,n⟩ d (acc++[(gK g++rdK x,[.e dst],af)]) K t) :
  TrO Γ (⟨some dst,.ld 1 false x,g,af⟩::r) nv ⟨e,o,n⟩ d acc K t :=
 Hg hg hx (aAG (aAB.1 hv).1) (by simp[QN,hv]) h
theorem JW (hg:gOn e g=true) (hx:Aa e x=some (.fptr z off)) (hb:aAR (off+m) (cells z).length=true) (hv:EvL (((cells z).drop off).take m) cs)
  (h:TrO Γ r (nv+1) ⟨(dst,.agg cs)::e,o,n⟩ d (acc++[(gK g++rdK x,[.e dst],af)]) K t) :
  TrO Γ (⟨some dst,.ld m true x,g,af⟩::r) nv ⟨e,o,n⟩ d acc K t :=
 Hg hg hx hb (by cases hv;rfl) h
theorem Ni (hg:gOn e g=true) (hx:Aa e x=some (.optr gi vi 0 0)) (hy:Aa e y=some v) (hw:strip v=(true,v)) (ho:lkO o gi=some (vi,⟨false,true,s,ty,[z]⟩)) (hk:known v=true) (hl:cells v=[v'])
  (hb:aAR 1 (cells z).length=true) (hz:(match z with| .agg _=>false|_=>true)=true)
  (h:TrO Γ r (nv+1) ⟨e,(gi,some (vi,⟨false,true,s,ty,[v']⟩))::o,n⟩ d (acc++[(gK g++(rdK x++(rdK y++[.o gi])),[.o gi],af)]) K t) (hrg:Ab gi=false:=by rfl) :
  TrO Γ (⟨none,.st 1 x y,g,af⟩::r) nv ⟨e,o,n⟩ d acc K t :=
 HP hg hx hy hw ho hk (by rw[hl];rfl) hb (by rw[hl];cases z<;>first|rfl|cases hz) h hrg
theorem Nj {zs:List D} (hg:gOn e g=true) (hx:Aa e x=some (.optr gi vi 0 off)) (hy:Aa e y=some v) (hw:strip v=(true,v)) (ho:lkO o gi=some (vi,⟨false,true,s,ty,[z]⟩)) (hk:known v=true) (hl:(cells v).length=m)
  (hzz:z= .agg zs) (hb:aAR (off+m) zs.length=true) (hz:EvL (setAt zs off (cells v)) cs)
  (h:TrO Γ r (nv+1) ⟨e,(gi,some (vi,⟨false,true,s,ty,[.agg cs]⟩))::o,n⟩ d (acc++[(gK g++(rdK x++(rdK y++[.o gi])),[.o gi],af)]) K t) (hrg:Ab gi=false:=by rfl) :
  TrO Γ (⟨none,.st m x y,g,af⟩::r) nv ⟨e,o,n⟩ d acc K t:=by
 subst hzz;cases hz
 exact HP hg hx hy hw ho hk hl hb rfl h hrg
theorem Ng {zs:List D} {parts:List (Nat×Nat×Arg)} {ps:List (Nat×Nat×D)} (hg:gOn e g=true) (hp:EvP (Cx e parts) ps) (hf:ED zs.length ps=true) (hz:EvL (Dq zs ps) cs)
  (h:TrO Γ r (nv+1) ⟨(dst,.agg cs)::e,o,n⟩ d (acc++[(gK g++Dj parts,[.e dst],af)]) K t) :
  TrO Γ (⟨some dst,.bld zs parts,g,af⟩::r) nv ⟨e,o,n⟩ d acc K t:=Ou hg hp hf hz h
theorem Ly (hg:gOn e g=true) (hx:Aa e x=some (.agg cs)) (hv:cs[off]? =some v)
  (h:TrO Γ r (nv+1) ⟨(dst,v)::e,o,n⟩ d (acc++[(gK g++rdK x,[.e dst],af)]) K t) :
  TrO Γ (⟨some dst,.fld off 1 false x,g,af⟩::r) nv ⟨e,o,n⟩ d acc K t :=
 KC hg hx (aAG (aAB.1 hv).1) (by simp[QN,hv]) h
theorem Lz {cs':List D} (hg:gOn e g=true) (hx:Aa e x=some (.agg cs)) (hb:aAR (off+m) cs.length=true) (hv:EvL ((cs.drop off).take m) cs')
  (h:TrO Γ r (nv+1) ⟨(dst,.agg cs')::e,o,n⟩ d (acc++[(gK g++rdK x,[.e dst],af)]) K t) :
  TrO Γ (⟨some dst,.fld off m true x,g,af⟩::r) nv ⟨e,o,n⟩ d acc K t :=
 KC hg hx hb (by cases hv;rfl) h
theorem Iq (_:TyE ty en) (hg:gOn e g=true) (hx:Aa e x=some .nils) (h:TrO Γ r (nv+1) ⟨(dst,.osl dst nv 0 ([]:List α).length)::e,(dst,some (nv,⟨false,false,s,ty,([]:List α).map en⟩))::o,n⟩ d (acc++[(gK g++rdK x,[.e dst,.o dst],af)]) K t) :
  TrO Γ (⟨some dst,.asg x (some (s,ty)),g,af⟩::r) nv ⟨e,o,n⟩ d acc K t:=JQ hg en hx h
theorem Nh {bytes:Nat} {q:α} (_:TyE ty en) (hz:z=en q) (hg:gOn e g=true) (hx:Aa e x=some (.int k a)) (hy:Aa e y=some (.int k' a)) (hl:0<=a/\a<=16777216) (hby:aAR bytes 65536=true)
  (h:TrO Γ r (nv+1) ⟨(dst,.osl dst nv 0 (aAS a.toNat q).length)::e,(dst,some (nv,⟨false,false,s,ty,(aAS a.toNat q).map en⟩))::o,n⟩ d (acc++[(gK g++(rdK x++rdK y),[.e dst,.o dst],af)]) K t) :
  TrO Γ (⟨some dst,.mkS s ty bytes z x y,g,af⟩::r) nv ⟨e,o,n⟩ d acc K t:=Ov en hg hx hy hz hl hby h
theorem JS {c:Prop} {parts:List (Nat×Arg)} {i:Nat} {p:D} {rk:List Key} {q:α} (_:TyE ty en) (hg:gOn e g=true) (hr:(AX parts).run ⟨e,o,n⟩=(c,[(i,p)],[])) (hk:(AX parts).rd ⟨e,o,n⟩=rk) (hc:c) (hq:p=en q)
  (hp:Jh s 1 [(i,p)]=true) (hes:CC [z] [(i,en q)]=[en q])
  (h:TrO Γ r (nv+1) ⟨(dst,.osl dst nv 0 [q].length)::e,(dst,some (nv,⟨false,false,s,ty,[q].map en⟩))::o,n⟩ d (acc++[(gK g++rk,[.e dst,.o dst],af)]) K t) :
  TrO Γ (⟨some dst,.bldS s ty z 1 parts,g,af⟩::r) nv ⟨e,o,n⟩ d acc K t:=by
 subst hq
 exact Xg [q] en hg hr hk hc hp hes rfl (by simpa using h)
theorem JU {p q:Bool} (hg:gOn e g=true) (hx:Aa e x=some (.bool p)) (hy:Aa e y=some (.bool q))
  (h:TrO Γ r (nv+1) ⟨(dst,.bool (!(p==q)))::e,o,n⟩ d (acc++[(gK g++(rdK x++rdK y),[.e dst],af)]) K t) :
  TrO Γ (⟨some dst,.eqB true x y,g,af⟩::r) nv ⟨e,o,n⟩ d acc K t:=KA hg hx hy h
theorem JT {p q:Bool} (hg:gOn e g=true) (hx:Aa e x=some (.bool p)) (hy:Aa e y=some (.bool q))
  (h:TrO Γ r (nv+1) ⟨(dst,.bool (p==q))::e,o,n⟩ d (acc++[(gK g++(rdK x++rdK y),[.e dst],af)]) K t) :
  TrO Γ (⟨some dst,.eqB false x y,g,af⟩::r) nv ⟨e,o,n⟩ d acc K t:=KA hg hx hy h
theorem WI {ops:List As} {x:Nat} {wt:Bool} {b:Bool} {dt:Option Nat} {op:DOp} {t1 t2:Option X} (hx:BU e x=some (.bool b))
  (h1:TrO Γ (⟨dt,op,some (x,wt),af⟩::ops) nv ⟨Ea e x (.bool true),o,n⟩ d acc K t1) (h2:TrO Γ (⟨dt,op,some (x,wt),af⟩::ops) nv ⟨Ea e x (.bool false),o,n⟩ d acc K t2) :
  TrO Γ (⟨dt,op,some (x,wt),af⟩::ops) nv ⟨e,o,n⟩ d acc K (bif b then t1 else t2):=Mr x hx h1 h2
end
section
variable {Γ:Ar} {X A B:Type} {K:KR X} {e:List (Nat×D)} {o:List (Nat×Ac)} {n nv:Nat} {d:Bool} {acc:List Co}
 {r:List As} {dst:Nat} {g:Option (Nat×Bool)} {af:List Nat} {α:Type}
 {ptr:List (Nat×(Nat×Nat))} {kind:Kind} {enc:A->List D} {dec:List D->A} {f:A->Option B} {encR:B->D} {encE:B->List D} {m:Option B} {kt:B->Option X}
 {fa:Arg} {args:List Arg} {caps:List D} {k:Nat} {c:Prop} {ds:List D} {w:List (Nat×Ac)} {ps:List (Nat×Nat×Own)} {rk:List Key} {s ty:Nat}
theorem Hk (hg:gOn e g=true) (hf:Aa e fa=some (.clo k caps)) (hΓ:Γ (k+4096*AN (Am e args))=some (Ql ptr .val enc dec f encR encE)) [hde:QW enc dec] (hr:(Ae ptr 0 (Am e args++caps)).run ⟨e,o,n⟩=(c,ds,w,ps))
  (hk:(Ae ptr 0 (Am e args++caps)).rd ⟨e,o,n⟩=rk) (hc:c) (ha:∃ a,f a=m/\ds=enc a)
  (h:∀ b,m=some b->TrO Γ r (nv+1) ⟨(dst,encR b)::e,(Ai ps (encE b)++w)++o,n⟩ d (acc++[(gK g++(rdK fa++(Bn args++rk)),.e dst::(Ai ps (encE b)++w).map (λx=>.o x.1),af)]) K (kt b)) (hkb:aAD k 4096=true:=by rfl) :
  TrO Γ (⟨some dst,.call fa args,g,af⟩::r) nv ⟨e,o,n⟩ d acc K (m.bind kt) :=
 Rt λb hb=>ha.elim λa ha=>FU a hg hf hΓ hde.ok hr hk hc ha.2 (ha.1.trans hb) (h b hb) hkb
theorem Gj (hg:gOn e g=true) (hf:Aa e fa=some (.clo k caps)) (hΓ:Γ (k+4096*AN (Am e args))=some (Ql ptr .val enc dec f encR encE)) [hde:QW enc dec] (hr:(Ae ptr 0 (Am e args++caps)).run ⟨e,o,n⟩=(c,ds,w,ps))
  (hk:(Ae ptr 0 (Am e args++caps)).rd ⟨e,o,n⟩=rk) (hc:c) (ha:∃ a,f a=m/\ds=enc a)
  (h:∀ b,m=some b->TrO Γ r (nv+1) ⟨e,(Ai ps (encE b)++w)++o,n⟩ d (acc++[(gK g++(rdK fa++(Bn args++rk)),(Ai ps (encE b)++w).map (λx=>.o x.1),af)]) K (kt b)) (hkb:aAD k 4096=true:=by rfl) :
  TrO Γ (⟨none,.call fa args,g,af⟩::r) nv ⟨e,o,n⟩ d acc K (m.bind kt) :=
 Rt λb hb=>ha.elim λa ha=>Fm a hg hf hΓ hde.ok hr hk hc ha.2 (ha.1.trans hb) (h b hb) hkb
theorem Fg (hg:gOn e g=true) (hf:Aa e fa=some (.clo k caps)) (hΓ:Γ (k+4096*AN (Am e args))=some (Ql [] .ground enc dec f encR encE)) [hde:QW enc dec] (hr:(Ae [] 0 (Am e args++caps)).run ⟨e,o,n⟩=(c,ds,w,ps))
  (hk:(Ae [] 0 (Am e args++caps)).rd ⟨e,o,n⟩=rk) (hc:c) (ha:∃ a,f a=m/\ds=enc a) (hgr:∀ b,isGround (encR b)=true)
  (h:∀ b,m=some b->TrO Γ r (nv+1) ⟨(dst,encR b)::e,o,n⟩ d (acc++[(gK g++(rdK fa++(Bn args++rk)),[.e dst],af)]) K (kt b)) (hkb:aAD k 4096=true:=by rfl) :
  TrO Γ (⟨some dst,.call fa args,g,af⟩::r) nv ⟨e,o,n⟩ d acc K (m.bind kt) :=
 Rt λb hb=>ha.elim λa ha=>El a hg hf hΓ hde.ok hr hk hc ha.2 (ha.1.trans hb) (hgr b) (h b hb) hkb
theorem Hj {lf:B->List α} {en:α->D} (hg:gOn e g=true) (hf:Aa e fa=some (.clo k caps)) (hΓ:Γ (k+4096*AN (Am e args))=some (Ql ptr (.row s ty) enc dec f encR encE)) [hde:QW enc dec] (hr:(Ae ptr 0 (Am e args++caps)).run ⟨e,o,n⟩=(c,ds,w,ps))
  (hk:(Ae ptr 0 (Am e args++caps)).rd ⟨e,o,n⟩=rk) (hc:c) (ha:∃ a,f a=m/\ds=enc a) (hl:∀ b,encR b= .sl ((lf b).map en))
  (h:∀ b,m=some b->TrO Γ r (nv+1) ⟨(dst,.osl dst nv 0 (lf b).length)::e,((dst,some (nv,⟨false,false,s,ty,(lf b).map en⟩))::(Ai ps (encE b)++w))++o,n⟩ d (acc++[(gK g++(rdK fa++(Bn args++rk)),.e dst:: .o dst::(Ai ps (encE b)++w).map (λx=>.o x.1),af)]) K (kt b)) (hkb:aAD k 4096=true:=by rfl) :
  TrO Γ (⟨some dst,.call fa args,g,af⟩::r) nv ⟨e,o,n⟩ d acc K (m.bind kt) :=
 Rt λb hb=>ha.elim λa ha=>FT a hg hf hΓ hde.ok hr hk hc ha.2 (ha.1.trans hb) (hl b) (h b hb) hkb
theorem Hi (hg:gOn e g=true) (hf:Aa e fa=some (.clo k caps)) (hΓ:Γ (k+4096*AN (Am e args))=some (Ql ptr (.ptr s ty) enc dec f encR encE)) [hde:QW enc dec] (hr:(Ae ptr 0 (Am e args++caps)).run ⟨e,o,n⟩=(c,ds,w,ps))
  (hk:(Ae ptr 0 (Am e args++caps)).rd ⟨e,o,n⟩=rk) (hc:c) (ha:∃ a,f a=m/\ds=enc a)
  (h:∀ b,m=some b->TrO Γ r (nv+1) ⟨(dst,.optr dst nv 0 0)::e,((dst,some (nv,⟨false,true,s,ty,[encR b]⟩))::(Ai ps (encE b)++w))++o,n⟩ d (acc++[(gK g++(rdK fa++(Bn args++rk)),.e dst:: .o dst::(Ai ps (encE b)++w).map (λx=>.o x.1),af)]) K (kt b)) (hkb:aAD k 4096=true:=by rfl) :
  TrO Γ (⟨some dst,.call fa args,g,af⟩::r) nv ⟨e,o,n⟩ d acc K (m.bind kt) :=
 Rt λb hb=>ha.elim λa ha=>FR a hg hf hΓ hde.ok hr hk hc ha.2 (ha.1.trans hb) (h b hb) hkb
variable {b:B} {t:Option X}
theorem Hn (hg:gOn e g=true) (hf:Aa e fa=some (.clo k caps)) (hΓ:Γ (k+4096*AN (Am e args))=some (Ql ptr .val enc dec f encR encE)) [hde:QW enc dec] (hr:(Ae ptr 0 (Am e args++caps)).run ⟨e,o,n⟩=(c,ds,w,ps))
  (hk:(Ae ptr 0 (Am e args++caps)).rd ⟨e,o,n⟩=rk) (hm:m=some b) (hc:c) (ha:∃ a,f a=m/\ds=enc a)
  (h:TrO Γ r (nv+1) ⟨(dst,encR b)::e,(Ai ps (encE b)++w)++o,n⟩ d (acc++[(gK g++(rdK fa++(Bn args++rk)),.e dst::(Ai ps (encE b)++w).map (λx=>.o x.1),af)]) K t) (hkb:aAD k 4096=true:=by rfl) :
  TrO Γ (⟨some dst,.call fa args,g,af⟩::r) nv ⟨e,o,n⟩ d acc K t :=
 ha.elim λa ha=>FU a hg hf hΓ hde.ok hr hk hc ha.2 (ha.1.trans hm) h hkb
theorem Gk (hg:gOn e g=true) (hf:Aa e fa=some (.clo k caps)) (hΓ:Γ (k+4096*AN (Am e args))=some (Ql ptr .val enc dec f encR encE)) [hde:QW enc dec] (hr:(Ae ptr 0 (Am e args++caps)).run ⟨e,o,n⟩=(c,ds,w,ps))
  (hk:(Ae ptr 0 (Am e args++caps)).rd ⟨e,o,n⟩=rk) (hm:m=some b) (hc:c) (ha:∃ a,f a=m/\ds=enc a)
  (h:TrO Γ r (nv+1) ⟨e,(Ai ps (encE b)++w)++o,n⟩ d (acc++[(gK g++(rdK fa++(Bn args++rk)),(Ai ps (encE b)++w).map (λx=>.o x.1),af)]) K t) (hkb:aAD k 4096=true:=by rfl) :
  TrO Γ (⟨none,.call fa args,g,af⟩::r) nv ⟨e,o,n⟩ d acc K t :=
 ha.elim λa ha=>Fm a hg hf hΓ hde.ok hr hk hc ha.2 (ha.1.trans hm) h hkb
theorem Fh (hg:gOn e g=true) (hf:Aa e fa=some (.clo k caps)) (hΓ:Γ (k+4096*AN (Am e args))=some (Ql [] .ground enc dec f encR encE)) [hde:QW enc dec] (hr:(Ae [] 0 (Am e args++caps)).run ⟨e,o,n⟩=(c,ds,w,ps))
  (hk:(Ae [] 0 (Am e args++caps)).rd ⟨e,o,n⟩=rk) (hm:m=some b) (hc:c) (ha:∃ a,f a=m/\ds=enc a) (hgr:isGround (encR b)=true)
  (h:TrO Γ r (nv+1) ⟨(dst,encR b)::e,o,n⟩ d (acc++[(gK g++(rdK fa++(Bn args++rk)),[.e dst],af)]) K t) (hkb:aAD k 4096=true:=by rfl) :
  TrO Γ (⟨some dst,.call fa args,g,af⟩::r) nv ⟨e,o,n⟩ d acc K t :=
 ha.elim λa ha=>El a hg hf hΓ hde.ok hr hk hc ha.2 (ha.1.trans hm) hgr h hkb
theorem Hm {l:List α} {en:α->D} (hg:gOn e g=true) (hf:Aa e fa=some (.clo k caps)) (hΓ:Γ (k+4096*AN (Am e args))=some (Ql ptr (.row s ty) enc dec f encR encE)) [hde:QW enc dec] (hr:(Ae ptr 0 (Am e args++caps)).run ⟨e,o,n⟩=(c,ds,w,ps))
  (hk:(Ae ptr 0 (Am e args++caps)).rd ⟨e,o,n⟩=rk) (hm:m=some b) (hc:c) (ha:∃ a,f a=m/\ds=enc a) (hl:encR b= .sl (l.map en))
  (h:TrO Γ r (nv+1) ⟨(dst,.osl dst nv 0 l.length)::e,((dst,some (nv,⟨false,false,s,ty,l.map en⟩))::(Ai ps (encE b)++w))++o,n⟩ d (acc++[(gK g++(rdK fa++(Bn args++rk)),.e dst:: .o dst::(Ai ps (encE b)++w).map (λx=>.o x.1),af)]) K t) (hkb:aAD k 4096=true:=by rfl) :
  TrO Γ (⟨some dst,.call fa args,g,af⟩::r) nv ⟨e,o,n⟩ d acc K t :=
 ha.elim λa ha=>FT a hg hf hΓ hde.ok hr hk hc ha.2 (ha.1.trans hm) hl h hkb
theorem Hl (hg:gOn e g=true) (hf:Aa e fa=some (.clo k caps)) (hΓ:Γ (k+4096*AN (Am e args))=some (Ql ptr (.ptr s ty) enc dec f encR encE)) [hde:QW enc dec] (hr:(Ae ptr 0 (Am e args++caps)).run ⟨e,o,n⟩=(c,ds,w,ps))
  (hk:(Ae ptr 0 (Am e args++caps)).rd ⟨e,o,n⟩=rk) (hm:m=some b) (hc:c) (ha:∃ a,f a=m/\ds=enc a)
  (h:TrO Γ r (nv+1) ⟨(dst,.optr dst nv 0 0)::e,((dst,some (nv,⟨false,true,s,ty,[encR b]⟩))::(Ai ps (encE b)++w))++o,n⟩ d (acc++[(gK g++(rdK fa++(Bn args++rk)),.e dst:: .o dst::(Ai ps (encE b)++w).map (λx=>.o x.1),af)]) K t) (hkb:aAD k 4096=true:=by rfl) :
  TrO Γ (⟨some dst,.call fa args,g,af⟩::r) nv ⟨e,o,n⟩ d acc K t :=
 ha.elim λa ha=>FR a hg hf hΓ hde.ok hr hk hc ha.2 (ha.1.trans hm) h hkb
end
def Ic (o:List (Nat×Ac)):List Nat->List (Nat×Ac)
 | []=>[]
 | g::r=>(g,(lkO o g).map λx=>(x.1,{ x.2 with fz:=true }))::Ic o r
theorem LH {o:List (Nat×Ac)}:∀ {gs:List Nat},(gs.all λg=>match lkO o g with|some (_,p)=>!p.var|none=>false)=true->FzB o (Ic o gs)
 | [],_=>trivial
 | g::r,h=>by
  simp only[List.all_cons,Bool.and_eq_true]at h
  refine⟨?_,LH h.2⟩
  cases hg:lkO o g with
  | none=>rw[hg]at h;cases h.1
  | some x =>
   rw[hg]at h
   exact⟨x.1,x.2,rfl,by simpa using h.1,rfl⟩
theorem Oy {e E:List (Nat×D)} {o O:List (Nat×Ac)} {n:Nat} (gs:List Nat) (hw:(gs.all λg=>match lkO o g with|some (_,p)=>!p.var|none=>false)=true) (hE:IP e o n (Ic o gs) E) (hO:IQ e o n (Ic o gs) O):Has ⟨e,o,n⟩ E O:=Zr _ (LH hw) hE hO
section
variable {Γ:Ar} {R ι γ:Type} {K:R->Ax->S->Prop} {τ:S} {t:Option R} {E:ι->γ->List (Nat×D)} {O:ι->γ->List (Nat×Ac)} {j:ι->Option R}
theorem Pu (h:∃ s g,j s=t/\Has τ (E s g) (O s g)):TrX .normal (Jp E O j K) τ t:=by
 obtain⟨s,g,rfl,h⟩:=h;exact AbP g h
theorem IH {id:Nat} (h:∃ s g,j s=t/\Has τ (E s g) (O s g)):TrX .normal (Du id E O j K) τ t:=by
 obtain⟨s,g,rfl,h⟩:=h;exact HQ g h
theorem JJ {id:Nat} (h:∃ s g,j s=t/\Has τ (E s g) (O s g)):TrX (.exit id) (Du id E O j K) τ t:=by
 obtain⟨s,g,rfl,h⟩:=h;exact IL g h
theorem Oz {s:ι} (h:∃ g,Has τ (E s g) (O s g)):TrX .normal (Hx E O K) τ (cnt s):=by
 obtain⟨g,h⟩:=h;exact Abq g h
theorem exU {p:Unit->Prop} (h:p ()):∃ s,p s:=⟨_,h⟩
theorem exP {α β:Type} {p:α×β->Prop} (h:∃ a b,p (a,b)):∃ s,p s:=h.elim λa h=>h.elim λb h=>⟨(a,b),h⟩
end
section
variable {A B:Type} {ptr:List (Nat×(Nat×Nat))} {kind:Kind} {enc:A->List D} {dec:List D->A} {f:A->Option B} {encR:B->D} {encE:B->List D}
theorem fn2 {P:Program} {Γ:Ar} {k:Nat} {fn:Func} {dc:Ru} {rs:List Be} [hde:QW enc dec] (np:Nat) (hΓ:∀ k sp,Γ k=some sp->Qi P (k % 4096) sp) (hf:P.funcs[k]? =some fn)
  (hT:∀ a,Tr Γ dc (BA ptr kind rs encR encE) ⟨Ds ptr 0 (enc a),CE ptr 0 (enc a),262144⟩ (f a))
  (hc:(fn.body.bind (SE P fn.ntmps))=some dc:=by conv=>lhs;cbv) (hr:fn.results.toList.mapM (Wp P)=some rs:=by conv=>lhs;cbv)
  (hname:(fn.name == "runtime.NumGoroutine")=false:=by decide) (hnp:np<=fn.ntmps:=by decide) (hlen:∀ a,(enc a).length=np:=by exact λ_=>rfl) (hkeys:∀ a,BJ ptr 0 (enc a)=ptr.map Prod.fst:=by exact λ_=>rfl) (hptr:EW ptr=true:=by decide)
  (hni:Cc kind=none:=by rfl) (hno:Ej kind=none:=by rfl):Qi P k (Ql ptr kind enc dec f encR encE) :=
 Pv hΓ hf hname hc hr hnp hde.ok hlen hkeys hptr (λa=>Ph (hT a)) hni hno
end
structure Ct (n:Nat):Prop
theorem Ct.dec {n:Nat} (_:Ct (n+1)):Ct n:=⟨⟩
structure Fz' (gs:List Nat):Prop
theorem wf (gs:List Nat) {p:Prop} (h:Fz' gs->p):p:=h ⟨⟩
theorem NK {e E:List (Nat×D)} {o O:List (Nat×Ac)} {n:Nat} {gs:List Nat} (_:Fz' gs) (hw:(gs.all λg=>match lkO o g with|some (_,p)=>!p.var|none=>false)=true) (hE:IP e o n (Ic o gs) E) (hO:IQ e o n (Ic o gs) O):Has ⟨e,o,n⟩ E O:=Oy gs hw hE hO
section
variable {Γ:Ar} {X Y:Type} {K:KR X} {KK:X->Ax->S->Prop} {t t1 t2:Option X} {m0:Option Y} {kt:Y->Option X} {pp:Prop} [Decidable pp] {bb wt:Bool} {σ:S} {nv tt m m2 m3:Nat} {d:Bool} {acc:List Co}
 {r:List As} {dst:Option Nat} {g:Option (Nat×Bool)} {af:List Nat} {op:DOp} {x y z:Arg} {xs:List Arg} {bo:BinOp} {uo:UnOp} {k:IntKind} {sl:Option (Nat×Nat)} {dd:D} {ds:List D} {ps:List (Nat×Arg)} {ps2:List (Nat×Nat×Arg)} {lo hi:Option Arg} {c1 c2:Ru} {ex:Ax} {ptr:List (Nat×(Nat×Nat))} {encR:Y->D} {encE:Y->List D} {r0:Be} {rs:List Be} {tB:Option Y} {ι γ:Type} {E:ι->γ->List (Nat×D)} {O:ι->γ->List (Nat×Ac)} {j:ι->Option X}
theorem Nv (h:TrO Γ (⟨dst,op,some (tt,wt),af⟩::r) nv σ d acc K t):TrO Γ (⟨dst,op,some (tt,wt),af⟩::r) nv σ d acc K t:=h
theorem Dr (h:TrO Γ r nv σ d acc K (Option.bind m0 kt)):TrO Γ r nv σ d acc K (Option.bind m0 kt):=h
theorem Cn (h:TrO Γ r nv σ d acc K (chk pp t)):TrO Γ r nv σ d acc K (chk pp t):=h
theorem Px (h:TrO Γ r nv σ d acc K (bif bb then t1 else t2)):TrO Γ r nv σ d acc K (bif bb then t1 else t2):=h
theorem OG (h:Tr Γ (.cond x c1 c2) KK σ t):Tr Γ (.cond x c1 c2) KK σ t:=h
theorem OL (h:TrX ex (BA ptr .val [r0] encR encE) σ tB):TrX ex (BA ptr .val [r0] encR encE) σ tB:=h
theorem LP (h:TrX ex (BA ptr .ground [r0] encR encE) σ tB):TrX ex (BA ptr .ground [r0] encR encE) σ tB:=h
theorem NY (h:TrX ex (BA ptr .val rs encR encE) σ tB):TrX ex (BA ptr .val rs encR encE) σ tB:=h
theorem La (h:TrX ex (BA ptr .ground rs encR encE) σ tB):TrX ex (BA ptr .ground rs encR encE) σ tB:=h
theorem OJ (h:TrX ex (BA ptr (.row m m2) rs encR encE) σ tB):TrX ex (BA ptr (.row m m2) rs encR encE) σ tB:=h
theorem OI (h:TrX ex (BA ptr (.ptr m m2) rs encR encE) σ tB):TrX ex (BA ptr (.ptr m m2) rs encR encE) σ tB:=h
theorem OK (h:TrX ex (BA ptr (.tupPtr m m2 m3) rs encR encE) σ tB):TrX ex (BA ptr (.tupPtr m m2 m3) rs encR encE) σ tB:=h
theorem OO (h:TrX (.exit m) (GU m2 KK) σ t):TrX (.exit m) (GU m2 KK) σ t:=h
theorem OP (h:TrX (.exit m) (Du m2 E O j KK) σ t):TrX (.exit m) (Du m2 E O j KK) σ t:=h
theorem LN (h:TrO Γ [] nv σ true acc K t):TrO Γ [] nv σ true acc K t:=h
theorem OH (h:TrO Γ (⟨dst,.mv x,g,af⟩::r) nv σ d acc K t):TrO Γ (⟨dst,.mv x,g,af⟩::r) nv σ d acc K t:=h
theorem LL (h:TrO Γ (⟨dst,.fldA m x,g,af⟩::r) nv σ d acc K t):TrO Γ (⟨dst,.fldA m x,g,af⟩::r) nv σ d acc K t:=h
theorem Nx (h:TrO Γ (⟨dst,.ld m false x,g,af⟩::r) nv σ d acc K t):TrO Γ (⟨dst,.ld m false x,g,af⟩::r) nv σ d acc K t:=h
theorem Ny (h:TrO Γ (⟨dst,.ld m true x,g,af⟩::r) nv σ d acc K t):TrO Γ (⟨dst,.ld m true x,g,af⟩::r) nv σ d acc K t:=h
theorem Nn (h:TrO Γ (⟨dst,.bin bo x y,g,af⟩::r) nv σ d acc K t):TrO Γ (⟨dst,.bin bo x y,g,af⟩::r) nv σ d acc K t:=h
theorem Nm (h:TrO Γ (⟨dst,.asg x sl,g,af⟩::r) nv σ d acc K t):TrO Γ (⟨dst,.asg x sl,g,af⟩::r) nv σ d acc K t:=h
theorem LO (h:TrO Γ (⟨dst,.pick x y z,g,af⟩::r) nv σ d acc K t):TrO Γ (⟨dst,.pick x y z,g,af⟩::r) nv σ d acc K t:=h
theorem LJ (h:TrO Γ (⟨dst,.call x xs,g,af⟩::r) nv σ d acc K t):TrO Γ (⟨dst,.call x xs,g,af⟩::r) nv σ d acc K t:=h
theorem Nu (h:TrO Γ (⟨dst,.ext x m,g,af⟩::r) nv σ d acc K t):TrO Γ (⟨dst,.ext x m,g,af⟩::r) nv σ d acc K t:=h
theorem Nz (h:TrO Γ (⟨dst,.len bb x,g,af⟩::r) nv σ d acc K t):TrO Γ (⟨dst,.len bb x,g,af⟩::r) nv σ d acc K t:=h
theorem Nw (h:TrO Γ (⟨dst,.ixA m x y,g,af⟩::r) nv σ d acc K t):TrO Γ (⟨dst,.ixA m x y,g,af⟩::r) nv σ d acc K t:=h
theorem ON (h:TrO Γ (⟨dst,.un uo x,g,af⟩::r) nv σ d acc K t):TrO Γ (⟨dst,.un uo x,g,af⟩::r) nv σ d acc K t:=h
theorem Nq (h:TrO Γ (⟨dst,.box x m m2,g,af⟩::r) nv σ d acc K t):TrO Γ (⟨dst,.box x m m2,g,af⟩::r) nv σ d acc K t:=h
theorem ND (h:TrO Γ (⟨dst,.new dd m m2,g,af⟩::r) nv σ d acc K t):TrO Γ (⟨dst,.new dd m m2,g,af⟩::r) nv σ d acc K t:=h
theorem OM (h:TrO Γ (⟨dst,.st m x y,g,af⟩::r) nv σ d acc K t):TrO Γ (⟨dst,.st m x y,g,af⟩::r) nv σ d acc K t:=h
theorem LI (h:TrO Γ (⟨dst,.bldS m m2 dd m3 ps,g,af⟩::r) nv σ d acc K t):TrO Γ (⟨dst,.bldS m m2 dd m3 ps,g,af⟩::r) nv σ d acc K t:=h
theorem Nl (h:TrO Γ (⟨dst,.app m m2 m3 x y,g,af⟩::r) nv σ d acc K t):TrO Γ (⟨dst,.app m m2 m3 x y,g,af⟩::r) nv σ d acc K t:=h
theorem Np (h:TrO Γ (⟨dst,.bld ds ps2,g,af⟩::r) nv σ d acc K t):TrO Γ (⟨dst,.bld ds ps2,g,af⟩::r) nv σ d acc K t:=h
theorem Nr (h:TrO Γ (⟨dst,.cvt k x,g,af⟩::r) nv σ d acc K t):TrO Γ (⟨dst,.cvt k x,g,af⟩::r) nv σ d acc K t:=h
theorem NC (h:TrO Γ (⟨dst,.mkS m m2 m3 dd x y,g,af⟩::r) nv σ d acc K t):TrO Γ (⟨dst,.mkS m m2 m3 dd x y,g,af⟩::r) nv σ d acc K t:=h
theorem Ke (h:TrO Γ (⟨dst,.nilck x,g,af⟩::r) nv σ d acc K t):TrO Γ (⟨dst,.nilck x,g,af⟩::r) nv σ d acc K t:=h
theorem LK (h:TrO Γ (⟨dst,.fld m m2 false x,g,af⟩::r) nv σ d acc K t):TrO Γ (⟨dst,.fld m m2 false x,g,af⟩::r) nv σ d acc K t:=h
theorem LM (h:TrO Γ (⟨dst,.fld m m2 true x,g,af⟩::r) nv σ d acc K t):TrO Γ (⟨dst,.fld m m2 true x,g,af⟩::r) nv σ d acc K t:=h
theorem Nt (h:TrO Γ (⟨dst,.eqB bb x y,g,af⟩::r) nv σ d acc K t):TrO Γ (⟨dst,.eqB bb x y,g,af⟩::r) nv σ d acc K t:=h
theorem Ns (h:TrO Γ (⟨dst,.eqA m bb x y,g,af⟩::r) nv σ d acc K t):TrO Γ (⟨dst,.eqA m bb x y,g,af⟩::r) nv σ d acc K t:=h
theorem NA (h:TrO Γ (⟨dst,.max xs,g,af⟩::r) nv σ d acc K t):TrO Γ (⟨dst,.max xs,g,af⟩::r) nv σ d acc K t:=h
theorem NB (h:TrO Γ (⟨dst,.min xs,g,af⟩::r) nv σ d acc K t):TrO Γ (⟨dst,.min xs,g,af⟩::r) nv σ d acc K t:=h
theorem NF (h:TrO Γ (⟨dst,.slc m x lo hi,g,af⟩::r) nv σ d acc K t):TrO Γ (⟨dst,.slc m x lo hi,g,af⟩::r) nv σ d acc K t:=h
end
structure Hid (p:Prop):Prop where
 h:p
theorem A (n:Nat) {p q:Prop} (hq:q) (f:Ct n->Hid q->p:=by
 intro c h
 repeat (
  replace c:=Ct.dec c
  first
  | ((with_reducible refine Nv ?_);refine KI rfl ?_)
  | ((with_reducible refine OH ?_);refine Mq rfl rfl ?_)
  | with_reducible refine KH ?_
  | ((with_reducible refine LL ?_);first|refine JE rfl rfl ?_|refine HJ rfl rfl ?_)
  | ((with_reducible refine Nx ?_);first|((with_reducible refine Dr ?_);refine Rt λq hq=>Ge rfl rfl rfl (CT hq) rfl ?_)|refine Ge rfl rfl rfl rfl rfl ?_|refine JV rfl rfl rfl ?_|refine Ge rfl rfl rfl (CT (by assumption)) rfl ?_)
  | ((with_reducible refine Nn ?_);first|((with_reducible refine Cn ?_);first|refine QD λhq=>Gi rfl rfl rfl rfl (by first|exact hq|exact⟨rfl,hq⟩) ?_|refine QD λhq=>Dy rfl rfl rfl rfl hq ?_)|refine Gi rfl rfl rfl rfl (by first|exact rfl|exact trivial|assumption|decide|exact⟨rfl,by assumption⟩|exact⟨rfl,by decide⟩) ?_|refine Dy rfl rfl rfl rfl trivial ?_)
  | with_reducible refine Mw ?_
  | with_reducible refine Mu ?_
  | with_reducible refine KJ ?_
  | ((with_reducible refine Nm ?_);first|refine Kw rfl rfl ?_|((with_reducible refine Cn ?_);refine QD λhq=>GA rfl rfl rfl hq ?_)|refine Iq inferInstance rfl rfl ?_|refine HI rfl rfl ?_|refine GB (by first|rfl|simp) rfl rfl rfl ?_|refine HH (by first|rfl|simp) rfl rfl rfl ?_|refine FQ rfl rfl rfl ?_)
  | with_reducible refine EL ?_
  | with_reducible refine GI ?_
  | with_reducible refine Gc ?_
  | with_reducible refine JG ?_
  | with_reducible refine KM ?_
  | with_reducible refine Mv ?_
  | with_reducible refine KL ?_
  | with_reducible refine GG ?_
  | with_reducible refine GH ?_
  | with_reducible refine Ga ?_
  | with_reducible refine FX ?_
  | with_reducible refine Gb ?_
  | with_reducible refine Ft ?_
  | with_reducible refine FZ ?_
  | ((with_reducible refine OO ?_);refine FY rfl ?_)
  | ((with_reducible refine OP ?_);refine Fs rfl ?_)
  | ((with_reducible refine OG ?_);first|refine Gd rfl ?_|refine Fu rfl ?_)
  | ((with_reducible refine LO ?_);first|refine Fo rfl rfl rfl rfl ?_|refine EJ rfl rfl rfl rfl ?_)
  | ((with_reducible refine LJ ?_);first|((with_reducible refine Dr ?_);first|(refine Fg rfl rfl rfl rfl rfl ?_ ?_ (λ_=>rfl) λ_ _=>?_;(· simp);(· (repeat' first|exact⟨rfl,(by first|rfl|(simp only[Av];rfl)|(simp only[Le];rfl)|(simp only[Av,Le];rfl))⟩|refine exP ?_|refine exU ?_|apply Exists.intro|(dsimp only;exact⟨rfl,(by first|rfl|(simp only[Av];rfl)|(simp only[Le];rfl)|(simp only[Av,Le];rfl))⟩))))|(refine Hk rfl rfl rfl rfl rfl ?_ ?_ λ_ _=>?_;(· simp);(· (repeat' first|exact⟨rfl,(by first|rfl|(simp only[Av];rfl)|(simp only[Le];rfl)|(simp only[Av,Le];rfl))⟩|refine exP ?_|refine exU ?_|apply Exists.intro|(dsimp only;exact⟨rfl,(by first|rfl|(simp only[Av];rfl)|(simp only[Le];rfl)|(simp only[Av,Le];rfl))⟩))))|(refine Hj rfl rfl rfl rfl rfl ?_ ?_ (λ_=>rfl) λ_ _=>?_;(· simp);(· (repeat' first|exact⟨rfl,(by first|rfl|(simp only[Av];rfl)|(simp only[Le];rfl)|(simp only[Av,Le];rfl))⟩|refine exP ?_|refine exU ?_|apply Exists.intro|(dsimp only;exact⟨rfl,(by first|rfl|(simp only[Av];rfl)|(simp only[Le];rfl)|(simp only[Av,Le];rfl))⟩))))|(refine Gj rfl rfl rfl rfl rfl ?_ ?_ λ_ _=>?_;(· simp);(· (repeat' first|exact⟨rfl,(by first|rfl|(simp only[Av];rfl)|(simp only[Le];rfl)|(simp only[Av,Le];rfl))⟩|refine exP ?_|refine exU ?_|apply Exists.intro|(dsimp only;exact⟨rfl,(by first|rfl|(simp only[Av];rfl)|(simp only[Le];rfl)|(simp only[Av,Le];rfl))⟩))))|(refine Hi rfl rfl rfl rfl rfl ?_ ?_ λ_ _=>?_;(· simp);(· (repeat' first|exact⟨rfl,(by first|rfl|(simp only[Av];rfl)|(simp only[Le];rfl)|(simp only[Av,Le];rfl))⟩|refine exP ?_|refine exU ?_|apply Exists.intro|(dsimp only;exact⟨rfl,(by first|rfl|(simp only[Av];rfl)|(simp only[Le];rfl)|(simp only[Av,Le];rfl))⟩)))))|(refine Fh rfl rfl rfl rfl rfl (by assumption) ?_ ?_ rfl ?_;(· simp);(· (repeat' first|exact⟨rfl,(by first|rfl|(simp only[Av];rfl)|(simp only[Le];rfl)|(simp only[Av,Le];rfl))⟩|refine exP ?_|refine exU ?_|apply Exists.intro|(dsimp only;exact⟨rfl,(by first|rfl|(simp only[Av];rfl)|(simp only[Le];rfl)|(simp only[Av,Le];rfl))⟩))))|(refine Hn rfl rfl rfl rfl rfl (by assumption) ?_ ?_ ?_;(· simp);(· (repeat' first|exact⟨rfl,(by first|rfl|(simp only[Av];rfl)|(simp only[Le];rfl)|(simp only[Av,Le];rfl))⟩|refine exP ?_|refine exU ?_|apply Exists.intro|(dsimp only;exact⟨rfl,(by first|rfl|(simp only[Av];rfl)|(simp only[Le];rfl)|(simp only[Av,Le];rfl))⟩))))|(refine Hm rfl rfl rfl rfl rfl (by assumption) ?_ ?_ rfl ?_;(· simp);(· (repeat' first|exact⟨rfl,(by first|rfl|(simp only[Av];rfl)|(simp only[Le];rfl)|(simp only[Av,Le];rfl))⟩|refine exP ?_|refine exU ?_|apply Exists.intro|(dsimp only;exact⟨rfl,(by first|rfl|(simp only[Av];rfl)|(simp only[Le];rfl)|(simp only[Av,Le];rfl))⟩))))|(refine Gk rfl rfl rfl rfl rfl (by assumption) ?_ ?_ ?_;(· simp);(· (repeat' first|exact⟨rfl,(by first|rfl|(simp only[Av];rfl)|(simp only[Le];rfl)|(simp only[Av,Le];rfl))⟩|refine exP ?_|refine exU ?_|apply Exists.intro|(dsimp only;exact⟨rfl,(by first|rfl|(simp only[Av];rfl)|(simp only[Le];rfl)|(simp only[Av,Le];rfl))⟩))))|(refine Hl rfl rfl rfl rfl rfl (by assumption) ?_ ?_ ?_;(· simp);(· (repeat' first|exact⟨rfl,(by first|rfl|(simp only[Av];rfl)|(simp only[Le];rfl)|(simp only[Av,Le];rfl))⟩|refine exP ?_|refine exU ?_|apply Exists.intro|(dsimp only;exact⟨rfl,(by first|rfl|(simp only[Av];rfl)|(simp only[Le];rfl)|(simp only[Av,Le];rfl))⟩))))|((with_reducible refine Cn ?_);first|refine QD λhq=>HM rfl rfl rfl rfl rfl (by first|rfl|simp) rfl hq rfl ?_|refine QD λhq=>JF rfl rfl rfl rfl rfl (by first|rfl|simp) rfl hq rfl ?_|refine QD λhq=>FV rfl rfl rfl rfl rfl (by first|rfl|simp) rfl hq (by exact Ey _) rfl ?_))
  | ((with_reducible refine Nu ?_);refine KB rfl rfl rfl ?_)
  | ((with_reducible refine Nz ?_);first|refine HN rfl rfl ?_|refine GD rfl rfl ?_|refine GC rfl rfl ?_|refine GF rfl rfl ?_)
  | ((with_reducible refine Nw ?_);first|((with_reducible refine Dr ?_);refine Rt λq hq=>DR rfl rfl rfl hq rfl ?_)|((with_reducible refine Cn ?_);refine QD λhq=>Xt (by first|rfl|simp) rfl rfl rfl rfl hq ?_)|refine DR rfl rfl rfl (by assumption) rfl ?_)
  | ((with_reducible refine ON ?_);refine Mt rfl rfl rfl rfl trivial ?_)
  | ((with_reducible refine Nq ?_);refine Kx rfl rfl rfl rfl rfl ?_)
  | ((with_reducible refine ND ?_);refine KG rfl ?_)
  | ((with_reducible refine OM ?_);first|((with_reducible refine Dr ?_);refine Rt λq hq=>Ut rfl rfl rfl rfl rfl rfl rfl (by simp) hq rfl rfl rfl rfl rfl ?_)|refine Ni rfl rfl rfl rfl rfl rfl rfl rfl rfl ?_|refine Nj rfl rfl rfl rfl rfl rfl rfl rfl rfl (by repeat' first|exact EvL.nil rfl|apply EvL.cons rfl) ?_|refine Ut rfl rfl rfl rfl rfl rfl rfl (by simp) (by assumption) rfl rfl rfl rfl rfl ?_)
  | ((with_reducible refine Ny ?_);first|((with_reducible refine Dr ?_);refine Rt λq hq=>Gf rfl rfl rfl (CT hq) rfl (by repeat' first|exact EvL.nil rfl|apply EvL.cons rfl) ?_)|refine Gf rfl rfl rfl rfl rfl (by repeat' first|exact EvL.nil rfl|apply EvL.cons rfl) ?_|refine JW rfl rfl rfl (by repeat' first|exact EvL.nil rfl|apply EvL.cons rfl) ?_|refine Gf rfl rfl rfl (CT (by assumption)) rfl (by repeat' first|exact EvL.nil rfl|apply EvL.cons rfl) ?_)
  | ((with_reducible refine LI ?_);refine JS inferInstance rfl rfl rfl (by simp) rfl rfl rfl ?_)
  | ((with_reducible refine Nl ?_);((with_reducible refine Cn ?_);refine QD λhq=>YS _ _ _ rfl rfl rfl rfl rfl rfl rfl (by first|(simp;done)|(simp;omega)) (by first|rfl|exact Ty _ _ rfl|exact Ty _ _ (by simp)|exact FP _ _ _|simp[aAT]) rfl rfl (by simp) (by first|rfl|exact Tj _ _ rfl|exact Tj _ _ (by simp)) (λ_=>rfl) rfl hq ?_))
  | ((with_reducible refine Np ?_);refine Ng rfl (by repeat' first|apply EvP.cons rfl|exact EvP.nil rfl) rfl (by repeat' first|exact EvL.nil rfl|apply EvL.cons rfl) ?_)
  | ((with_reducible refine Nr ?_);refine Ky rfl rfl ?_)
  | ((with_reducible refine NC ?_);((with_reducible refine Cn ?_);refine QD λhq=>Nh inferInstance rfl rfl rfl rfl hq rfl ?_))
  | ((with_reducible refine Ke ?_);refine IF rfl rfl rfl ?_)
  | ((with_reducible refine LK ?_);refine Ly rfl rfl rfl ?_)
  | ((with_reducible refine LM ?_);refine Lz rfl rfl rfl (by repeat' first|exact EvL.nil rfl|apply EvL.cons rfl) ?_)
  | ((with_reducible refine Nt ?_);first|refine JT rfl rfl rfl ?_|refine JU rfl rfl rfl ?_)
  | ((with_reducible refine Ns ?_);refine Kz rfl rfl rfl rfl (by repeat' first|exact trivial|refine⟨rfl,?_⟩) rfl ?_)
  | ((with_reducible refine NA ?_);refine KE rfl rfl rfl ?_)
  | ((with_reducible refine NB ?_);refine KF rfl rfl rfl ?_)
  | ((with_reducible refine NF ?_);((with_reducible refine Cn ?_);first|refine QD λhq=>Fp rfl rfl rfl (λ_=>rfl) rfl hq ?_|refine QD λhq=>Fq rfl rfl rfl (λ_=>rfl) rfl hq ?_|refine QD λhq=>VW (by first|rfl|simp) rfl rfl rfl rfl rfl hq ?_|refine QD λhq=>EK (by first|rfl|simp) rfl rfl rfl rfl rfl hq ?_|refine QD λhq=>HO rfl rfl rfl rfl (λ_=>rfl) rfl hq ?_))
  | ((with_reducible refine LN ?_);refine FW (by kernel_rfl) ?_)
  )
 exact h.h):p:=f ⟨⟩ ⟨hq⟩
theorem B {p:Prop} (h:p:=by
 repeat' first
 | ((with_reducible refine Nv ?_);first|((with_reducible refine Px ?_);refine WI rfl ?_ ?_)|refine KI rfl ?_)
 | ((with_reducible refine OH ?_);refine Mq rfl rfl ?_)
 | with_reducible refine KH ?_
 | ((with_reducible refine LL ?_);first|refine JE rfl rfl ?_|refine HJ rfl rfl ?_)
 | ((with_reducible refine Nx ?_);first|((with_reducible refine Dr ?_);refine Rt λq hq=>Ge rfl rfl rfl (CT hq) rfl ?_)|refine Ge rfl rfl rfl rfl rfl ?_|refine JV rfl rfl rfl ?_|refine Ge rfl rfl rfl (CT (by assumption)) rfl ?_)
 | ((with_reducible refine Nn ?_);first|((with_reducible refine Cn ?_);first|refine QD λhq=>Gi rfl rfl rfl rfl (by first|exact hq|exact⟨rfl,hq⟩) ?_|refine QD λhq=>Dy rfl rfl rfl rfl hq ?_)|refine Gi rfl rfl rfl rfl (by first|exact rfl|exact trivial|assumption|decide|exact⟨rfl,by assumption⟩|exact⟨rfl,by decide⟩) ?_|refine Dy rfl rfl rfl rfl trivial ?_)
 | with_reducible refine Mw ?_
 | with_reducible refine Mu ?_
 | with_reducible refine KJ ?_
 | ((with_reducible refine Nm ?_);first|refine Kw rfl rfl ?_|((with_reducible refine Cn ?_);refine QD λhq=>GA rfl rfl rfl hq ?_)|refine Iq inferInstance rfl rfl ?_|refine HI rfl rfl ?_|refine GB (by first|rfl|simp) rfl rfl rfl ?_|refine HH (by first|rfl|simp) rfl rfl rfl ?_|refine FQ rfl rfl rfl ?_)
 | with_reducible refine EL ?_
 | with_reducible refine GI ?_
 | with_reducible refine Gc ?_
 | with_reducible refine JG ?_
 | with_reducible refine KM ?_
 | with_reducible refine Mv ?_
 | with_reducible refine KL ?_
 | with_reducible refine GG ?_
 | with_reducible refine GH ?_
 | with_reducible refine Ga ?_
 | with_reducible refine FX ?_
 | with_reducible refine Gb ?_
 | with_reducible refine Ft ?_
 | with_reducible refine FZ ?_
 | ((with_reducible refine OO ?_);refine FY rfl ?_)
 | ((with_reducible refine OP ?_);refine Fs rfl ?_)
 | ((with_reducible refine OG ?_);first|refine XL rfl ?_ ?_|refine Gd rfl ?_|refine Fu rfl ?_)
 | ((with_reducible refine LO ?_);first|refine Fo rfl rfl rfl rfl ?_|refine EJ rfl rfl rfl rfl ?_)
 | ((with_reducible refine LJ ?_);first|((with_reducible refine Dr ?_);first|(refine Fg rfl rfl rfl rfl rfl ?_ ?_ (λ_=>rfl) λ_ _=>?_;(· simp);(· (repeat' first|exact⟨rfl,(by first|rfl|(simp only[Av];rfl)|(simp only[Le];rfl)|(simp only[Av,Le];rfl))⟩|refine exP ?_|refine exU ?_|apply Exists.intro|(dsimp only;exact⟨rfl,(by first|rfl|(simp only[Av];rfl)|(simp only[Le];rfl)|(simp only[Av,Le];rfl))⟩))))|(refine Hk rfl rfl rfl rfl rfl ?_ ?_ λ_ _=>?_;(· simp);(· (repeat' first|exact⟨rfl,(by first|rfl|(simp only[Av];rfl)|(simp only[Le];rfl)|(simp only[Av,Le];rfl))⟩|refine exP ?_|refine exU ?_|apply Exists.intro|(dsimp only;exact⟨rfl,(by first|rfl|(simp only[Av];rfl)|(simp only[Le];rfl)|(simp only[Av,Le];rfl))⟩))))|(refine Hj rfl rfl rfl rfl rfl ?_ ?_ (λ_=>rfl) λ_ _=>?_;(· simp);(· (repeat' first|exact⟨rfl,(by first|rfl|(simp only[Av];rfl)|(simp only[Le];rfl)|(simp only[Av,Le];rfl))⟩|refine exP ?_|refine exU ?_|apply Exists.intro|(dsimp only;exact⟨rfl,(by first|rfl|(simp only[Av];rfl)|(simp only[Le];rfl)|(simp only[Av,Le];rfl))⟩))))|(refine Gj rfl rfl rfl rfl rfl ?_ ?_ λ_ _=>?_;(· simp);(· (repeat' first|exact⟨rfl,(by first|rfl|(simp only[Av];rfl)|(simp only[Le];rfl)|(simp only[Av,Le];rfl))⟩|refine exP ?_|refine exU ?_|apply Exists.intro|(dsimp only;exact⟨rfl,(by first|rfl|(simp only[Av];rfl)|(simp only[Le];rfl)|(simp only[Av,Le];rfl))⟩))))|(refine Hi rfl rfl rfl rfl rfl ?_ ?_ λ_ _=>?_;(· simp);(· (repeat' first|exact⟨rfl,(by first|rfl|(simp only[Av];rfl)|(simp only[Le];rfl)|(simp only[Av,Le];rfl))⟩|refine exP ?_|refine exU ?_|apply Exists.intro|(dsimp only;exact⟨rfl,(by first|rfl|(simp only[Av];rfl)|(simp only[Le];rfl)|(simp only[Av,Le];rfl))⟩)))))|(refine Fh rfl rfl rfl rfl rfl (by assumption) ?_ ?_ rfl ?_;(· simp);(· (repeat' first|exact⟨rfl,(by first|rfl|(simp only[Av];rfl)|(simp only[Le];rfl)|(simp only[Av,Le];rfl))⟩|refine exP ?_|refine exU ?_|apply Exists.intro|(dsimp only;exact⟨rfl,(by first|rfl|(simp only[Av];rfl)|(simp only[Le];rfl)|(simp only[Av,Le];rfl))⟩))))|(refine Hn rfl rfl rfl rfl rfl (by assumption) ?_ ?_ ?_;(· simp);(· (repeat' first|exact⟨rfl,(by first|rfl|(simp only[Av];rfl)|(simp only[Le];rfl)|(simp only[Av,Le];rfl))⟩|refine exP ?_|refine exU ?_|apply Exists.intro|(dsimp only;exact⟨rfl,(by first|rfl|(simp only[Av];rfl)|(simp only[Le];rfl)|(simp only[Av,Le];rfl))⟩))))|(refine Hm rfl rfl rfl rfl rfl (by assumption) ?_ ?_ rfl ?_;(· simp);(· (repeat' first|exact⟨rfl,(by first|rfl|(simp only[Av];rfl)|(simp only[Le];rfl)|(simp only[Av,Le];rfl))⟩|refine exP ?_|refine exU ?_|apply Exists.intro|(dsimp only;exact⟨rfl,(by first|rfl|(simp only[Av];rfl)|(simp only[Le];rfl)|(simp only[Av,Le];rfl))⟩))))|(refine Gk rfl rfl rfl rfl rfl (by assumption) ?_ ?_ ?_;(· simp);(· (repeat' first|exact⟨rfl,(by first|rfl|(simp only[Av];rfl)|(simp only[Le];rfl)|(simp only[Av,Le];rfl))⟩|refine exP ?_|refine exU ?_|apply Exists.intro|(dsimp only;exact⟨rfl,(by first|rfl|(simp only[Av];rfl)|(simp only[Le];rfl)|(simp only[Av,Le];rfl))⟩))))|(refine Hl rfl rfl rfl rfl rfl (by assumption) ?_ ?_ ?_;(· simp);(· (repeat' first|exact⟨rfl,(by first|rfl|(simp only[Av];rfl)|(simp only[Le];rfl)|(simp only[Av,Le];rfl))⟩|refine exP ?_|refine exU ?_|apply Exists.intro|(dsimp only;exact⟨rfl,(by first|rfl|(simp only[Av];rfl)|(simp only[Le];rfl)|(simp only[Av,Le];rfl))⟩))))|((with_reducible refine Cn ?_);first|refine QD λhq=>HM rfl rfl rfl rfl rfl (by first|rfl|simp) rfl hq rfl ?_|refine QD λhq=>JF rfl rfl rfl rfl rfl (by first|rfl|simp) rfl hq rfl ?_|refine QD λhq=>FV rfl rfl rfl rfl rfl (by first|rfl|simp) rfl hq (by exact Ey _) rfl ?_))
 | ((with_reducible refine Nu ?_);refine KB rfl rfl rfl ?_)
 | ((with_reducible refine Nz ?_);first|refine HN rfl rfl ?_|refine GD rfl rfl ?_|refine GC rfl rfl ?_|refine GF rfl rfl ?_)
 | ((with_reducible refine Nw ?_);first|((with_reducible refine Dr ?_);refine Rt λq hq=>DR rfl rfl rfl hq rfl ?_)|((with_reducible refine Cn ?_);refine QD λhq=>Xt (by first|rfl|simp) rfl rfl rfl rfl hq ?_)|refine DR rfl rfl rfl (by assumption) rfl ?_)
 | ((with_reducible refine ON ?_);refine Mt rfl rfl rfl rfl trivial ?_)
 | ((with_reducible refine Nq ?_);refine Kx rfl rfl rfl rfl rfl ?_)
 | ((with_reducible refine ND ?_);refine KG rfl ?_)
 | ((with_reducible refine OM ?_);first|((with_reducible refine Dr ?_);refine Rt λq hq=>Ut rfl rfl rfl rfl rfl rfl rfl (by simp) hq rfl rfl rfl rfl rfl ?_)|refine Ni rfl rfl rfl rfl rfl rfl rfl rfl rfl ?_|refine Nj rfl rfl rfl rfl rfl rfl rfl rfl rfl (by repeat' first|exact EvL.nil rfl|apply EvL.cons rfl) ?_|refine Ut rfl rfl rfl rfl rfl rfl rfl (by simp) (by assumption) rfl rfl rfl rfl rfl ?_)
 | ((with_reducible refine Ny ?_);first|((with_reducible refine Dr ?_);refine Rt λq hq=>Gf rfl rfl rfl (CT hq) rfl (by repeat' first|exact EvL.nil rfl|apply EvL.cons rfl) ?_)|refine Gf rfl rfl rfl rfl rfl (by repeat' first|exact EvL.nil rfl|apply EvL.cons rfl) ?_|refine JW rfl rfl rfl (by repeat' first|exact EvL.nil rfl|apply EvL.cons rfl) ?_|refine Gf rfl rfl rfl (CT (by assumption)) rfl (by repeat' first|exact EvL.nil rfl|apply EvL.cons rfl) ?_)
 | ((with_reducible refine LI ?_);refine JS inferInstance rfl rfl rfl (by simp) rfl rfl rfl ?_)
 | ((with_reducible refine Nl ?_);((with_reducible refine Cn ?_);refine QD λhq=>YS _ _ _ rfl rfl rfl rfl rfl rfl rfl (by first|(simp;done)|(simp;omega)) (by first|rfl|exact Ty _ _ rfl|exact Ty _ _ (by simp)|exact FP _ _ _|simp[aAT]) rfl rfl (by simp) (by first|rfl|exact Tj _ _ rfl|exact Tj _ _ (by simp)) (λ_=>rfl) rfl hq ?_))
 | ((with_reducible refine Np ?_);refine Ng rfl (by repeat' first|apply EvP.cons rfl|exact EvP.nil rfl) rfl (by repeat' first|exact EvL.nil rfl|apply EvL.cons rfl) ?_)
 | ((with_reducible refine Nr ?_);refine Ky rfl rfl ?_)
 | ((with_reducible refine NC ?_);((with_reducible refine Cn ?_);refine QD λhq=>Nh inferInstance rfl rfl rfl rfl hq rfl ?_))
 | ((with_reducible refine Ke ?_);refine IF rfl rfl rfl ?_)
 | ((with_reducible refine LK ?_);refine Ly rfl rfl rfl ?_)
 | ((with_reducible refine LM ?_);refine Lz rfl rfl rfl (by repeat' first|exact EvL.nil rfl|apply EvL.cons rfl) ?_)
 | ((with_reducible refine Nt ?_);first|refine JT rfl rfl rfl ?_|refine JU rfl rfl rfl ?_)
 | ((with_reducible refine Ns ?_);refine Kz rfl rfl rfl rfl (by repeat' first|exact trivial|refine⟨rfl,?_⟩) rfl ?_)
 | ((with_reducible refine NA ?_);refine KE rfl rfl rfl ?_)
 | ((with_reducible refine NB ?_);refine KF rfl rfl rfl ?_)
 | ((with_reducible refine NF ?_);((with_reducible refine Cn ?_);first|refine QD λhq=>Fp rfl rfl rfl (λ_=>rfl) rfl hq ?_|refine QD λhq=>Fq rfl rfl rfl (λ_=>rfl) rfl hq ?_|refine QD λhq=>VW (by first|rfl|simp) rfl rfl rfl rfl rfl hq ?_|refine QD λhq=>EK (by first|rfl|simp) rfl rfl rfl rfl rfl hq ?_|refine QD λhq=>HO rfl rfl rfl rfl (λ_=>rfl) rfl hq ?_))
 | ((with_reducible refine LN ?_);refine FW (by kernel_rfl) ?_)
 | ((with_reducible refine OL ?_);exact WM rfl (by first|(simp;done)|(simp;omega)|rfl|(simp[QT,QI];done)) (by first|rfl|(simp only[Av];rfl)|(simp only[Le];rfl)|(simp only[Av,Le];rfl)) rfl (by first|(simp;done)|(simp;omega)|rfl|(simp[QT,QI];done)) (by first|rfl|(simp only[Av];rfl)|(simp only[Le];rfl)|(simp only[Av,Le];rfl)))
 | ((with_reducible refine NY ?_);exact SI rfl (by first|(simp;done)|(simp;omega)|rfl|(simp[QT,QI];done)) (by first|rfl|(simp only[Av];rfl)|(simp only[Le];rfl)|(simp only[Av,Le];rfl)) rfl (by first|(simp;done)|(simp;omega)|rfl|(simp[QT,QI];done)) (by first|rfl|(simp only[Av];rfl)|(simp only[Le];rfl)|(simp only[Av,Le];rfl)) (by decide))
 | ((with_reducible refine LP ?_);exact Lm rfl (by first|(simp;done)|(simp;omega)|rfl|(simp[QT,QI];done)) (by first|rfl|(simp only[Av];rfl)|(simp only[Le];rfl)|(simp only[Av,Le];rfl)) rfl (by first|(simp;done)|(simp;omega)|rfl|(simp[QT,QI];done)) (by first|rfl|(simp only[Av];rfl)|(simp only[Le];rfl)|(simp only[Av,Le];rfl)))
 | ((with_reducible refine La ?_);exact Ij rfl (by first|(simp;done)|(simp;omega)|rfl|(simp[QT,QI];done)) (by first|rfl|(simp only[Av];rfl)|(simp only[Le];rfl)|(simp only[Av,Le];rfl)) rfl (by first|(simp;done)|(simp;omega)|rfl|(simp[QT,QI];done)) (by first|rfl|(simp only[Av];rfl)|(simp only[Le];rfl)|(simp only[Av,Le];rfl)) (by decide))
 | ((with_reducible refine OJ ?_);exact Oi rfl (by first|(simp;done)|(simp;omega)|rfl|(simp[QT,QI];done)) (by first|rfl|(simp only[Av];rfl)|(simp only[Le];rfl)|(simp only[Av,Le];rfl)) rfl (by first|(simp;done)|(simp;omega)|rfl|(simp[QT,QI];done)) rfl (by first|(simp;done)|(simp;omega)|rfl|(simp[QT,QI];done)) (congrArg D.sl (Tj _ _ (by first|rfl|simp))) rfl)
 | ((with_reducible refine OI ?_);exact Oh rfl (by first|(simp;done)|(simp;omega)|rfl|(simp[QT,QI];done)) rfl (by first|(simp;done)|(simp;omega)|rfl|(simp[QT,QI];done)) (by first|rfl|(simp only[Av];rfl)|(simp only[Le];rfl)|(simp only[Av,Le];rfl)) rfl (by first|(simp;done)|(simp;omega)|rfl|(simp[QT,QI];done)) (by first|rfl|(simp only[Av];rfl)|(simp only[Le];rfl)|(simp only[Av,Le];rfl)))
 | ((with_reducible refine OK ?_);exact Ln (by decide) (by decide) rfl (by first|(simp;done)|(simp;omega)|rfl|(simp[QT,QI];done)) rfl (by first|(simp;done)|(simp;omega)|rfl|(simp[QT,QI];done)) rfl (by first|(simp;done)|(simp;omega)|rfl|(simp[QT,QI];done)) rfl (by first|(simp;done)|(simp;omega)|rfl|(simp[QT,QI];done)) (by first|rfl|(simp only[Av];rfl)|(simp only[Le];rfl)|(simp only[Av,Le];rfl)) rfl (by first|(simp;done)|(simp;omega)|rfl|(simp[QT,QI];done)) rfl)
 | with_reducible refine Pu ?_
 | with_reducible refine IH ?_
 | with_reducible refine JJ ?_
 | with_reducible refine Oz ?_
 | refine NK (by assumption) rfl ?_ ?_
 | refine Wh ?_ ?_
 | exact trivial
 | refine⟨rfl,?_⟩
 | refine⟨Oe rfl (by simp),?_⟩
 | refine⟨RW rfl,?_⟩
 | refine⟨Vq (Wf _ rfl),?_⟩
 | refine⟨Vq (Vp rfl (by first|rfl|simp) rfl (by first|exact .head _|exact .tail _ (.head _)|exact .tail _ (.tail _ (.head _))|exact .tail _ (.tail _ (.tail _ (.head _))))),?_⟩
 | refine⟨Vq (FA rfl (by omega) rfl (by first|exact .head _|exact .tail _ (.head _)|exact .tail _ (.tail _ (.head _))|exact .tail _ (.tail _ (.tail _ (.head _))))),?_⟩
 | refine⟨XQ rfl (by repeat' first|exact trivial|refine⟨WG rfl,?_⟩|refine⟨Wf _ rfl,?_⟩|refine⟨Vp rfl (by first|rfl|simp) rfl (by first|exact .head _|exact .tail _ (.head _)|exact .tail _ (.tail _ (.head _))|exact .tail _ (.tail _ (.tail _ (.head _)))),?_⟩|refine⟨FA rfl (by omega) rfl (by first|exact .head _|exact .tail _ (.head _)|exact .tail _ (.tail _ (.head _))|exact .tail _ (.tail _ (.tail _ (.head _)))),?_⟩),?_⟩
 | refine⟨.inl rfl,?_⟩
 | refine⟨.inr ⟨_,_,_,_,rfl,rfl,rfl,rfl,XQ rfl (by repeat' first|exact trivial|refine⟨WG rfl,?_⟩|refine⟨Wf _ rfl,?_⟩|refine⟨Vp rfl (by first|rfl|simp) rfl (by first|exact .head _|exact .tail _ (.head _)|exact .tail _ (.tail _ (.head _))|exact .tail _ (.tail _ (.tail _ (.head _)))),?_⟩|refine⟨FA rfl (by omega) rfl (by first|exact .head _|exact .tail _ (.head _)|exact .tail _ (.tail _ (.head _))|exact .tail _ (.tail _ (.tail _ (.head _)))),?_⟩)⟩,?_⟩
 | refine⟨.inr ⟨_,_,_,_,rfl,rfl,rfl,rfl,Vq (Wf _ rfl)⟩,?_⟩
 | refine⟨.inr ⟨_,_,_,_,rfl,rfl,rfl,rfl,Vq (Vp rfl (by first|rfl|simp) rfl (by first|exact .head _|exact .tail _ (.head _)|exact .tail _ (.tail _ (.head _))|exact .tail _ (.tail _ (.tail _ (.head _)))))⟩,?_⟩
 | refine exP ?_
 | refine exU ?_
 | apply Exists.intro
 ):p:=h
inductive FrL:List D->List D->Prop
 | nil:FrL [] []
 | same (c:D) {l l':List D} (h:FrL l l'):FrL (c::l) (c::l')
 | row {s ty:Nat} {es l l':List D} (hp:∀ q∈es,AD q=true) (h:FrL l l'):FrL (.row s ty es::l) (.sl es::l')
inductive IX:List D->List D->Prop
 | nil:IX [] []
 | same {c:D} (hc:plain c=true) {l l':List D} (h:IX l l'):IX (c::l) (c::l')
 | row {s ty:Nat} {l l':List D} (hs:0<s) (h:IX l l'):IX (.nils::l) (.row s ty []::l')
section
variable {Γ:Ar} {X:Type} {K:KR X} {t:Option X} {e:List (Nat×D)} {o:List (Nat×Ac)} {n nv:Nat} {d:Bool} {acc:List Co}
 {r:List As} {g:Option (Nat×Bool)} {af:List Nat} {α:Type} {x y:Arg} {s ty gi vi off:Nat} {z z':D} {l:List α} {en:α->D}
end
section
variable {α:Type} {c:α->List D} {w:Nat}
variable (hw:∀ q,(c q).length=w)
include hw
end
section
variable {Γ:Ar} {X:Type} {K:KR X} {t:Option X} {e:List (Nat×D)} {o:List (Nat×Ac)} {n nv:Nat} {d:Bool} {acc:List Co}
 {r:List As} {dst:Nat} {g:Option (Nat×Bool)} {af:List Nat} {α:Type}
variable {x y:Arg} {v z z':D} {s ty gi vi off w j:Nat} {fz var:Bool} {l:List α} {c:α->List D} {q q':α}
end
open Go
section
variable {Γ:Ar} {R:Type} {K:R->Ax->S->Prop} {t:Option R} {σ τ:S} {b:Ru}
def KO (Γ:Ar) (b:Ru) (Q:Ax->S->Prop):Nat->S->Prop
 | 0,_=>False
 | m+1,σ=>DWp Γ b (Ax.then (λτ=>∃ τ',Chg τ τ'/\KO Γ b Q m τ') Q) σ
theorem KO.loop {Q:Ax->S->Prop} {m:Nat} (h:KO Γ b Q m σ):DWp Γ (.loop b) Q σ:=by
 refine⟨{ p:Nat×S // KO Γ b Q p.1 p.2 },λp=>p.1.2,λp=>p.1.1,⟨(m,σ),h⟩,.refl _,?_⟩
 rintro⟨⟨k,σ⟩,h⟩
 simp only at h
 cases k with
 | zero=>exact h.elim
 | succ k =>
  refine Bw b _ _ _ (λe τ hq=>?_) h
  cases e with
  | normal =>
   obtain⟨τ',h1,h2⟩:=hq
   exact⟨⟨(k,τ'),h2⟩,Nat.lt_succ_self k,h1⟩
  | exit id=>exact hq
  | ret=>exact hq
end
section
variable {α:Type} {Γ:Ar} {X:Type} {K:KR X} {t:Option X} {r:List As} {nv n:Nat} {e:List (Nat×D)} {o:List (Nat×Ac)} {d:Bool} {acc:List Co} {g:Option (Nat×Bool)} {af:List Nat} {dst:Nat} {x y:Arg} {w:D} {gi vi ty:Nat}
def YJ (l:List Int):List UInt8:=l.map λn=>aAN n.toNat
theorem AdL {k:IntKind} {m:Int} (hg:gOn e g=true) (hx:Aa e x=some (.int k m)) (h:TrO Γ r (nv+1) ⟨(dst,.str (YC m))::e,o,n⟩ d (acc++[(gK g++rdK x,[.e dst],af)]) K t) :
  TrO Γ (⟨some dst,.i2s x,g,af⟩::r) nv ⟨e,o,n⟩ d acc K t :=
 Al hg (c:=True) (we:=[(dst,.str (YC m))]) (wo:=[]) (rd:=rdK x) (by simp only[evalOp,R.run_bind,Aj,aA,hx,DQ,R.run_pure,Ad]) (by simp only[evalOp,R.AF,Aj,AU,aA,hx,DQ,R.Bh,aAC]) trivial h
theorem Aas {k:IntKind} {a:Int} {s:List UInt8} {hi:Arg} (hg:gOn e g=true) (hx:Aa e x=some (.str s)) (hy:Aa e hi=some (.int k a)) (hl:0<=a/\a<=s.length)
  (h:TrO Γ r (nv+1) ⟨(dst,.str (s.take a.toNat))::e,o,n⟩ d (acc++[(gK g++(rdK x++rdK hi),[.e dst],af)]) K t) :
  TrO Γ (⟨some dst,.slc 0 x none (some hi),g,af⟩::r) nv ⟨e,o,n⟩ d acc K t:=by
 refine Al hg (c:=True) (we:=[(dst,.str (s.take a.toNat))]) (wo:=[]) (rd:=rdK x++rdK hi) ?_ ?_ trivial h
 ·simp only[evalOp,R.run_bind,Aj,aA,hx,hy,strip,Bi,R.AB,R.run_pure,Bm,fits,BF,bound,Bu,Ad]
  simp[hl]
 ·simp[evalOp,strip,Bi,hx,hy,fits]
theorem Aat {k:IntKind} {a:Int} {s:List UInt8} {lo:Arg} (hg:gOn e g=true) (hx:Aa e x=some (.str s)) (hy:Aa e lo=some (.int k a)) (hl:0<=a/\a<=s.length)
  (h:TrO Γ r (nv+1) ⟨(dst,.str (s.drop a.toNat))::e,o,n⟩ d (acc++[(gK g++(rdK x++rdK lo),[.e dst],af)]) K t) :
  TrO Γ (⟨some dst,.slc 0 x (some lo) none,g,af⟩::r) nv ⟨e,o,n⟩ d acc K t:=by
 refine Al hg (c:=True) (we:=[(dst,.str (s.drop a.toNat))]) (wo:=[]) (rd:=rdK x++rdK lo) ?_ ?_ trivial h
 ·have ht:(s.drop a.toNat).take (s.length-a.toNat)=s.drop a.toNat:=aAM (by simp)
  simp only[evalOp,R.run_bind,Aj,aA,hx,hy,strip,Bi,R.AB,R.run_pure,Bm,fits,BF,bound,Bu,Ad,Int.toNat_natCast]
  rw[ht]
  simp[hl]
 ·simp[evalOp,strip,Bi,hx,hy,fits]
theorem AbG {β:Type} {fz:Bool} {k:IntKind} {a:Int} {q s:Nat} {l:List β} {en:β->D} (hg:gOn e g=true) (hx:Aa e x=some (.osl gi vi 0 q)) (hy:Aa e y=some (.int k a)) (ho:lkO o gi=some (vi,⟨fz,false,s,ty,l.map en⟩)) (hi:0<=a/\a<q/\q<=l.length)
  (h:TrO Γ r (nv+1) ⟨(dst,.optr gi vi a.toNat 0)::e,o,n⟩ d (acc++[(gK g++(rdK x++(rdK y++[.o gi])),[.e dst],af)]) K t) :
  TrO Γ (⟨some dst,.ixA s x y,g,af⟩::r) nv ⟨e,o,n⟩ d acc K t:=by
 refine Al hg (c:=True) (we:=[(dst,.optr gi vi a.toNat 0)]) (wo:=[]) (rd:=rdK x++(rdK y++[Key.o gi])) ?_ (by simp[evalOp,strip,R.Ca,Ay,hx,hy,ho]) trivial h
 simp only[evalOp,R.run_bind,Aj,aA,hx,hy,strip,R.AP,Ay,ho,R.AB,Ad]
 simp[hi.1,hi.2]
inductive Mk where
 | i (n:Int)
 | u (n:Int)
 | s (l:List UInt8)
 deriving DecidableEq,Inhabited
def AeA (a b c:Nat):Mk->Nat
 | .i _=>a
 | .u _=>b
 | .s _=>c
def Aez:Mk->D
 | .i n=>.int .i64 n
 | .u n=>.int .u64 n
 | .s l=>.str l
def anyM {β:Type} (v:Mk) (f1 f2:Int->β) (f3:List UInt8->β):β:=match v with
 | .i n=>f1 n
 | .u n=>f2 n
 | .s l=>f3 l
theorem WO {ops:List As} {σ:S} (v:Mk) {f1 f2:Int->Option X} {f3:List UInt8->Option X} (h1:∀ m,v= .i m->TrO Γ ops nv σ d acc K (f1 m)) (h2:∀ m,v= .u m->TrO Γ ops nv σ d acc K (f2 m))
  (h3:∀ m,v= .s m->TrO Γ ops nv σ d acc K (f3 m)):TrO Γ ops nv σ d acc K (anyM v f1 f2 f3):=by
 cases v with
 | i m=>exact h1 m rfl
 | u m=>exact h2 m rfl
 | s m=>exact h3 m rfl
theorem Us {q:Nat} (z:D) (hg:gOn e g=true) (hx:Aa e x=some w) (hww:strip w=(true,w)) (hgr:AV w=true) (hz: .ifc q w=z) (h:TrO Γ r (nv+1) ⟨(dst,z)::e,o,n⟩ d (acc++[(gK g++rdK x,[.e dst],af)]) K t) :
  TrO Γ (⟨some dst,.mkI q x,g,af⟩::r) nv ⟨e,o,n⟩ d acc K t:=by
 subst hz
 exact Al hg (c:=True/\AV w=true) (we:=[(dst,.ifc q w)]) (wo:=[]) (rd:=rdK x) (by simp only[evalOp,R.run_bind,Aj,aA,hx,hww,R.run_pure,Ad]) (by simp only[evalOp,R.AF,Aj,AU,aA,hx,hww,R.Bh,aAC]) ⟨trivial,hgr⟩ h
theorem QJ {q:Nat} {z:D} (w:D) (hg:gOn e g=true) (hx:Aa e x=some (.ifc q w)) (h:TrO Γ r (nv+1) ⟨(dst,.tup [w,.bool true])::e,o,n⟩ d (acc++[(gK g++rdK x,[.e dst],af)]) K t) :
  TrO Γ (⟨some dst,.tas q z x,g,af⟩::r) nv ⟨e,o,n⟩ d acc K t :=
 Al hg (c:=True) (we:=[(dst,.tup [w,.bool true])]) (wo:=[]) (rd:=rdK x) (by simp only[evalOp,R.run_bind,Aj,aA,hx,show strip (.ifc q w)=(true,.ifc q w)from rfl,R.run_pure,Ad,show Nat.beq q q=true from Nat.beq_refl q,cond_true]) (by simp only[evalOp,R.AF,Aj,AU,aA,hx,show strip (.ifc q w)=(true,.ifc q w)from rfl,R.Bh,aAC]) trivial h
theorem QC {q q':Nat} {z w:D} (hg:gOn e g=true) (hx:Aa e x=some (.ifc q' w)) (hq:Nat.beq q' q=false) (h:TrO Γ r (nv+1) ⟨(dst,.tup [z,.bool false])::e,o,n⟩ d (acc++[(gK g++rdK x,[.e dst],af)]) K t) :
  TrO Γ (⟨some dst,.tas q z x,g,af⟩::r) nv ⟨e,o,n⟩ d acc K t :=
 Al hg (c:=True) (we:=[(dst,.tup [z,.bool false])]) (wo:=[]) (rd:=rdK x) (by simp only[evalOp,R.run_bind,Aj,aA,hx,show strip (.ifc q' w)=(true,.ifc q' w)from rfl,R.run_pure,Ad,hq,cond_false]) (by simp only[evalOp,R.AF,Aj,AU,aA,hx,show strip (.ifc q' w)=(true,.ifc q' w)from rfl,R.Bh,aAC]) trivial h
theorem AdJ {c:Prop} {new:List D} {rk:List Key} (l:List Int) (hg:gOn e g=true) (hx:Aa e x=some w) (hww:strip w=(true,w))
  (hv:(view w).run ⟨e,o,n⟩=(c,new)) (hvr:(view w).rd ⟨e,o,n⟩=rk) (hc:c) (hn:new=l.map (.int .u8))
  (h:TrO Γ r (nv+1) ⟨(dst,.str (YJ l))::e,o,n⟩ d (acc++[(gK g++(rdK x++rk),[.e dst],af)]) K t) :
  TrO Γ (⟨some dst,.b2s x,g,af⟩::r) nv ⟨e,o,n⟩ d acc K t:=by
 subst hn
 have hb:(l.map (D.int .u8)).map EO=YJ l:=by simp[EO,YJ]
 refine Al hg (c:=True/\c/\∀ e∈l.map (D.int .u8),∃ n,e= .int .u8 n) (we:=[(dst,.str (YJ l))]) (wo:=[]) (rd:=rdK x++rk) ?_ ?_ ⟨trivial,hc,λz hz=>by obtain⟨u,_,rfl⟩:=List.mem_map.1 hz;exact⟨u,rfl⟩⟩ h
 ·simp only[evalOp,R.run_bind,Aj,aA,hx,hww,hv,R.run_pure,Ad,hb]
 ·simp only[evalOp,R.AF,Aj,AU,aA,hx,hww,hv,hvr,R.Bh,aAC]
theorem AbO {k:IntKind} {m:Int} {kt kk len:Nat} {sp:Spec} (l:List α) (en:α->D) (hds:IU kt=l.map en) (hg:gOn e g=true) (hy:Aa e y=some (.int k m)) (hi:0<=m/\m<len) (hΓ:Γ kk=some sp)
  (h:TrO Γ r (nv+1) ⟨(dst,.fptr (.agg (l.map en)) m.toNat)::e,o,n⟩ d (acc++[(gK g++rdK y,[.e dst],af)]) K t) :
  TrO Γ (⟨some dst,.ixG kt len 1 y,g,af⟩::r) nv ⟨e,o,n⟩ d acc K t:=by
 refine Al hg (c:=True/\0<=m/\m<len/\∃ k sp,Γ k=some sp) (we:=[(dst,.fptr (.agg (l.map en)) m.toNat)]) (wo:=[]) (rd:=rdK y) ?_ ?_ ⟨trivial,hi.1,hi.2,kk,sp,hΓ⟩ h
 ·simp only[evalOp,R.run_bind,Aj,aA,hy,DQ,R.run_pure,Ad,hds,aAQ]
 ·simp only[evalOp,R.AF,Aj,AU,aA,hy,DQ,R.Bh,aAC]
end
section
variable {A B:Type} {Γ:Ar} {X:Type} {K:KR X} {t:Option X} {r:List As} {nv n:Nat} {e:List (Nat×D)} {o:List (Nat×Ac)} {d:Bool} {acc:List Co} {g:Option (Nat×Bool)} {af:List Nat} {dst q:Nat} {x y fa:Arg} {gi vi ty len:Nat} {caps ds:List D} {c:Prop} {w:List (Nat×Ac)} {ps:List (Nat×Nat×Own)} {rk:List Key}
 {ptr:List (Nat×(Nat×Nat))} {enc:A->List D} {dec:List D->A} {f:A->Option B} {encR:B->D} {encE:B->List D} {b:B}
section
attribute [local simp] evalOp Ad AH strip
end
end
open Go.Proofs
def Aau (x:Int):Option Int:=chk (0<=x/\x<18446744073709551616) (some ((Lib.ctz 64 x.toNat:Nat):Int))
def Eb (a:Int):List D:=[.int .u64 a]
def Fb (ds:List D):Int:=uI (ds.getD 0 .top)
theorem KN (a:Int):Fb (Eb a)=a:=rfl
instance:QW Eb Fb:=⟨KN⟩
def My (b:Int):D:=.int .i64 b
def Mx (_b:Int):List D:=[]
def AcC:Dw.Spec:=Ql [] .ground Eb Fb (λa=>Aau a) My Mx
theorem Na:DS=Lib.deBruijn64tab:=by decide
theorem AcD {P:Program} {f g:Nat} (he:Cb P f) (hg:P.globalNamed "math/bits.deBruijn64tab" = some g)
  (h:∀ (x:Nat) (w:World),x<18446744073709551616->(x≠0->TabAt g Lib.deBruijn64tab w)->Calls P f #[.int .u64 (x:Int)] w λe w'=>e= .returned (.int .i64 (Lib.ctz 64 x:Nat))/\w'=w):Qi P f AcC:=by
 intro F0 hG
 refine⟨he,λq hq=>(by cases hq),λ_ _ w F ds vs M hsub hF hfin hA hp=>?_,λφ hφ=>(by cases hφ),hG⟩
 obtain⟨a,b,rfl,hb⟩:=hp
 have hr:0<=a/\a<18446744073709551616:=by
  by_cases hr:0<=a/\a<18446744073709551616
  ·exact hr
  ·simp[Aau,chk,hr]at hb
 have hfa:Aau a=some ((Lib.ctz 64 a.toNat:Nat):Int):=by simp[Aau,chk,hr]
 have hb':(λa=>Aau a) a=some ((Lib.ctz 64 a.toNat:Nat):Int):=hfa
 cases hA with
 | ptr j d ds xs M m hp=>cases hp
 | val j d ds x xs M hp hn hx hr' =>
  cases hx
  cases hr'
  have ht:a.toNat≠0->TabAt g Lib.deBruijn64tab w:=λ_ j hj=>by
   have hj':j<64:=by
    have:Lib.deBruijn64tab.length=64:=by decide
    omega
   rw[<- Na]
   exact hF _ _ _ (hsub _ _ _ (hG.tz hg j hj'))
  have key:=h a.toNat w (by omega) ht
  have e1:((a.toNat:Nat):Int)=a:=by omega
  rw[e1]at key
  refine key.mono ?_
  rintro e w' ⟨rfl,rfl⟩
  refine⟨_,F,λ_ _ _=>False,λ_=>False,rfl,hF,hfin,Stp.refl _ _ _,?_,⟨λk m hm=>by simp at hm,λ_ _ _ h=>h.elim,λ_ _ _ h=>h.elim,λ_ _ _ _ _ h=>h.elim,λ_ _ _ _ h=>h.elim⟩,λ_ _ _ h=>h.elim⟩
  show Fro F ((Ql [] .ground Eb Fb (λa=>Aau a) My Mx).res (Eb a)) _
  rw[BG KN hb']
  exact .int _ _
open Go.RowKit
def VA (n:Int):Option (List UInt8):=chk (-9223372036854775808<=n/\n<=9223372036854775807) (some (Lib.itoa n))
def Vz (u b:Int):Option (List UInt8):=chk (0<=u/\u<18446744073709551616)<|chk (b=10) (some (Lib.decDigits u.toNat))
def AaS (l:List (List UInt8)) (s:List UInt8):Option (List UInt8):=chk (l.length<=140737488355328)<|chk ((Lib.join l s).length<=140737488355328) (some (Lib.join l s))
def FG (a:Int):List D:=[.int .i64 a]
def FF (ds:List D):Int:=uI (ds.getD 0 .top)
theorem Jn (a:Int):FF (FG a)=a:=rfl
instance:QW FG FF:=⟨Jn⟩
def EG (b:List UInt8):D:=.str b
def Gh (_b:List UInt8):List D:=[]
def XA:Dw.Spec:=Ql [] .ground FG FF (λa=>VA a) EG Gh
def FC (a:Int×Int):List D:=[.int .u64 a.1,.int .i64 a.2]
def FB (ds:List D):Int×Int:=(uI (ds.getD 0 .top),uI (ds.getD 1 .top))
theorem Jj (a:Int×Int):FB (FC a)=a:=rfl
instance:QW FC FB:=⟨Jj⟩
def Xy:Dw.Spec:=Ql [] .ground FC FB (λa=>Vz a.1 a.2) EG Gh
def Eh (a:List (List UInt8)×List UInt8):List D:=[.sl (a.1.map D.str),.str a.2]
def Eg (ds:List D):List (List UInt8)×List UInt8:=((uL uS) (ds.getD 0 .top),uS (ds.getD 1 .top))
theorem Jo (a:List (List UInt8)×List UInt8):Eg (Eh a)=a:=by simp[Eg,Eh,uS,VJ (u:=uS) (en:=D.str) (λ_=>rfl)]
instance:QW Eh Eg:=⟨Jo⟩
def ZX:Dw.Spec:=Ql [] .ground Eh Eg (λa=>AaS a.1 a.2) EG Gh
def AcU (l s:List UInt8):Option Int:=match s with
 | [c]=>some (Lib.indexByte l c)
 | _=>none
def GR (a:List UInt8×List UInt8):List D:=[.str a.1,.str a.2]
def GQ (ds:List D):List UInt8×List UInt8:=(uS (ds.getD 0 .top),uS (ds.getD 1 .top))
theorem Kg (a:List UInt8×List UInt8):GQ (GR a)=a:=rfl
instance:QW GR GQ:=⟨Kg⟩
def LU (b:Int):D:=.int .i64 b
def OR (_b:Int):List D:=[]
def Abb:Dw.Spec:=Ql [] .ground GR GQ (λa=>AcU a.1 a.2) LU OR
theorem Gl {P:Program} {k:Nat} {A B:Type} {enc:A->List D} {dec:List D->A} {f:A->Option B} {R:B->D} {val:B->Value} (hv:∀ F b,Fro F (R b) (val b)) (hde:∀ a,dec (enc a)=a) (he:Cb P k)
  (h:∀ F0,UG P F0->∀ a b,f a=some b->∀ (w:World) (F:Fz) (vs:List Value) (M:List Hd),Ag F0 F->Fok F w->(∀ b i x,F b i=some x->b<w.heap.size)->BM F w [] 0 (enc a) vs M ->
   Calls P k vs.toArray w λe w'=>e= .returned (val b)/\Below w.heap.size w w'):Qi P k (Ql [] .ground enc dec f R (λ_=>[])):=by
 intro F0 hG
 refine⟨he,λq hq=>(by cases hq),λ_ _ w F ds vs M hsub hF hfin hA hp=>?_,λφ hφ=>(by cases hφ),hG⟩
 obtain⟨a,b,rfl,hb⟩:=hp
 have hM:=CW rfl hA
 subst hM
 refine(h F0 hG a b hb w F vs [] hsub hF hfin hA).mono ?_
 rintro e w' ⟨rfl,hw⟩
 refine⟨_,F,λ_ _ _=>False,λ_=>False,rfl,λb i x hx=>?_,λb i x hx=>Nat.lt_of_lt_of_le (hfin b i x hx) hw.size,⟨hw.os,hw.tape,hw.output,hw.size,λb hb _=>hw.block b hb,Ag.refl _,λ_ _ _ _=>rfl⟩,?_,
  ⟨λk m hm=>by simp at hm,λ_ _ _ h=>h.elim,λ_ _ _ h=>h.elim,λ_ _ _ _ _ h=>h.elim,λ_ _ _ _ h=>h.elim⟩,λ_ _ _ h=>h.elim⟩
 ·rw[hw.cell (p:=⟨b,i,none⟩) (hfin b i x hx)]
  exact hF b i x hx
 ·show Fro F ((Ql [] .ground enc dec f R (λ_=>[])).res (enc a)) _
  rw[BG hde hb]
  exact hv _ _
theorem EN {P:Program} {k:Nat} {A:Type} {enc:A->List D} {dec:List D->A} {f:A->Option (List UInt8)} (hde:∀ a,dec (enc a)=a) (he:Cb P k)
  (h:∀ F0,UG P F0->∀ a b,f a=some b->∀ (w:World) (F:Fz) (vs:List Value) (M:List Hd),Ag F0 F->Fok F w->(∀ b i x,F b i=some x->b<w.heap.size)->BM F w [] 0 (enc a) vs M ->
   Calls P k vs.toArray w λe w'=>e= .returned (.string ⟨b.toArray⟩)/\Below w.heap.size w w'):Qi P k (Ql [] .ground enc dec f EG Gh) :=
 Gl (R:=EG) (λ_ _=>.str _) hde he h
theorem Acm {P:Program} {f:Nat} (he:Cb P f) (h:∀ (s:ByteArray) (c:UInt8) (w:World),Calls P f #[.string s,.string ⟨#[c]⟩] w λe w'=>e= .returned (.int .i64 (Lib.indexByte s.data.toList c))/\w'=w):Qi P f Abb:=by
 refine Gl (R:=LU) (val:=λb=>.int .i64 b) (λ_ _=>.int _ _) Kg he λF0 hG a b hb w F vs M hsub hF _ hA=>?_
 obtain⟨x,y⟩:=a
 dsimp only[AcU]at hb
 split at hb
 ·rename_i c
  cases hb
  cases hA with
  | ptr j d ds xs M m hp=>cases hp
  | val j d ds x' xs M hp hn hx hr' =>
   cases hx
   cases hr' with
   | ptr j d ds xs M m hp=>cases hp
   | val j d ds x' xs M hp hn hx hr' =>
    cases hx
    cases hr'
    refine(h ⟨x.toArray⟩ c w).mono ?_
    rintro e w' ⟨rfl,rfl⟩
    exact⟨by simp,.refl _ _⟩
 ·cases hb
theorem UG.pow {P:Program} {F:Fz} (h:UG P F) {g:Nat} (hg:P.globalNamed "internal/strconv.uint64pow10" = some g) (j:Nat) (hj:j<20):F g j=some (.int .u64 ((10 ^ j:Nat):Int)):=by
 obtain⟨x,h1,_,h3⟩:=h (CP.getD 1 ("",[])) (by simp[CP]) g hg j (.int .u64 ((10 ^ j:Nat):Int)) (by simp[CP,hj])
 cases h3
 exact h1
def Nd (g:Nat) (w:World):Prop:=∀ j:Nat,j<20->w.cell? ⟨g,j,none⟩=some (.int .u64 ((10 ^ j:Nat):Int))
theorem Dz {α:Type} {p:Prop} [Decidable p] {x:Option α} {b:α} (h:chk p x=some b):p/\x=some b:=by
 unfold chk at h
 split at h
 ·rename_i hp;exact⟨hp,h⟩
 ·cases h
theorem Aca {P:Program} {f g:Nat} (he:Cb P f) (hg:P.globalNamed "internal/strconv.uint64pow10" = some g)
  (h:∀ (n:Int),-9223372036854775808<=n->n<=9223372036854775807->∀ w:World,Nd g w->Calls P f #[.int .i64 n] w λe w'=>e= .returned (.string ⟨(Lib.itoa n).toArray⟩)/\Below w.heap.size w w'):Qi P f XA:=by
 refine EN Jn he λF0 hG a b hb w F vs M hsub hF _ hA=>?_
 obtain⟨hr,hb⟩:=Dz hb
 cases hb
 cases hA with
 | ptr j d ds xs M m hp=>cases hp
 | val j d ds x xs M hp hn hx hr' =>
  cases hx
  cases hr'
  exact h a hr.1 hr.2 w λj hj=>hF _ _ _ (hsub _ _ _ (hG.pow hg j hj))
theorem AbX {P:Program} {f g:Nat} (he:Cb P f) (hg:P.globalNamed "internal/strconv.uint64pow10" = some g)
  (h:∀ (u:Nat),u<18446744073709551616->∀ w:World,Nd g w->Calls P f #[.int .u64 u,.int .i64 10] w λe w'=>e= .returned (.string ⟨(Lib.decDigits u).toArray⟩)/\Below w.heap.size w w'):Qi P f Xy:=by
 refine EN Jj he λF0 hG a b hb w F vs M hsub hF _ hA=>?_
 obtain⟨x,y⟩:=a
 obtain⟨hr,hb⟩:=Dz hb
 obtain⟨hq,hb'⟩:=Dz hb
 cases hb'
 dsimp only at hr hq
 subst hq
 cases hA with
 | ptr j d ds xs M m hp=>cases hp
 | val j d ds x' xs M hp hn hx hr' =>
  cases hx
  cases hr' with
  | ptr j d ds xs M m hp=>cases hp
  | val j d ds x' xs M hp hn hx hr' =>
   cases hx
   cases hr'
   have key:=h x.toNat (by omega) w λj hj=>hF _ _ _ (hsub _ _ _ (hG.pow hg j hj))
   rw[show((x.toNat:Nat):Int)=x by omega]at key
   exact key
theorem Acb {P:Program} {f:Nat} (he:Cb P f)
  (h0:∀ (a:Option Addr) (c:Nat) (s:ByteArray) (w:World),Calls P f #[.slice a 0 c,.string s] w λe w'=>e= .returned (.string ⟨#[]⟩)/\w'=w)
  (h:∀ (b o c:Nat) (xs:List ByteArray) (s:ByteArray) (w:World),(∀ (j:Nat) x,xs[j]? =some x->w.cell? ⟨b,o+j,none⟩=some (.string x))->b<w.heap.size->xs.length<=140737488355328->xs.length<=c->(Lib.join (xs.map (·.data.toList)) s.data.toList).length<=140737488355328 ->
   Calls P f #[.slice (some ⟨b,o,none⟩) xs.length c,.string s] w λe w'=>e= .returned (.string ⟨(Lib.join (xs.map (·.data.toList)) s.data.toList).toArray⟩)/\Below w.heap.size w w'):Qi P f ZX:=by
 refine EN Jo he λF0 hG a b hb w F vs M hsub hF hfin hA=>?_
 obtain⟨l,s⟩:=a
 obtain⟨hr,hb⟩:=Dz hb
 obtain⟨hq,hb'⟩:=Dz hb
 cases hb'
 dsimp only at hr hq ⊢
 have none_:∀ a c,l=[]->Calls P f #[.slice a 0 c,.string ⟨s.toArray⟩] w λe w'=>e= .returned (.string ⟨(Lib.join l s).toArray⟩)/\Below w.heap.size w w':=λa c e=>by
  subst e
  exact(h0 a c _ w).mono λe w' ⟨h1,h2⟩=>⟨h1,h2▸Below.refl _ _⟩
 cases hA with
 | ptr j d ds xs M m hp=>cases hp
 | val j d ds x' xs M hp hn hx hr' =>
  cases hr' with
  | ptr j d ds xs M m hp=>cases hp
  | val j d ds x'' xs M hp hn' hx' hr' =>
   cases hx'
   cases hr'
   dsimp only at hx
   generalize hes:l.map D.str=es at hx
   cases hx with
   | sl0 a c=>exact none_ a c (List.map_eq_nil_iff.1 hes)
   | sl es b o c k vf hc hs hcl h1 hv =>
    subst hes
    rw[aAF]at hc ⊢
    rcases Nat.eq_zero_or_pos l.length with h0'|h0'
    ·rw[h0']
     exact none_ _ c (List.length_eq_zero_iff.1 h0')
    have hk:k=1:=by
     have:=hs (D.str (l[0]'h0')) (List.mem_map.2 ⟨_,List.getElem_mem h0',rfl⟩)
     exact this.symm
    subst hk
    have hce:∀ (j:Nat) x,l[j]? =some x->F b (o+j)=some (.string ⟨x.toArray⟩):=λj x hx=>by
     have a1:(l.map D.str)[j]? =some (D.str x):=by rw[aAA,hx];rfl
     have a2:=hcl j 0 _ _ a1 rfl
     have a3:=hv j 0 _ _ a1 rfl
     rw[aAQ,Nat.add_zero]at a2
     rw[a2]
     generalize vf j 0=z at a3
     cases a3
     rfl
    have key:=h b o c (l.map λs=>(⟨s.toArray⟩:ByteArray)) ⟨s.toArray⟩ w (λj x hx=>by
     rw[aAA,aAH]at hx
     obtain⟨y,hy,rfl⟩:=hx
     exact hF _ _ _ (hce j y hy)) (hfin _ _ _ (hce 0 _ (aAE h0'))) (by rw[aAF];exact hr) (by rw[aAF];exact hc)
    have e:(l.map λs=>(⟨s.toArray⟩:ByteArray)).map (·.data.toList)=l:=by simp[Function.comp_def]
    rw[e,aAF]at key
    exact key hq
end Go.Dw
namespace Go.Proofs
open Go.Shelf Go.RowKit Go.Lib
open Go.Dw (QV)
structure Up (w:World) (b:Nat) (w':World):Prop where
 os:w'.os=w.os
 tape:w'.tape=w.tape
 output:w'.output=w.output
 size:w.heap.size<=w'.heap.size
 QA:∀ k,k<w.heap.size->¬ QV w b k->w'.heap[k]? =w.heap[k]?
 new:∀ k,QV w' b k->QV w b k\/(w.heap.size<=k/\k<w'.heap.size)
theorem Up.refl (w:World) (b:Nat):Up w b w:=⟨rfl,rfl,rfl,aAP _,λ_ _ _=>rfl,λ_ h=>.inl h⟩
section
variable {P:Program} {w:World} {e t u:TypeId} {i:TypeInfo}
theorem JO (ty:TypeId) (ht:P.underlying t=some (.slice e)) (hu:P.underlying u=some .string) (hi:P.info? e=some i) (hz:i.zero=some (.int .u8 0)) (hsize:i.size=1) (hby:i.bytes=1)
  (v:Value) (n:Nat) (xs:List Value) (hown:w.ownsRowF 0 e 1 v n xs) (s:ByteArray) (h63:n+s.size<=maxLen) (hbytes:n+s.size<=140737488355328) :
  ∃ v' w',(Builtin.append_ #[t,u] ty #[v,.string s]).run P w= .ok v' w'/\w'.ownsRowF 0 e 1 v' (n+s.size) (xs++strCells s)/\w.grownBy w' v.ownBlock/\(v'.ownBlock=v.ownBlock\/∀ k,v'.ownBlock=some k->w.heap.size<=k):=by
 rcases hown.2 with⟨rfl,rfl⟩|⟨g,cap,cur,fz,rfl,hbg,hg,hfz,hnc,hcm,hcs,htake⟩
 ·obtain⟨v',w',h1,h2,h3,_⟩:=run_append_own_string (P:=P) w w.heap.size t u ty e i ht hu hi hz hsize hby (.slice none 0 0) 0 xs ⟨hown.1,.inl ⟨rfl,rfl⟩⟩ s h63 hbytes (aAP _)
  refine⟨v',w',h1,⟨h2.1,(World.ownsRowF_of h2).2.imp id λ⟨g,cap,cur,fz,a,_,b⟩=>⟨g,cap,cur,fz,a,aAI _,b⟩⟩,h3,.inr λk hk=>(h2.lt k hk).1⟩
 ·have hxl:xs.length=n:=by simpa using hown.1
  have hlen:(xs++strCells s).length=(n+s.size)*1:=by rw[aAJ,hxl,strCells_length,aAQ]
  by_cases hroom:n+s.size<=cap
  ·have hcs':cur.size=cap:=by simpa using hcs
   have hr:=run_append_room_stringF (P:=P) w t u ty e i ht hu hi hsize g n cap cur fz hg (by simpa using hfz) s hroom (by omega)
   refine⟨_,_,hr,⟨hlen,.inr ⟨g,cap,_,fz,rfl,hbg,setRow_heap w g cur _ e _ hg,by omega,hroom,hcm,?_,?_⟩⟩,⟨rfl,rfl,rfl,by simp,λk _ hk=>setRow_other w g k _ (λe=>hk (by simp[Value.ownBlock,e]))⟩,.inl rfl⟩
   ·simp only[aAK,aAJ,List.length_take,List.length_drop,Array.length_toList,strCells_length]
    omega
   ·have ht':cur.toList.take n=xs:=by simpa using htake
    rw[ht',<- hlen]
    exact aAO
  ·have hsmall:n+s.size<=9223372036854775807:=by simp only[maxLen]at h63;omega
   have holds:∀ j u,xs[j]? =some u->w.cell? ((⟨g,0,none⟩:Addr).add j)=some u:=hown.cells (g:=g) rfl
   have hr:=run_append_grow_string (P:=P) w t u ty e i (.int .u8 0) ht hu hi hz ⟨g,0,none⟩ n cap xs (by rw[hsize];simpa using hxl) holds s (by omega) (by omega) (by rw[hby];exact growslice_fits (by omega) (by omega))
   have hge:=grownCap_ge w (n+s.size) cap e
   have hcm2:grownCap w (n+s.size) cap e<=maxLen:=grownCap_le_maxLen w (n+s.size) cap e h63
   refine⟨_,_,hr,⟨hlen,.inr ⟨w.heap.size,_,_,(0,0),rfl,aAI _,heap_alloc_new w.drew _,aAI _,hge,hcm2,?_,?_⟩⟩,⟨rfl,rfl,rfl,by simp,λk hk _=>Below.heap_alloc w.drew _ k hk⟩,.inr λk hk=>by cases hk;exact aAP _⟩
   ·have hz1:(Value.int IntKind.u8 0).cells.size=1:=rfl
    simp only[Array.size_append,aAK,size_zeroCells,hz1,hxl,strCells_length]
    omega
   ·simp only[Array.toList_append,aAL]
    rw[<- aAL,<- hlen]
    exact aAO
theorem Ip {ops:Array Oper} {rest:List Oper} {o:Oper} {a:Act} {Q:Exit->Act->World->Prop} (hgd:o.guard=none) (sl x:Operand) (t u:TypeId)
  (ho:o.op= .call { callee:=.builtin .append,args:=#[sl,x],argTypes:=#[t,u] }) (e:TypeId) (i:TypeInfo) (ht:P.underlying t=some (.slice e)) (hu:P.underlying u=some .string) (hi:P.info? e=some i) (hz:i.zero=some (.int .u8 0))
  (hsize:i.size=1) (hby:i.bytes=1) (v:Value) (n:Nat) (xs:List Value) (hs:a.eval sl=v) (hown:w.ownsRowF 0 e 1 v n xs) (s:ByteArray) (hx:a.eval x= .string s) (h63:n+s.size<=maxLen) (hbytes:n+s.size<=140737488355328)
  (h:∀ v' w',w'.ownsRowF 0 e 1 v' (n+s.size) (xs++strCells s)->w.grownBy w' v.ownBlock->(v'.ownBlock=v.ownBlock\/∀ k,v'.ownBlock=some k->w.heap.size<=k)->wpList P ops Q rest (a.put o.dst v') w'):wpList P ops Q (o::rest) a w:=by
 refine wpList_plain hgd λK hK=>?_
 obtain⟨v',w',hr,h2,h3,h4⟩:=JO (P:=P) o.type ht hu hi hz hsize hby v n xs hown s h63 hbytes
 unfold Oper.wp execOp
 simp only[ho,resolve,invoke,builtin,Sem.run_bind,Sem.run_pure,Result.andThen_ok,List.map_toArray,List.map_cons,List.map_nil,hs,hx,hr]
 exact hK _ _ (h v' w' h2 h3 h4)
theorem JN (ty:TypeId) (ht:P.underlying t=some (.slice e)) (hi:P.info? e=some i) (hz:i.zero=some (.int .u8 0)) (hsize:i.size=1) (hby:i.bytes=1)
  (v:Value) (n:Nat) (xs:List Value) (hown:w.ownsRowF 0 e 1 v n xs) (a:Addr) (c:Nat) (u:Value) (hnew:w.cell? a=some u) (h1:u.oneCell'=true) (h63:n+1<=maxLen) (hbytes:n+1<=140737488355328) :
  ∃ v' w',(Builtin.append_ #[t,t] ty #[v,.slice (some a) 1 c]).run P w= .ok v' w'/\w'.ownsRowF 0 e 1 v' (n+1) (xs++[u])/\w.grownBy w' v.ownBlock/\(v'.ownBlock=v.ownBlock\/∀ k,v'.ownBlock=some k->w.heap.size<=k):=by
 have hnews:∀ (j:Nat) (z:Value),[u][j]? =some z->w.cell? (a.add j)=some z:=λj z hj=>by
  match j,hj with
  | 0,hj=>simp at hj;subst hj;simpa[Addr.add]using hnew
 have hone:∀ z∈[u],z.oneCell'=true:=λz hz=>by rw[List.mem_singleton]at hz;subst hz;exact h1
 rcases hown.2 with⟨rfl,rfl⟩|⟨g,cap,cur,fz,rfl,hbg,hg,hfz,hnc,hcm,hcs,htake⟩
 ·obtain⟨v',w',r1,r2,r3,_⟩:=run_append_own (P:=P) w w.heap.size t ty e i (.int .u8 0) 1 1 ht hi hz hsize hby rfl (by decide) (.slice none 0 0) 0 xs ⟨hown.1,.inl ⟨rfl,rfl⟩⟩ a 1 c [u] rfl hnews hone h63 (by omega) (aAP _)
  refine⟨v',w',r1,⟨r2.1,(World.ownsRowF_of r2).2.imp id λ⟨g,cap,cur,fz,a,_,b⟩=>⟨g,cap,cur,fz,a,aAI _,b⟩⟩,r3,.inr λk hk=>(r2.lt k hk).1⟩
 ·have hsmall:n+1<=9223372036854775807:=by simp only[maxLen]at h63;omega
  have hxl:xs.length=n:=by simpa using hown.1
  have hlen:(xs++[u]).length=(n+1)*1:=by simp[hxl]
  by_cases hroom:n+1<=cap
  ·have hcs':cur.size=cap:=by simpa using hcs
   have hr:=run_append_roomF (P:=P) w t ty e i ht hi g n cap cur fz hg (by rw[hsize];exact hfz) a 1 c [u] (by rw[hsize];rfl) hnews hone hroom (by rw[hsize];simp;omega)
   rw[hsize,aAQ]at hr
   refine⟨_,_,hr,⟨hlen,.inr ⟨g,cap,_,fz,rfl,hbg,setRow_heap w g cur _ e _ hg,by omega,hroom,hcm,?_,?_⟩⟩,⟨rfl,rfl,rfl,by simp,λk _ hk=>setRow_other w g k _ (λe=>hk (by simp[Value.ownBlock,e]))⟩,.inl rfl⟩
   ·simp only[aAK,aAJ,List.length_take,List.length_drop,Array.length_toList,List.length_cons,List.length_nil]
    omega
   ·have ht':cur.toList.take n=xs:=by simpa using htake
    rw[ht',<- hlen]
    exact aAO
  ·have holds:∀ j u,xs[j]? =some u->w.cell? ((⟨g,0,none⟩:Addr).add j)=some u:=hown.cells (g:=g) rfl
   have hr:=run_append_grow (P:=P) w t ty e i (.int .u8 0) ht hi hz ⟨g,0,none⟩ n cap xs (by rw[hsize];simpa using hxl) holds a 1 c [u] (by rw[hsize];rfl) hnews (by omega) (by omega) (growslice_fits (by omega) (by rw[hby];omega))
   have hge:=grownCap_ge w (n+1) cap e
   have hcm2:grownCap w (n+1) cap e<=maxLen:=grownCap_le_maxLen w (n+1) cap e h63
   refine⟨_,_,hr,⟨hlen,.inr ⟨w.heap.size,_,_,(0,0),rfl,aAI _,heap_alloc_new w.drew _,aAI _,hge,hcm2,?_,?_⟩⟩,⟨rfl,rfl,rfl,by simp,λk hk _=>Below.heap_alloc w.drew _ k hk⟩,.inr λk hk=>by cases hk;exact aAP _⟩
   ·have hz1:(Value.int IntKind.u8 0).cells.size=1:=rfl
    simp only[Array.size_append,aAK,size_zeroCells,hz1,hxl,List.length_cons,List.length_nil]
    omega
   ·simp only[Array.toList_append,aAL]
    rw[<- aAL,<- hlen]
    exact aAO
theorem Aax {ops:Array Oper} {rest:List Oper} {o:Oper} {a:Act} {Q:Exit->Act->World->Prop} (hgd:o.guard=none) (sl x:Operand) (t:TypeId)
  (ho:o.op= .call { callee:=.builtin .append,args:=#[sl,x],argTypes:=#[t,t] }) (e:TypeId) (i:TypeInfo) (ht:P.underlying t=some (.slice e)) (hi:P.info? e=some i) (hz:i.zero=some (.int .u8 0))
  (hsize:i.size=1) (hby:i.bytes=1) (v:Value) (n:Nat) (xs:List Value) (hs:a.eval sl=v) (hown:w.ownsRowF 0 e 1 v n xs) (ad:Addr) (c:Nat) (u:Value) (hx:a.eval x= .slice (some ad) 1 c) (hnew:w.cell? ad=some u) (h1:u.oneCell'=true) (h63:n+1<=maxLen) (hbytes:n+1<=140737488355328)
  (h:∀ v' w',w'.ownsRowF 0 e 1 v' (n+1) (xs++[u])->w.grownBy w' v.ownBlock->(v'.ownBlock=v.ownBlock\/∀ k,v'.ownBlock=some k->w.heap.size<=k)->wpList P ops Q rest (a.put o.dst v') w'):wpList P ops Q (o::rest) a w:=by
 refine wpList_plain hgd λK hK=>?_
 obtain⟨v',w',hr,h2,h3,h4⟩:=JN (P:=P) o.type ht hi hz hsize hby v n xs hown ad c u hnew h1 h63 hbytes
 unfold Oper.wp execOp
 simp only[ho,resolve,invoke,builtin,Sem.run_bind,Sem.run_pure,Result.andThen_ok,List.map_toArray,List.map_cons,List.map_nil,hs,hx,hr]
 exact hK _ _ (h v' w' h2 h3 h4)
end
section
variable {P:Program} {ρ:Ren}
structure ZS (P:Program) (ρ:Ren) (T:TypeId):Prop where
 lies:liesAt P P.depth T (2 / P.cellsOf T) 0 (ρ.t 72) 1=true
 ne:T≠ρ.t 5
theorem JK (L:Lays.n240 P ρ) (X:Builder.X72 P ρ) {T:TypeId} (hT:ZS P ρ T) (b:Nat) (w:World) (h0:w.cell? ⟨b,0,none⟩=some (.pointer none)) (hsh:w.shape? b=some (T,2)) (hfz:w.frozen? ⟨b,0,none⟩=false) :
  Calls P (ρ.f 240) #[.pointer (some ⟨b,0,none⟩)] w λe w'=>e= .returned (.tuple #[])/\w'=w.setCell ⟨b,0,none⟩ (.pointer (some ⟨b,0,none⟩)):=by
 obtain⟨j,hj,hjs⟩:=aAH.1 X.sizeBuilder
 have mixed:=L.mixed
 have t72:=L.t72;have a72:=L.a72;have z72:=L.z72;have v72:=L.v72;have u72:=run_underlying L.t72
 have t70:=L.t70;have a70:=L.a70;have z70:=L.z70;have v70:=L.v70;have u70:=run_underlying L.t70
 have t9:=L.t9;have a9:=L.a9;have z9:=L.z9;have v9:=L.v9;have u9:=run_underlying L.t9
 have t4:=L.t4;have a4:=L.a4;have z4:=L.z4;have v4:=L.v4;have u4:=run_underlying L.t4
 have t164:=L.t164;have a164:=L.a164;have z164:=L.z164;have v164:=L.v164;have u164:=run_underlying L.t164
 go_enter L.f240,Body.n240_ntmps ρ
 go_wp2
 rw[Lib.run_to_unsafe w ⟨b,0,none⟩ L.t70 L.t164 hj (by rw[hjs];decide) hsh (Nat.zero_lt_succ 1)]
 simp only[Result.andThen]
 rw[Oper.upon_value]
 go_wp2
 rw[run_callFunc_extern L.f276 (by kernel_rfl) (by kernel_rfl) (by kernel_rfl) (e:=Extern.AbiNoEscape.same) (by kernel_rfl)]
 rw[Lib.run_noEscape]
 simp only[Result.andThen]
 rw[Oper.upon_value]
 go_wp2
 rw[Lib.run_from_unsafe w ⟨b,0,none⟩ L.t164 L.t70 hj hsh hT.lies]
 simp only[Result.andThen]
 rw[Oper.upon_value]
 go_wp2
 go_end0
 exact⟨rfl,rfl⟩
theorem Aaz (L:Lays.n240 P ρ) (X:Builder.X72 P ρ) {T:TypeId} (hT:ZS P ρ T) (b:Nat) (bs:List Value) (w:World) (h:Lib.IsBuilderF T (ρ.t 5) 0 b bs w) :
  Calls P (ρ.f 240) #[.pointer (some ⟨b,0,none⟩)] w λe w'=>e= .returned (.tuple #[])/\Lib.BuilderAtF T (ρ.t 5) 0 b (.pointer (some ⟨b,0,none⟩)) bs w'/\(w'=w\/w'=w.setCell ⟨b,0,none⟩ (.pointer (some ⟨b,0,none⟩))):=by
 rcases h with h|h
 ·refine(JK L X hT b w h.cell0 h.shape h.frozen0).mono ?_
  rintro e w' ⟨rfl,rfl⟩
  exact⟨rfl,h.used _,.inr rfl⟩
 ·refine(Any.Builder_copyCheck_used L X b w h.cell0).mono ?_
  rintro e w' ⟨rfl,rfl⟩
  exact⟨rfl,h,.inl rfl⟩
set_option maxHeartbeats 2000000 in
set_option maxRecDepth 100000 in
theorem Acj (L:Lays.n166 P ρ) (X:Builder.Extra P ρ) {T:TypeId} (hT:ZS P ρ T) (b:Nat) (l:List UInt8) (s:ByteArray) (w:World) (h:Lib.IsBuilderF T (ρ.t 5) 0 b (Lib.byteCells l) w) (hlen:l.length+s.size<=140737488355328) :
  Calls P (ρ.f 166) #[.pointer (some ⟨b,0,none⟩),.string s] w λe w'=>e= .returned (.tuple #[.int .i64 s.size,.nilIface])/\Lib.IsBuilderF T (ρ.t 5) 0 b (Lib.byteCells l++Lib.strCells s) w'/\Up w b w':=by
 obtain⟨i0,hi,hz0,hz1,hz2⟩:=info_parts X.infoByte
 have mixed:=L.mixed
 have t72:=L.t72;have a72:=L.a72;have z72:=L.z72;have v72:=L.v72;have u72:=run_underlying L.t72
 have t70:=L.t70;have a70:=L.a70;have z70:=L.z70;have v70:=L.v70;have u70:=run_underlying L.t70
 have t37:=L.t37;have a37:=L.a37;have z37:=L.z37;have v37:=L.v37;have u37:=run_underlying L.t37
 have t3:=L.t3;have a3:=L.a3;have z3:=L.z3;have v3:=L.v3;have u3:=run_underlying L.t3
 have t9:=L.t9;have a9:=L.a9;have z9:=L.z9;have v9:=L.v9;have u9:=run_underlying L.t9
 have t4:=L.t4;have a4:=L.a4;have z4:=L.z4;have v4:=L.v4;have u4:=run_underlying L.t4
 have t164:=L.t164;have a164:=L.a164;have z164:=L.z164;have v164:=L.v164;have u164:=run_underlying L.t164
 have t5:=X.t5;have a5:=X.a5;have z5:=X.z5;have v5:=X.v5;have u5:=run_underlying X.t5
 have e240:∀ args w,(callFunc (ρ.f 240) args).run P w= .ok (.enter (ρ.f 240) args) w:=enters_of L.f240 (by kernel_rfl) rfl
 have hbl:(Lib.byteCells l).length=l.length:=Lib.byteCells_length l
 obtain⟨p0,v0,hw0⟩:∃ p v,w.heap[b]? =some (.cells #[p,v] T (0,0)):=by
  rcases h with⟨_,v,h,_⟩|⟨_,v,h,_⟩
  ·exact⟨_,v,h⟩
  ·exact⟨_,v,h⟩
 have HW0:=Lib.hid hw0
 clear hw0
 go_enter L.f166,Body.n166_ntmps ρ
 go_wp2_with (go_at_fn (ρ.f 240);refine(Aaz { L with } X.toX72 hT b (Lib.byteCells l) _ h).mono ?_)
 rintro e w1 ⟨rfl,h1,hw1⟩
 have HW1:=Lib.hid hw1
 clear hw1
 obtain⟨hB,v,hbk,hown,hne⟩:=h1
 have c0:w1.cell? ⟨b,0,none⟩=some (.pointer (some ⟨b,0,none⟩)):=by rw[Lib.cell_of_heap hbk];rfl
 have c1:w1.cell? ⟨b,1,none⟩=some v:=by rw[Lib.cell_of_heap hbk];rfl
 go_wp2_with (at_builtin;refine Ip rfl _ _ (ρ.t 37) (ρ.t 9) rfl (ρ.t 5) i0 L.t37 L.t9 hi hz0 hz1 hz2 _ _ _ rfl hown s rfl ?c3 ?c4 ?_)
 case c3=>rw[hbl];unfold maxLen;omega
 case c4=>rw[hbl];omega
 intro v' w2 hown' hgrow hloc
 have hlt:b<w1.heap.size:=by
  rcases Nat.lt_or_ge b w1.heap.size with h'|h'
  ·exact h'
  ·simp[Array.getElem?_eq_none h']at hbk
 have hb2:w2.heap[b]? =some (.cells #[.pointer (some ⟨b,0,none⟩),v] T (0,0)):=by
  rw[hgrow.block b hlt (λe=>hne e.symm)]
  exact hbk
 have d0:w2.cell? ⟨b,0,none⟩=some (.pointer (some ⟨b,0,none⟩)):=by rw[Lib.cell_of_heap hb2];rfl
 have d1:w2.cell? ⟨b,1,none⟩=some v:=by rw[Lib.cell_of_heap hb2];rfl
 have f1:w2.frozen? ⟨b,1,none⟩=false:=Lib.frozen_of_heap hb2 1
 have HL:=Lib.hid hloc
 clear hloc
 obtain⟨ao,n',cap,rfl⟩:∃ ao n' cap,v'= .slice ao n' cap:=by
  rcases hown'.2 with⟨hv,_⟩|⟨g,cap,cur,fz,hv,_⟩
  ·exact⟨_,_,_,hv⟩
  ·exact⟨_,_,_,hv⟩
 go_wp2
 go_ret2
 have hfin:=Lib.BuilderAtF.put (T:=T) (e:=(ρ.t 5)) (aAI b) hb2 (bs':=Lib.byteCells l++Lib.strCells s) (by rw[aAJ,Lib.byteCells_length,Lib.strCells_length];exact hown') hT.ne
 refine⟨rfl,.inr hfin,?_⟩
 have hw1:=HW1.out
 have hw0:=HW0.out
 have s1:w1.heap.size=w.heap.size:=by rcases hw1 with rfl|rfl<;>simp
 have b1:∀ k,k≠b->w1.heap[k]? =w.heap[k]?:=by
  intro k hk
  rcases hw1 with rfl|rfl
  ·rfl
  ·exact Below.heap_setCell w _ _ k hk
 have vv:v0=v:=by
  have e1:w1.cell? ⟨b,1,none⟩=some v0:=by
   rcases hw1 with rfl|rfl
   ·rw[Lib.cell_of_heap hw0];rfl
   ·rw[World.cell?_setCell_other _ _ _ _ (by simp),Lib.cell_of_heap hw0];rfl
  rw[c1]at e1
  exact(Option.some.inj e1).symm
 subst vv
 have old:∀ k,v0.ownBlock=some k->QV w b k:=by
  intro k hk
  rcases hown.2 with⟨rfl,_⟩|⟨g,cap,cur,fz,rfl,_⟩
  ·cases hk
  ·cases hk
   exact .inr ⟨_,_,_,_,hw0⟩
 have e1:w1.os=w.os/\w1.tape=w.tape/\w1.output=w.output:=by rcases hw1 with rfl|rfl<;>exact⟨rfl,rfl,rfl⟩
 refine⟨hgrow.os.trans e1.1,hgrow.tape.trans e1.2.1,hgrow.output.trans e1.2.2,by have:=hgrow.size;simp;omega,λk hk hn=>?_,λk hk=>?_⟩
 ·have hkb:k≠b:=λe=>hn (.inl e)
  rw[Below.heap_setCell w2 _ _ k hkb,hgrow.block k (by omega) (λe=>hn (old k e.symm)),b1 k hkb]
 ·rcases hk with rfl|⟨p,n,c,T',hk⟩
  ·exact .inl (.inl rfl)
  ·obtain⟨_,v3,hv3,hown3,_⟩:=hfin
   have e2:v3= .slice ao n' cap:=by
    have:(w2.setCell ⟨b,1,none⟩ (.slice ao n' cap)).cell? ⟨b,1,none⟩=some (.slice ao n' cap):=World.cell?_setCell_same _ _ _ d1
    rw[Lib.cell_of_heap hv3]at this
    simpa using this
   subst e2
   rw[hv3]at hk
   cases hk
   rcases HL.out with e|e
   ·exact .inl (old k (e▸rfl))
   ·refine .inr ⟨by rw[<- s1];exact e k rfl,?_⟩
    exact(hown3.lt k rfl).2
set_option maxHeartbeats 2000000 in
set_option maxRecDepth 100000 in
theorem AcJ (L:Lays.n169 P ρ) (X:Builder.Extra P ρ) {T:TypeId} (hT:ZS P ρ T) (b:Nat) (l:List UInt8) (w:World) (h:Lib.IsBuilderF T (ρ.t 5) 0 b (Lib.byteCells l) w) (h0:l≠[]) :
  Calls P (ρ.f 169) #[.pointer (some ⟨b,0,none⟩)] w λe w'=>e= .returned (.string ⟨l.toArray⟩)/\Lib.IsBuilderF T (ρ.t 5) 0 b (Lib.byteCells l) w'/\Up w b w':=by
 obtain⟨p,hp,hAt⟩:∃ p,(p= .pointer none\/p= .pointer (some ⟨b,0,none⟩))/\Lib.BuilderAtF T (ρ.t 5) 0 b p (Lib.byteCells l) w:=by
  rcases h with h|h
  ·exact⟨_,.inl rfl,h⟩
  ·exact⟨_,.inr rfl,h⟩
 obtain⟨hB,v,hbk,hown,hne⟩:=hAt
 have hl0:l.length≠0:=by simpa using h0
 rw[Lib.byteCells_length]at hown
 obtain⟨g,cap,cur,fz,rfl,hbg,hg,hfz,hnc,hcm,hcs,htake⟩:∃ g cap cur fz,v= .slice (some ⟨g,0,none⟩) l.length cap/\0<=g/\w.heap[g]? =some (.cells cur (ρ.t 5) fz)/\fz.2<=l.length*1/\l.length<=cap/\cap<=maxLen/\cur.size=cap*1/\cur.toList.take (l.length*1)=Lib.byteCells l:=by
  rcases hown.2 with⟨_,hz⟩|⟨g,cap,cur,fz,hv,r⟩
  ·exact absurd hz hl0
  ·exact⟨g,cap,cur,fz,hv,r⟩
 have hgb:g≠b:=λe=>hne (by rw[e];rfl)
 have c1:w.drew.cell? ⟨b,1,none⟩=some (.slice (some ⟨g,0,none⟩) l.length cap):=by
  have:w.drew.heap[b]? =some (.cells #[p,.slice (some ⟨g,0,none⟩) l.length cap] T (0,0)):=hbk
  rw[Lib.cell_of_heap this];rfl
 have hSD:(Builtin.unsafeSliceData_ #[(ρ.t 37)] (ρ.t 127) #[.slice (some ⟨g,0,none⟩) l.length cap]).run P w.drew= .ok (.pointer (some ⟨g,0,none⟩)) w.drew :=
  Lib.run_unsafeSliceData_row _ _ _ _ _ _ (by omega)
 have hUS:(Builtin.unsafeString_ #[(ρ.t 127),(ρ.t 3)] (ρ.t 9) #[.pointer (some ⟨g,0,none⟩),.int .i64 l.length]).run P w.drew= .ok (.string ⟨l.toArray⟩) (w.drew.freeze ⟨g,0,none⟩ l.length):=by
  refine Lib.run_unsafeString_row w.drew (ρ.t 127) (ρ.t 3) (ρ.t 9) (ρ.t 5) L.t127 X.cellsByte g cur.size (by have hg':w.drew.heap[g]? =some (.cells cur (ρ.t 5) fz):=hg;simp[World.shape?,hg']) l h0 (by omega) (by unfold maxLen at hcm;omega) ?_
  intro j x hx
  have:=hown.cells (g:=g) rfl j (.int .u8 x.toNat) (by simp[Lib.byteCells,hx])
  exact this
 have hkeep:Lib.IsBuilderF T (ρ.t 5) 0 b (Lib.byteCells l) (w.drew.freeze ⟨g,0,none⟩ l.length):=by
  have hA:Lib.BuilderAtF T (ρ.t 5) 0 b p (Lib.byteCells l) w.drew:=⟨hB,_,hbk,by rw[Lib.byteCells_length];exact hown,hne⟩
  have hF:=hA.froze (g:=g) (cap:=cap) (by rw[Lib.byteCells_length];exact c1)
  rw[Lib.byteCells_length]at hF
  rcases hp with rfl|rfl
  ·exact .inl hF
  ·exact .inr hF
 have hb0:∀ k,k≠g->(w.drew.freeze ⟨g,0,none⟩ l.length).heap[k]? =w.heap[k]?:=λk hk=>by
  unfold World.freeze
  rw[if_neg hl0]
  show(w.drew.heap.modify g _)[k]? =_
  rw[Array.getElem?_modify,if_neg (Ne.symm hk)]
  rfl
 have hst:Up w b (w.drew.freeze ⟨g,0,none⟩ l.length):=by
  have hz:=Lib.below_freeze (B:=0) (Below.drew (Below.refl 0 w)) (p:=⟨g,0,none⟩) (aAI _) l.length
  refine⟨hz.os,hz.tape,hz.output,hz.size,λk _ hn=>hb0 k λe=>hn (.inr ⟨p,l.length,cap,T,by subst e;exact hbk⟩),λk hk=>.inl (hk.of (hb0 b (Ne.symm hgb)))⟩
 have HK:=Lib.hid hkeep
 have HS:=Lib.hid hst
 clear hkeep hst hb0
 have mixed:=L.mixed
 have t72:=L.t72;have a72:=L.a72;have z72:=L.z72;have v72:=L.v72;have u72:=run_underlying L.t72
 have t70:=L.t70;have a70:=L.a70;have z70:=L.z70;have v70:=L.v70;have u70:=run_underlying L.t70
 have t37:=L.t37;have a37:=L.a37;have z37:=L.z37;have v37:=L.v37;have u37:=run_underlying L.t37
 have t127:=L.t127;have a127:=L.a127;have z127:=L.z127;have v127:=L.v127;have u127:=run_underlying L.t127
 have t3:=L.t3;have a3:=L.a3;have z3:=L.z3;have v3:=L.v3;have u3:=run_underlying L.t3
 have t9:=L.t9;have a9:=L.a9;have z9:=L.z9;have v9:=L.v9;have u9:=run_underlying L.t9
 have t5:=X.t5;have a5:=X.a5;have z5:=X.z5;have v5:=X.v5;have u5:=run_underlying X.t5
 go_enter L.f169,Body.n169_ntmps ρ
 go_wp2
 go_region_o
 all_goals (go_wp2;go_ret;exact⟨rfl,HK.out,HS.out⟩)
end
end Go.Proofs
namespace Go.Dw
open Go.Proofs Go.RowKit
section
variable {N:Nat} {w0:World} {F0:Fz} {M:Nat->Prop} {B0:Bt} {σ:S} {F:Fz} {β:Bt} {a:Act} {w:World} {P:Program}
def QF (T u:Nat) (l:List UInt8):List D:=[.str l,.int .i64 (.ofNat T),.int .i64 (.ofNat u)]
theorem GJ (h:Az N w0 F0 M B0 σ F β a w) {g v T u:Nat} {l:List UInt8} {x:Value} (hx:Val F β (.mref g v) x) (hg:σ.go g=some (v,⟨true,false,0,2,QF T u l⟩)) :
  ∃ b,x= .pointer (some ⟨b,0,none⟩)/\β v=some ⟨none,2,b⟩/\Lib.IsBuilderF T u 0 b (Lib.byteCells l) w:=by
 obtain⟨w1,F1,M1,B1,hb,hS,hm⟩:=h
 obtain⟨L,hL,_,hx⟩:=hx
 obtain⟨_,b,h2,_,h6⟩:=hm.at_ g v _ hg rfl
 have:=hS.nam _ _ h2
 rw[hL]at this;cases this
 rcases h6 with h6|h6|h6
 ·cases h6.1
 ·cases h6.1
 ·obtain⟨l',T',u',e,hB⟩:=h6.2
  simp only[QF,List.cons.injEq,D.str.injEq,D.int.injEq,true_and,and_true]at e
  obtain⟨rfl,e1,e2⟩:=e
  have e1:T=T':=Int.ofNat.inj e1
  have e2:u=u':=Int.ofNat.inj e2
  subst e1;subst e2
  exact⟨b,hx.elim (λh=>by cases h.1) (·.2),hL,hB⟩
theorem Az.bld (h:Az N w0 F0 M B0 σ F β a w) {g v T u b:Nat} {l l':List UInt8} (hg:σ.go g=some (v,⟨true,false,0,2,QF T u l⟩)) (hβ:β v=some ⟨none,2,b⟩) {w':World} (hs:Up w b w') (hB:Lib.IsBuilderF T u 0 b (Lib.byteCells l') w') :
  Az N w0 F0 M B0 ⟨σ.e,(g,some (v,⟨true,false,0,2,QF T u l'⟩))::σ.o,σ.n⟩ F β a w' :=
 h.Pb hg rfl hβ hs.os hs.tape hs.output hs.size hs.QA (.inr (.inr ⟨rfl,l',T,u,rfl,hB⟩)) hs.new
def AcO (T u:Nat):List D->S->(D->S->Prop)->Prop:=λds σ K=>∃ g v l s,ds=[.mref g v,.str s]/\σ.go g=some (v,⟨true,false,0,2,QF T u l⟩)/\l.length+s.length<=16777216 /\
 K (.tup [.int .i64 (s.length:Nat),.top]) ⟨σ.e,(g,some (v,⟨true,false,0,2,QF T u (l++s)⟩))::σ.o,σ.n⟩
def AcM (T u:Nat):List D->S->(D->S->Prop)->Prop:=λds σ K=>∃ (g v:Nat) (l:List UInt8) (c:Nat),ds=[.mref g v,.int .u8 (c:Int)]/\σ.go g=some (v,⟨true,false,0,2,QF T u l⟩)/\c<256/\l.length+1<=16777216 /\
 K .top ⟨σ.e,(g,some (v,⟨true,false,0,2,QF T u (l++[aAN c])⟩))::σ.o,σ.n⟩
def AcK (T u:Nat):List D->S->(D->S->Prop)->Prop:=λds σ K=>∃ g v l,ds=[.mref g v]/\σ.go g=some (v,⟨true,false,0,2,QF T u l⟩)/\l≠[]/\K (.str l) ⟨σ.e,(g,some (v,⟨true,false,0,2,QF T u l⟩))::σ.o,σ.n⟩
def TT (φ:List D->S->(D->S->Prop)->Prop):Spec:=⟨[],.opn φ,λ_=>False,λ_=>.top,λ_=>[]⟩
theorem Ik (s:List UInt8):Lib.strCells ⟨s.toArray⟩=Lib.byteCells s:=by simp[Lib.strCells,Lib.byteCells]
theorem GK (l s:List UInt8):Lib.byteCells l++Lib.byteCells s=Lib.byteCells (l++s):=by simp[Lib.byteCells]
theorem AcP {f T u:Nat} (he:Cb P f) (h:∀ (b:Nat) (l:List UInt8) (s:ByteArray) (w:World),Lib.IsBuilderF T u 0 b (Lib.byteCells l) w->l.length+s.size<=140737488355328 ->
  Calls P f #[.pointer (some ⟨b,0,none⟩),.string s] w λe w'=>e= .returned (.tuple #[.int .i64 s.size,.nilIface])/\Lib.IsBuilderF T u 0 b (Lib.byteCells l++Lib.strCells s) w'/\Up w b w'):Qi P f (TT (AcO T u)):=by
 intro F0 hG
 refine⟨he,λq hq=>(by cases hq),λ_ h=>(by cases h),λφ hφ=>?_,hG⟩
 cases hφ
 rintro F1 hF1 N w0 M B0 σ F β a w ds vs K hM hfr hl hv ⟨g,v,l,s,rfl,hg,hlen,hK⟩
 match vs,hl with
 | [x,y],_ =>
  have hx:=hv 0 _ x rfl rfl
  have hy:=hv 1 _ y rfl rfl
  obtain⟨b,rfl,hβ,hB⟩:=GJ hM hx hg
  cases hy
  refine(h b l ⟨s.toArray⟩ w hB (by simp[ByteArray.size];omega)).mono ?_
  rintro e w' ⟨rfl,hB',hst⟩
  rw[Ik,GK]at hB'
  have hsz:(⟨s.toArray⟩:ByteArray).size=s.length:=by simp[ByteArray.size]
  refine⟨_,.tup [.int .i64 (s.length:Nat),.top],_,σ.n,F,β,rfl,hM.bld hg hβ hst hB',hfr,⟨[_,_],rfl,rfl,λj c x hj hx=>?_⟩,hK⟩
  match j,hj,hx with
  | 0,hj,hx=>cases hj;cases hx;rw[hsz];exact show Fro F _ _ from .int _ _
  | 1,hj,hx=>cases hj;cases hx;exact show Fro F _ _ from .top _
theorem AcN {f T u:Nat} (he:Cb P f) (h:∀ (b:Nat) (l:List UInt8) (c:Nat) (w:World),Lib.IsBuilderF T u 0 b (Lib.byteCells l) w->c<256->l.length+1<=140737488355328 ->
  Calls P f #[.pointer (some ⟨b,0,none⟩),.int .u8 (c:Int)] w λe w'=>e= .returned .nilIface/\Lib.IsBuilderF T u 0 b (Lib.byteCells l++[.int .u8 (c:Int)]) w'/\Up w b w'):Qi P f (TT (AcM T u)):=by
 intro F0 hG
 refine⟨he,λq hq=>(by cases hq),λ_ h=>(by cases h),λφ hφ=>?_,hG⟩
 cases hφ
 rintro F1 hF1 N w0 M B0 σ F β a w ds vs K hM hfr hl hv ⟨g,v,l,c,rfl,hg,hc,hlen,hK⟩
 match vs,hl with
 | [x,y],_ =>
  have hx:=hv 0 _ x rfl rfl
  have hy:=hv 1 _ y rfl rfl
  obtain⟨b,rfl,hβ,hB⟩:=GJ hM hx hg
  cases hy
  refine(h b l c w hB hc (by omega)).mono ?_
  rintro e w' ⟨rfl,hB',hst⟩
  have e1:Lib.byteCells l++[Value.int .u8 (c:Int)]=Lib.byteCells (l++[aAN c]):=by
   have:(aAN c).toNat=c:=by simp;omega
   simp[Lib.byteCells,this]
  rw[e1]at hB'
  exact⟨_,.top,_,σ.n,F,β,rfl,hM.bld hg hβ hst hB',hfr,show Fro F _ _ from .top _,hK⟩
theorem AcL {f T u:Nat} (he:Cb P f) (h:∀ (b:Nat) (l:List UInt8) (w:World),Lib.IsBuilderF T u 0 b (Lib.byteCells l) w->l≠[] ->
  Calls P f #[.pointer (some ⟨b,0,none⟩)] w λe w'=>e= .returned (.string ⟨l.toArray⟩)/\Lib.IsBuilderF T u 0 b (Lib.byteCells l) w'/\Up w b w'):Qi P f (TT (AcK T u)):=by
 intro F0 hG
 refine⟨he,λq hq=>(by cases hq),λ_ h=>(by cases h),λφ hφ=>?_,hG⟩
 cases hφ
 rintro F1 hF1 N w0 M B0 σ F β a w ds vs K hM hfr hl hv ⟨g,v,l,rfl,hg,h0,hK⟩
 match vs,hl with
 | [x],_ =>
  have hx:=hv 0 _ x rfl rfl
  obtain⟨b,rfl,hβ,hB⟩:=GJ hM hx hg
  refine(h b l w hB h0).mono ?_
  rintro e w' ⟨rfl,hB',hst⟩
  exact⟨_,.str l,_,σ.n,F,β,rfl,hM.bld hg hβ hst hB',hfr,show Fro F _ _ from .str _,hK⟩
end
section
variable {Γ:Ar} {X:Type} {K:X->Ax->S->Prop} {N:Nat} {t:Option X} {e:List (Nat×D)} {o o':List (Nat×Ac)} {n nv:Nat} {acc:List Co} {r:List As} {af:List Nat}
theorem AdN {T u dst:Nat} {x:Arg} (hx:Aa e x=some (.agg [.nilp,.nils])) (h:∀ nn,TrO Γ r (nn+1) ⟨(dst,.mref dst nn)::e,(dst,some (nn,⟨true,false,0,2,QF T u []⟩))::o,nn+1⟩ false [] (Ck N K) t) :
  TrO Γ (⟨some dst,.mkx T u x,none,af⟩::r) nv ⟨e,o,n⟩ false acc (Ck N K) t:=by
 intro q hq
 refine⟨λ_=>.inr (.inr ?_),λhd=>by cases hd⟩
 exact⟨_,.refl _,rfl,dst,rfl,2,_,⟨by rw[Aj,hx];rfl,rfl,rfl⟩,_,.refl _,(h nv q hq).1 rfl⟩
theorem Il {dst:Option Nat} {fa:Arg} {args:List Arg} {k:Nat} {ds:List D} {φ:List D->S->(D->S->Prop)->Prop} (d:D) (hf:Aa e fa=some (.clo k [])) (hds:Am e args=ds) (hw:ds.all (λd=>(match d with| .when ..=>false|_=>true))=true) (hkb:aAD k 4096=true)
  (hΓ:Γ (k+4096*AN ds)=some (TT φ)) (hφ:∀ nn (K':D->S->Prop),K' d ⟨e,o',nn⟩->φ ds ⟨e,o,nn⟩ K') (h:∀ nn,TrO Γ r nn ⟨Ad dst d++e,o',nn⟩ false [] (Ck N K) t) :
  TrO Γ (⟨dst,.call fa args,none,af⟩::r) nv ⟨e,o,n⟩ false acc (Ck N K) t:=by
 intro x hx
 refine⟨λ_=>.inr (.inl ?_),λhd=>by cases hd⟩
 have hrd:(AL args).run ⟨e,o,nv⟩=ds:=by rw[<- hds];exact Bo args
 have hraw:(raw fa).run ⟨e,o,nv⟩= .clo k []:=by simp[hf]
 refine⟨_,.refl _,trivial,fa,args,k,[],TT φ,φ,_,λτ hτ=>hτ,rfl,hraw,hkb,?_,rfl,?_,?_⟩
 ·show Γ (k+4096*AN ((AL args).run ⟨e,o,nv⟩))=_
  rw[hrd];exact hΓ
 ·show((AL args).run ⟨e,o,nv⟩).all _=true
  rw[hrd];exact hw
 ·show φ ((AL args).run ⟨e,o,nv⟩++[]) ⟨e,o,nv⟩ _
  rw[hrd,aAC]
  exact hφ nv _ ⟨_,.refl _,(h nv x hx).1 rfl⟩
theorem RG {T u dst k gi vi:Nat} {fa:Arg} {args:List Arg} {l s:List UInt8} (hf:Aa e fa=some (.clo k [])) (hds:Am e args=[.mref gi vi,.str s]) (hkb:aAD k 4096=true) (hΓ:Γ k=some (TT (AcO T u)))
  (ho:lkO o gi=some (vi,⟨true,false,0,2,QF T u l⟩)) (hq:l.length+s.length<=16777216)
  (h:∀ nn,TrO Γ r nn ⟨(dst,.tup [.int .i64 (s.length:Nat),.top])::e,(gi,some (vi,⟨true,false,0,2,QF T u (l++s)⟩))::o,nn⟩ false [] (Ck N K) t) :
  TrO Γ (⟨some dst,.call fa args,none,af⟩::r) nv ⟨e,o,n⟩ false acc (Ck N K) t :=
 Il (o':=(gi,some (vi,⟨true,false,0,2,QF T u (l++s)⟩))::o) (.tup [.int .i64 (s.length:Nat),.top]) hf hds rfl hkb hΓ (λnn K' hK=>⟨gi,vi,l,s,rfl,(by rw[Ay];exact ho),hq,hK⟩) h
theorem Tk {T u dst k gi vi:Nat} {fa:Arg} {args:List Arg} {l:List UInt8} (c:Nat) (hf:Aa e fa=some (.clo k [])) (hds:Am e args=[.mref gi vi,.int .u8 (c:Int)]) (hkb:aAD k 4096=true) (hΓ:Γ k=some (TT (AcM T u)))
  (ho:lkO o gi=some (vi,⟨true,false,0,2,QF T u l⟩)) (hc:c<256) (hq:l.length+1<=16777216)
  (h:∀ nn,TrO Γ r nn ⟨(dst,.top)::e,(gi,some (vi,⟨true,false,0,2,QF T u (l++[aAN c])⟩))::o,nn⟩ false [] (Ck N K) t) :
  TrO Γ (⟨some dst,.call fa args,none,af⟩::r) nv ⟨e,o,n⟩ false acc (Ck N K) t :=
 Il (o':=(gi,some (vi,⟨true,false,0,2,QF T u (l++[aAN c])⟩))::o) .top hf hds rfl hkb hΓ (λnn K' hK=>⟨gi,vi,l,c,rfl,(by rw[Ay];exact ho),hc,hq,hK⟩) h
theorem AdK {T u dst k gi vi:Nat} {fa:Arg} {args:List Arg} {l:List UInt8} (hf:Aa e fa=some (.clo k [])) (hds:Am e args=[.mref gi vi]) (hkb:aAD k 4096=true) (hΓ:Γ k=some (TT (AcK T u)))
  (ho:lkO o gi=some (vi,⟨true,false,0,2,QF T u l⟩)) (hq:l≠[]) (h:∀ nn,TrO Γ r nn ⟨(dst,.str l)::e,(gi,some (vi,⟨true,false,0,2,QF T u l⟩))::o,nn⟩ false [] (Ck N K) t) :
  TrO Γ (⟨some dst,.call fa args,none,af⟩::r) nv ⟨e,o,n⟩ false acc (Ck N K) t :=
 Il (o':=(gi,some (vi,⟨true,false,0,2,QF T u l⟩))::o) (.str l) hf hds rfl hkb hΓ (λnn K' hK=>⟨gi,vi,l,rfl,(by rw[Ay];exact ho),hq,hK⟩) h
end
theorem rf {α:Sort _} {a:α}:a=a:=rfl
abbrev M (d s:Nat):As:=⟨some d,.mv (.t s),none,[]⟩
abbrev P (d:Nat) (o:DOp):As:=⟨some d,o,none,[]⟩
abbrev T (n:Nat):Arg:=.t n
abbrev C (n:Int):Arg:=.c (.int .i64 n)
abbrev Lo (n:Int):D:=.int .i64 n
abbrev UI (n:Int):D:=.int .u64 n
abbrev dW (v s t:Nat) (l:List D):Option (Nat×Own):=some (v,⟨false,false,s,t,l⟩)
abbrev dV (v s t:Nat) (d:D):Option (Nat×Own):=some (v,⟨false,true,s,t,[d]⟩)
open Go.Sort
def It (zs:List Int):List Int:=Lib.compact zs++aAS (zs.length-(Lib.compact zs).length) 0
theorem Ey (zs:List Int):(It zs).take (Lib.compact zs).length=Lib.compact zs:=by simp[It]
def Aet (zs:List Int):List Int:=zs.mergeSort λx y=>decide (x<=y)
@[simp] theorem Pe (zs:List Int):(Aet zs).length=zs.length:=List.length_mergeSort zs
open Go.ChangeShapes Go.WideShapes Go.ChangeAt Go.RowKit
open Go.ChangeShapes Go.WideShapes Go.ChangeAt Go.RowKit
section
variable {P:Program} {W:World} {t:TypeId}
theorem Rd.AdH {T T0 T1 T2 T3 T4:Type} {f0 f1 f2 f3 f4:Field} {en:T->D} {e0:T0->D} {e1:T1->D} {e2:T2->D} {e3:T3->D} {e4:T4->D} {Q:T->Prop} {Q0:T0->Prop} {Q1:T1->Prop} {Q2:T2->Prop} {Q3:T3->Prop} {Q4:T4->Prop}
  (mk:T0->T1->T2->T3->T4->T) (ht:P.underlying t=some (.struct #[f0,f1,f2,f3,f4])) (o0:f0.offset=0) (o1:f1.offset=P.cellsOf f0.type) (o2:f2.offset=P.cellsOf f0.type+P.cellsOf f1.type)
  (o3:f3.offset=P.cellsOf f0.type+P.cellsOf f1.type+P.cellsOf f2.type) (o4:f4.offset=P.cellsOf f0.type+P.cellsOf f1.type+P.cellsOf f2.type+P.cellsOf f3.type)
  (hsz:P.cellsOf t=P.cellsOf f0.type+P.cellsOf f1.type+P.cellsOf f2.type+P.cellsOf f3.type+P.cellsOf f4.type) (h0:Rd P W f0.type e0 Q0) (h1:Rd P W f1.type e1 Q1) (h2:Rd P W f2.type e2 Q2) (h3:Rd P W f3.type e3 Q3) (h4:Rd P W f4.type e4 Q4)
  (hmk:∀ a b c d e,cells (en (mk a b c d e))=cells (e0 a)++(cells (e1 b)++(cells (e2 c)++(cells (e3 d)++cells (e4 e))))) (hQ:∀ a b c d e,Q0 a->Q1 b->Q2 c->Q3 d->Q4 e->Q (mk a b c d e)):Rd P W t en Q:=by
 refine⟨λn cs x h hw=>?_⟩
 obtain⟨xs,m,_,rfl,hl,hlen,hf⟩:=DataW.trod_struct ht h
 have hlen:xs.length=5:=hlen
 have g:∀ i,(hi:i<5)->xs[i]? =some (xs[i]'(by omega)):=λi hi=>aAE _
 obtain⟨a,q0,r0⟩:=h0.rd m _ _ ((hf 0 f0 rfl).trans (g 0 (by omega))) (Wt.part ht hw (j:=0) rfl (by rw[aAA,g 0 (by omega)];rfl))
 obtain⟨b,q1,r1⟩:=h1.rd m _ _ ((hf 1 f1 rfl).trans (g 1 (by omega))) (Wt.part ht hw (j:=1) rfl (by rw[aAA,g 1 (by omega)];rfl))
 obtain⟨c,q2,r2⟩:=h2.rd m _ _ ((hf 2 f2 rfl).trans (g 2 (by omega))) (Wt.part ht hw (j:=2) rfl (by rw[aAA,g 2 (by omega)];rfl))
 obtain⟨d,q3,r3⟩:=h3.rd m _ _ ((hf 3 f3 rfl).trans (g 3 (by omega))) (Wt.part ht hw (j:=3) rfl (by rw[aAA,g 3 (by omega)];rfl))
 obtain⟨e,q4,r4⟩:=h4.rd m _ _ ((hf 4 f4 rfl).trans (g 4 (by omega))) (Wt.part ht hw (j:=4) rfl (by rw[aAA,g 4 (by omega)];rfl))
 refine⟨mk a b c d e,hQ a b c d e q0 q1 q2 q3 q4,?_⟩
 rw[hmk]
 have:=r0.append (r1.append (r2.append (r3.append r4)))
 have e4:List.take (P.cellsOf f4.type) (List.drop (P.cellsOf f0.type+P.cellsOf f1.type+P.cellsOf f2.type+P.cellsOf f3.type) cs)=List.drop (P.cellsOf f0.type+P.cellsOf f1.type+P.cellsOf f2.type+P.cellsOf f3.type) cs:=aAM (by simp;omega)
 rw[o0,o1,o2,o3,o4,e4,EZ,EZ,EZ,List.drop_zero,List.take_append_drop]at this
 exact this
theorem En:∀ {laid:List (String×DataW Unit)} {ps:List MemPlace} {i:Nat} {n:String} {d:DataW Unit},DataW.LaidVars P W laid ps->laid[i]? =some (n,d) ->
  ∃ g t cs fuel p,P.globalNamed n=some g/\(P.globals[g]?).map (·.type)=some t/\W.var? P n=some cs/\DataW.trod (λ_=>()) P W 0 (λ_=>true) false fuel t cs.toList=some (d,p)
 | [],_,i,n,d,_,hi=>by simp at hi
 | (n0,d0)::r,ps,i,n,d,h,hi=>by
  obtain⟨g,t,cs,fuel,p,q,h1,h2,h3,h4,hq,_⟩:=h
  rcases i with _|i
  ·simp only[List.getElem?_cons_zero,Option.some.injEq,Prod.mk.injEq]at hi
   obtain⟨rfl,rfl⟩:=hi
   exact⟨g,t,cs,fuel,p,h1,h2,h3,h4⟩
  ·exact En hq (by simpa using hi)
theorem Iy {laid:List (String×DataW Unit)} {i:Nat} {nm:String} {k:IntKind} {zs:List Int} {e:TypeId} {n g:Nat} (h:laidMet P laid W) (hi:laid[i]? =some (nm,.agg (zs.map λz=>.lit (.int k z))))
  (hg:P.globalNamed nm=some g) (ht:(P.globals[g]?).map (·.type)=some t) (ha:P.underlying t=some (.array n e)) (he:P.underlying e=some (.int k)) (hc:P.cellsOf e=1):CM P (TB W) (nm,zs.map λz=>.int k z):=by
 obtain⟨ps,hv,_⟩:=h
 obtain⟨g0,t0,cs,fuel,p,hg0,ht0,hv0,hd0⟩:=En hv hi
 obtain rfl:=Option.some.inj (hg.symm.trans hg0)
 obtain rfl:=Option.some.inj (ht.symm.trans ht0)
 obtain⟨xs,m,rfl,hx,hlen,hn,hel⟩:=DataW.trod_array ha hd0
 simp only[Prod.mk.injEq,DataW.agg.injEq]at hx
 intro g' hg' j d hd
 obtain rfl:=Option.some.inj (hg.symm.trans hg')
 simp only[aAA,aAH]at hd
 obtain⟨z,hz,rfl⟩:=hd
 have hzl:zs.length=n:=by have:=congrArg List.length hx.1;simp at this;omega
 have hj:j<n:=by have:=(aAB.1 hz).1;omega
 have hej:=hel j hj
 rw[hc,aAE (show j<xs.length by omega)]at hej
 obtain⟨z',e1,e2,_⟩:=DataW.trod_int he hej
 have hzz:z'=z:=by
  have:=congrArg (λl=>l[j]?) hx.1
  simp only[aAA,hz,aAE (show j<xs.length by omega),Option.map_some,e2]at this
  simpa using this.symm
 subst hzz
 have hcs:cs[j]? =some (.int k z'):=by
  have h0:((cs.toList.drop (j*1)).take 1)[0]? =some (.int k z'):=by rw[e1];rfl
  simpa[List.getElem?_take,List.getElem?_drop]using h0
 refine⟨.int k z',?_,rfl,.int _ _⟩
 show W.cell? ⟨g,j,none⟩=_
 rw[World.var?_cell hg0 hv0 j,hcs]
theorem LR {laid:List (String×DataW Unit)} {i:Nat} {nm:String} {zs:List (List UInt8)} {e:TypeId} {n g:Nat} (h:laidMet P laid W) (hi:laid[i]? =some (nm,.agg (zs.map λz=>.lit (.string z))))
  (hg:P.globalNamed nm=some g) (ht:(P.globals[g]?).map (·.type)=some t) (ha:P.underlying t=some (.array n e)) (he:P.underlying e=some .string) (hc:P.cellsOf e=1):CM P (TB W) (nm,zs.map .str):=by
 obtain⟨ps,hv,_⟩:=h
 obtain⟨g0,t0,cs,fuel,p,hg0,ht0,hv0,hd0⟩:=En hv hi
 obtain rfl:=Option.some.inj (hg.symm.trans hg0)
 obtain rfl:=Option.some.inj (ht.symm.trans ht0)
 obtain⟨xs,m,rfl,hx,hlen,hn,hel⟩:=DataW.trod_array ha hd0
 simp only[Prod.mk.injEq,DataW.agg.injEq]at hx
 intro g' hg' j d hd
 obtain rfl:=Option.some.inj (hg.symm.trans hg')
 simp only[aAA,aAH]at hd
 obtain⟨z,hz,rfl⟩:=hd
 have hzl:zs.length=n:=by have:=congrArg List.length hx.1;simp at this;omega
 have hj:j<n:=by have:=(aAB.1 hz).1;omega
 have hej:=hel j hj
 rw[hc,aAE (show j<xs.length by omega)]at hej
 obtain⟨s,e1,e2,_⟩:=DataW.trod_string he hej
 have hzz:s.data.toList=z:=by
  have:=congrArg (λl=>l[j]?) hx.1
  simp only[aAA,hz,aAE (show j<xs.length by omega),Option.map_some,e2]at this
  simpa using this.symm
 subst hzz
 have hcs:cs[j]? =some (.string s):=by
  have h0:((cs.toList.drop (j*1)).take 1)[0]? =some (.string s):=by rw[e1];rfl
  simpa[List.getElem?_take,List.getElem?_drop]using h0
 refine⟨.string s,?_,rfl,.str s.data.toList⟩
 show W.cell? ⟨g,j,none⟩=_
 rw[World.var?_cell hg0 hv0 j,hcs]
structure Qb (P:Program) (f0 f1 f2 f3:Field):Prop where
 u0:P.underlying f0.type=some (.int .i64)
 u1:P.underlying f1.type=some (.int .i64)
 u2:P.underlying f2.type=some (.int .i64)
 u3:P.underlying f3.type=some .bool
 o:f0.offset=0/\f1.offset=1/\f2.offset=2/\f3.offset=3
 c:P.cellsOf f0.type=1/\P.cellsOf f1.type=1/\P.cellsOf f2.type=1/\P.cellsOf f3.type=1
section
variable {laid:List (String×DataW Unit)} {i g n:Nat} {e:TypeId}
theorem AeR {F:Fz} {nm:String} {l:List D} (h:P.globalNamed nm=none):CM P F (nm,l):=λg hg=>by rw[h]at hg;cases hg
theorem AeP (hL:laidMetH P laid W) (hn:(laid.all λx=>x.2.handleName?.isNone)=true) (a:laid[i]? =some ("math/bits.deBruijn64tab",.agg ((DS.map λn:Nat=>(n:Int)).map λz=>.lit (.int .u8 z))))
  (b:P.globalNamed "math/bits.deBruijn64tab" = some g/\(P.globals[g]?).map (·.type)=some t/\P.underlying t=some (.array n e)/\P.underlying e=some (.int .u8)/\P.cellsOf e=1):CM P (TB W) ("math/bits.deBruijn64tab",DS.map λn:Nat=>.int .u8 n):=by
 rw[MakeChecks.laidMetH_plain _ _ _ hn]at hL
 have:=Iy hL a b.1 b.2.1 b.2.2.1 b.2.2.2.1 b.2.2.2.2
 rwa[aAU]at this
theorem AeQ (hL:laidMetH P laid W) (hn:(laid.all λx=>x.2.handleName?.isNone)=true) (a:laid[i]? =some ("internal/strconv.uint64pow10",.agg (((List.range 20).map λi=>((10 ^ i:Nat):Int)).map λz=>.lit (.int .u64 z))))
  (b:P.globalNamed "internal/strconv.uint64pow10" = some g/\(P.globals[g]?).map (·.type)=some t/\P.underlying t=some (.array n e)/\P.underlying e=some (.int .u64)/\P.cellsOf e=1):CM P (TB W) ("internal/strconv.uint64pow10",(List.range 20).map λi=>.int .u64 (10 ^ i:Nat)):=by
 rw[MakeChecks.laidMetH_plain _ _ _ hn]at hL
 have:=Iy hL a b.1 b.2.1 b.2.2.1 b.2.2.2.1 b.2.2.2.2
 rwa[aAU]at this
theorem Aej {nm:String} {zs:List (List UInt8)} (hL:laidMetH P laid W) (hn:(laid.all λx=>x.2.handleName?.isNone)=true) (a:laid[i]? =some (nm,.agg (zs.map λz=>.lit (.string z))))
  (b:P.globalNamed nm=some g/\(P.globals[g]?).map (·.type)=some t/\P.underlying t=some (.array n e)/\P.underlying e=some .string/\P.cellsOf e=1):CM P (TB W) (nm,zs.map .str):=by
 rw[MakeChecks.laidMetH_plain _ _ _ hn]at hL
 exact LR hL a b.1 b.2.1 b.2.2.1 b.2.2.2.1 b.2.2.2.2
end
theorem Acl {F:Fz} (c0:CM P F ("math/bits.deBruijn64tab",DS.map λn:Nat=>.int .u8 n)) (c1:CM P F ("internal/strconv.uint64pow10",(List.range 20).map λi=>.int .u64 (10 ^ i:Nat)))
  (c2:CM P F ("spillframe/sirtext.names",SD.map .str)) (c3:CM P F ("spillframe/sirtext.forms",TI.map .str)) (c4:CM P F ("spillframe/sir.shapes",AaC.flatMap Mm)):UG P F:=by
 intro x hx
 simp only[CP,List.mem_cons,List.not_mem_nil,or_false]at hx
 rcases hx with rfl|rfl|rfl|rfl|rfl
 ·exact c0
 ·exact c1
 ·exact c2
 ·exact c3
 ·exact c4
end
end Go.Dw
