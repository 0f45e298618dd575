/-
  Plain laws about the typed programs.
-/
import Derived.Test.YtmmchhpdaogopaaGreatDoorPa
open BitVec renaming ofInt->aAK,toNat_and->aAd
open Bool renaming cond_eq_ite->aAC,not_true->aAR
open Classical renaming byContradiction->aAI,propDecidable->aAg
open Int renaming toNat_natCast->aAH,mul_le_mul_of_nonneg_right->aAZ,dvd_of_emod_eq_zero->aAe
open List renaming getElem?_eq_getElem->aAA,mem_of_getElem?->aAB,range->aAD,getElem?_of_mem->aAF,getElem?_eq_some_iff->aAG,getElem_mem->aAL,take_succ_eq_append_getElem->aAM,getElem?_set_self->aAP,find?_eq_none->aAS,getElem?_map->aAT,take_length->aAV,mem_iff_getElem?->aAW,mem_map->aAY,getD_eq_getElem?_getD->aAa,pairwise_iff_getElem->aAb,mem_or_eq_of_mem_set->aAc,getElem_cons_drop->aAi,take_of_length_le->aAj,take_append_drop->aAk,getElem?_eq_none->aAl,mem_cons->aAm
open Nat renaming zero_le->aAE,pow_le_pow_right->aAJ,le_refl->aAO,and_sub_one_eq_zero_iff_isPowerOfTwo->aAQ,not_lt_zero->aAX,two_pow_pos->aAh
open Option renaming bind_some->aA,elim_some->aAN,map_eq_some_iff->aAU,bind_eq_some_iff->aAf
namespace Go.Proofs.YtmmchhpdaogopaaGreatDoor
open Go Go.Dw Go.Proofs
variable {sl:List Og} {ps:List Int} {x:NJ} {f:NI} {k:Nat} {r:Oi} {l:List (List Int)}
def Vi (a:Int):Prop:=0<=a/\a<8
inductive Wm (sl:List Og) (np nf:Int) (T:Int->Prop):NJ->Prop
 | store (a b:Int):0<=a->a<sl.length->Vi b->Wm sl np nf T ⟨16,a,b,0,0⟩
 | load (a b:Int):Vi a->0<=b->b<sl.length->Wm sl np nf T ⟨15,a,b,0,0⟩
 | move (a b:Int):Aof sl a b->0<=b->b<sl.length->Wm sl np nf T ⟨17,a,b,0,0⟩
 | const (a w:Int):Vi a->Wm sl np nf T ⟨0,a,0,0,w⟩
 | bin (op a b c:Int):2<=op->op<12->Vi a->Vi b->Vi c->Wm sl np nf T ⟨op,a,b,c,0⟩
 | one (op a:Int):(op=13\/op=14)->Vi a->Wm sl np nf T ⟨op,a,0,0,0⟩
 | two (op a b:Int):(op=1\/op=12)->Vi a->Vi b->Wm sl np nf T ⟨op,a,b,0,0⟩
 | param (a b:Int):Vi a->0<=b->b<np->Wm sl np nf T ⟨19,a,b,0,0⟩
 | arg (a b:Int):0<=a->a<8->Vi b->Wm sl np nf T ⟨18,a,b,0,0⟩
 | call (j:Int):0<=j->j<nf->Wm sl np nf T ⟨22,j,0,0,0⟩
 | jump (t:Int):T t->Wm sl np nf T ⟨20,t,0,0,0⟩
 | branch (a t:Int):Vi a->T t->Wm sl np nf T ⟨21,a,t,0,0⟩
 | ret:Wm sl np nf T ⟨23,0,0,0,0⟩
 | trap (w:Int):Wm sl np nf T ⟨24,0,0,0,w⟩
theorem Reg.w {a:Int} (h:Reg a):Vi a:=⟨h.1,by have:=h.2;omega⟩
theorem Qf.w {np i:Int} {T:Int->Prop} (h:Qf sl np i ps T x) (hi: -1<=i):Wm sl np ps.length T x:=by
 cases h with
 | store a b h1 h2 h3=>exact .store a b h1 h2 h3.w
 | load a b h1 h2 h3=>exact .load a b h1.w h2 h3
 | move a b h1 h2 h3=>exact .move a b h1 h2 h3
 | const a w h1 h2=>exact .const a w h1.w
 | bin op a b c h1 h2 h3 h4 h5 h6=>exact .bin op a b c h1 h2 h3.w h4.w ⟨h5,h6⟩
 | out a h1=>exact .one 14 a (.inr rfl) h1.w
 | un op a h1 h2 =>
  rcases h1 with rfl|rfl|rfl
  ·exact .one 13 a (.inl rfl) h2.w
  ·exact .two 12 a 0 (.inr rfl) h2.w ⟨by omega,by omega⟩
  ·exact .two 1 a 0 (.inl rfl) h2.w ⟨by omega,by omega⟩
 | param a b h1 h2 h3=>exact .param a b h1.w h2 h3
 | arg a b h1 h2 h3=>exact .arg a b h1 (by omega) h3.w
 | call j h1 h2=>exact .call j (by omega) h2
 | jump q h1=>exact .jump q h1
 | branch a q h1 h2=>exact .branch a q h1.w h2
theorem Adx.w {np nf:Int} {T:Int->Prop} (h:Adx x):Wm sl np nf T x:=by
 rcases h with rfl|⟨w,_,rfl⟩
 ·exact .ret
 ·exact .trap w
theorem Wm.rn {sl':List Og} {np nf:Int} {T T':Int->Prop} (h:Wm sl np nf T x) {to pl:List Int} (hs:∀ s∈Pl x,0<=rnS to s/\rnS to s<sl'.length) (hz:x.Op=17->Aof sl' (rnS to x.A) (rnS to x.B)) (ht:∀ t,T t->T' ((pl[t.toNat]?).getD 0)) :
  Wm sl' np nf T' (mvI pl (rnI to x)):=by
 cases h with
 | store a b h1 h2 h3 =>
  have:=hs a (by simp[Pl])
  exact .store _ _ this.1 this.2 h3
 | load a b h1 h2 h3 =>
  have:=hs b (by simp[Pl,QQ])
  exact .load _ _ h1 this.1 this.2
 | move a b h1 h2 h3 =>
  have:=hs b (by simp[Pl,QQ])
  exact .move _ _ (hz rfl) this.1 this.2
 | const a w h1=>exact .const a w h1
 | bin op a b c h1 h2 h3 h4 h5 =>
  have:mvI pl (rnI to ⟨op,a,b,c,0⟩)=⟨op,a,b,c,0⟩:=by grind [mvI,rnI]
  rw[this];exact .bin op a b c h1 h2 h3 h4 h5
 | one op a h1 h2 =>
  have:mvI pl (rnI to ⟨op,a,0,0,0⟩)=⟨op,a,0,0,0⟩:=by grind [mvI,rnI]
  rw[this];exact .one op a h1 h2
 | two op a b h1 h2 h3 =>
  have:mvI pl (rnI to ⟨op,a,b,0,0⟩)=⟨op,a,b,0,0⟩:=by grind [mvI,rnI]
  rw[this];exact .two op a b h1 h2 h3
 | param a b h1 h2 h3=>exact .param a b h1 h2 h3
 | arg a b h1 h2 h3=>exact .arg a b h1 h2 h3
 | call j h1 h2=>exact .call j h1 h2
 | jump q h1=>exact .jump _ (ht _ h1)
 | branch a q h1 h2=>exact .branch a _ h1 (ht _ h2)
 | ret=>exact .ret
 | trap w=>exact .trap w
structure GW (nf:Int) (f:NI):Prop where
 par:0<=f.Params/\f.Params<=8
 slots:f.Slots.length<=40
 slot:∀ s∈f.Slots,Aay s
 len:1<=f.Code.length
 len':f.Code.length<=1024
 body:∀ x∈f.Code,Wm f.Slots f.Params nf (λt=>0<=t/\t<f.Code.length) x
 last:TO f
structure PF (p:NL):Prop where
 zero:∀ f,p.Funcs[0]? =some f->f.Params=0
 few:1<=p.Funcs.length/\p.Funcs.length<=80
 all:∀ f∈p.Funcs,GW p.Funcs.length f
theorem Sc.gw {i most:Int} (h:Sc ps i most f) (hi: -1<=i) (hm:most<=200) (hps:Ajf ps):GW ps.length f:=by
 have hp:=hps.1 _ (aAB h.par);refine⟨⟨hp.1,by omega⟩,by have:=h.slots;omega,λs hs=>(h.slot s hs).wide,h.len,by have:=h.len';omega,λx hx=>?_,h.Awh⟩
 obtain⟨k,hx⟩:=aAF hx;have hk:=(aAG.1 hx).1
 by_cases e:k+1<f.Code.length
 ·exact(h.body k x hx e).w hi
 ·exact(h.last x (by grind)).w
theorem Acs.y {funcs most:Int} {p:NL} (h:Acs funcs most p) (hm:most<=200) (hfn:funcs<=79):PF p:=by
 obtain⟨ps,hps,hz,hp1,hp2,hfl,hall⟩:=h;refine⟨λf hf=>?_,by omega,λf hf=>?_⟩
 ·have:=(hall 0 f hf).par;simp_all
 ·obtain⟨j,hj⟩:=aAF hf;have:=(hall j f hj).gw (by omega) hm hps
  simp_all
section
variable {nf:Int} {f:NI} (h:GW nf f)
 include h
theorem GW.Awt:Zx f.Slots:=⟨h.slots,λx hx=>(h.slot x hx).al⟩
theorem GW.defs:QZ f:=by
 intro x hx hop;have hb:=h.body x hx;cases hb with
 | store a b h1 h2 h3=>simp_all
 | move a b h1 h2 h3=>exact⟨h1.1,h1.2.1⟩
 | bin op a b c h1 h2=>grind
 | one op a h1=>grind
 | two op a b h1=>grind
 | _=>simp at hop
theorem GW.Agf:Yl f:=by
 intro x hx hop;have hb:=h.body x hx;cases hb with
 | move a b h1 h2 h3 =>
  obtain⟨q0,q1,x,y,e1,e2,e3⟩:=h1
  grind [Qj]
 | bin op a b c h1 h2=>simp_all
 | one op a h1=>simp_all
 | two op a b h1=>simp_all
 | _=>simp at hop
theorem GW.calls:Acr nf.toNat f:=by
 intro x hx hop;have hb:=h.body x hx;cases hb<;>grind
theorem GW.SI:OL f:=by
 have hl:=h.len;have hl':=h.len';have hs:=h.slots;refine⟨hl,by omega,by omega,λk x hx j hj=>?_,λx hx v hv=>?_⟩
 ·have hk:=(aAG.1 hx).1;have hlast:k+1=f.Code.length->x.Op=20\/x.Op=23\/x.Op=24:=λe=>by
   have:=h.last
   grind [NO,TO]
  have hb:=h.body x (aAB hx);have hT:(x.Op=20->0<=x.A/\x.A<f.Code.length)/\(x.Op=21->0<=x.B/\x.B<f.Code.length):=by
   cases hb<;>grind
  grind [RJ]
 ·have hb:=h.body x hx;cases hb<;>grind [QQ]
end
theorem PF.args {p:NL} (h:PF p) (hf:f∈p.Funcs):ZR p f:=by
 intro x hx;have hb:=(h.all f hf).body x hx;cases hb with
 | arg a b h1 h2 h3=>simp_all
 | call j h1 h2 =>
  refine⟨λe=>by simp at e,λ_=>⟨h1,?_⟩⟩
  have hg:p.Funcs[j.toNat]? =some (p.Funcs[j.toNat]'(by omega)):=aAA _
  exact⟨_,hg,(h.all _ (aAL _)).par⟩
 | bin op a b c h1 h2=>grind
 | one op a h1=>grind
 | two op a b h1=>grind
 | _=>exact⟨λe=>by simp at e,λe=>by simp at e⟩
open Go Go.Dw Go.Proofs
theorem Atv {keep:List Bool} (h:k<keep.length):keep[k]? =some (OO keep k):=by simp[OO,h]
theorem AeR {keep:List Bool} (h:k<keep.length):kept keep (k+1)=kept keep k+(if OO keep k=true then 1 else 0):=Yv (Atv h)
theorem Atw {keep:List Bool} {j:Nat} (hj:j<keep.length) (hk:k<keep.length) (h1:OO keep j=true) (h2:OO keep k=true) (h:kept keep j=kept keep k):j=k:=by
 rcases Nat.lt_trichotomy j k with c|c|c
 ·have a:=AcG (keep:=keep) (j:=j+1) (k:=k) (by omega) (by omega)
  rw[AeR hj,if_pos h1]at a;omega
 ·exact c
 ·have a:=AcG (keep:=keep) (j:=k+1) (k:=j) (by omega) (by omega)
  rw[AeR hk,if_pos h2]at a;omega
structure Afk (f g:NI) (r:Oi) (used nm pl:List Int):Prop where
 rw:Tf f r
 usd:ON f.Slots.length used
 nms:∀ k:Nat,k<f.Code.length->OO r.Keep k=true->∀ v∈Pl (rnI r.To (NO f k)),v∈used
 nl:nm.length=r.To.length
 num:∀ (s:Nat) x,nm[s]? =some x->0<=x/\(Oq r.To s∈used->used[x.toNat]? =some (Oq r.To s))
 pll:pl.length=r.Keep.length
 plc:∀ j:Nat,j<r.Keep.length->pl[j]? =some (kept r.Keep j:Int)
 sl:g.Slots.length=used.length
 par:g.Params=f.Params
 code:g.Code=UM f r.Keep nm pl f.Code.length
 sls:Abr f used g.Slots
section
variable {f g:NI} {r:Oi} {used nm pl:List Int} (h:Afk f g r used nm pl)
 include h
theorem Afk.len:g.Code.length=kept r.Keep f.Code.length:=by
 rw[h.code];exact(Vp (f:=f) (keep:=r.Keep) (to:=nm) (pl:=pl) _ (by have:=h.rw.2.1;omega)).1
theorem Afk.back {p:Nat} (hx:g.Code[p]? =some x):∃ j:Nat,j<f.Code.length/\OO r.Keep j=true/\kept r.Keep j=p/\x=mvI pl (rnI nm (NO f j)):=by
 rw[h.code]at hx;exact(Vp (f:=f) (keep:=r.Keep) (to:=nm) (pl:=pl) _ (by have:=h.rw.2.1;omega)).2 p x hx
theorem Afk.at {j:Nat} (hj:j<f.Code.length) (hk:OO r.Keep j=true):g.Code[kept r.Keep j]? =some (mvI pl (rnI nm (NO f j))):=by
 have hkl:=h.rw.2.1;have h1:=AeR (keep:=r.Keep) (k:=j) (by omega)
 rw[if_pos hk]at h1;have h2:=AcG (keep:=r.Keep) (j:=j+1) (k:=f.Code.length) (by omega) (by omega)
 have hl:=h.len;have hg:g.Code[kept r.Keep j]? =some (g.Code[kept r.Keep j]'(by omega)):=aAA _
 obtain⟨j',a,b,c,d⟩:=h.back hg
 grind [Atw]
theorem Afk.nmS {s:Int} (h0:0<=s) (h1:s<f.Slots.length):rnS nm s=Oq nm s/\0<=Oq nm s/\(Oq r.To s∈used->used[(Oq nm s).toNat]? =some (Oq r.To s)):=by
 have htl:=h.rw.1.1;have hnl:=h.nl;have hg:=So (to:=nm) (s:=s) h0 (by omega)
 obtain⟨q1,q2⟩:=h.num s.toNat _ hg;rw[Int.toNat_of_nonneg h0]at q2;simp_all[rnS]
theorem Afk.slot {s:Int} (h0:0<=s) (h1:s<f.Slots.length) (hu:Oq r.To s∈used):(Oq nm s).toNat<g.Slots.length/\∃ y,g.Slots[(Oq nm s).toNat]? =some y/\y.Size=Qj f s:=by
 obtain⟨_,q1,q2⟩:=h.nmS h0 h1;have q2:=q2 hu;have hl:=(aAG.1 q2).1;have hsl:=h.sl;refine⟨by omega,g.Slots[(Oq nm s).toNat]'(by omega),aAA _,?_⟩
 obtain⟨u,x,e1,e2,e3,_⟩:=h.sls (Oq nm s).toNat _ (aAA (by omega))
 rw[q2]at e1;obtain rfl:=Option.some.inj e1;have:=(h.rw.1.2 s.toNat (by have:=h.rw.1.1;omega)).2.2.1
 grind [AdF]
end
theorem Afk.gw {nf:Int} {g:NI} {used nm pl:List Int} (h:Afk f g r used nm pl) (hg:GW nf f):GW nf g:=by
 have hf:=hg.SI;have hd:=hg.defs;have hml:=hg.Agf;have hkl:=h.rw.2.1;have hlen:=h.len;have hl1:=hg.len;have hl2:=hg.len';have hsl:=hg.slots;have hk0:=AfZ hf hg.last h.rw (t:=0) (by omega)
 have hkl2:=Aji r.Keep f.Code.length;have hul:=Ajh (l:=used) (a:=0) (n:=f.Slots.length) h.usd.1.1 λx hx=>⟨(h.usd.1.2 x hx).1,h.usd.2 x hx⟩
 have hgs:=h.sl;refine⟨by rw[h.par];exact hg.par,by omega,λy hy=>?_,by omega,by omega,λx hx=>?_,?_⟩
 ·obtain⟨j,hj⟩:=aAF hy;obtain⟨u,x,_,e2,e3,t,ht,e4⟩:=h.sls j y hj;have a:=hg.slot x (aAB e2);have b:=hg.slot t ht;exact⟨by rw[e3];exact a.1,by rw[e4];exact b.2⟩
 ·obtain⟨p,hx⟩:=aAF hx;obtain⟨j,hj,hk,hp,rfl⟩:=h.back hx;have hc:=(hf.at (j:=(j:Int)) (by omega) (by omega))
  have hnames:∀ s∈Pl (NO f j),0<=s/\s<f.Slots.length/\Oq r.To s∈used:=λs hs=>by
   obtain⟨a,b⟩:=AeT hf hd hc.2 hs;have:=h.nms j hj hk (rnS r.To s) ((AbA _ _ _).2 ⟨s,hs,rfl⟩);rw[(h.rw.1.rng a b).2.2]at this;simp_all
  have hin:∀ s∈Pl (NO f j),0<=rnS nm s/\rnS nm s<g.Slots.length/\∃ y,g.Slots[(rnS nm s).toNat]? =some y/\y.Size=Qj f s:=λs hs=>by
   obtain⟨a,b,c⟩:=hnames s hs;obtain⟨e,q,_⟩:=h.nmS a b;obtain⟨e1,e2⟩:=h.slot a b c;simp_all
  rw[h.par];refine(hg.body _ hc.2).rn (λs hs=>⟨(hin s hs).1,(hin s hs).2.1⟩) (λh17=>?_) λt ht=>?_
  ·obtain⟨a1,a2,y,a3,a4⟩:=hin (NO f j).A (by grind [Pl])
   obtain⟨_,_,z,b3,b4⟩:=hin (NO f j).B (by grind [Pl,QQ])
   refine⟨a1,a2,y,z,a3,b3,?_⟩;rw[a4,b4];exact(hml _ hc.2 h17).2.2.2.2
  ·rw[h.plc t.toNat (by omega)]
   have:=AfZ hf hg.last h.rw (t:=t.toNat) (by omega)
   simp_all
 ·have hk:OO r.Keep (f.Code.length-1)=true:=by
   cases e:OO r.Keep (f.Code.length-1)
   ·have:=h.rw.2.2 _ (by omega) e
    have hlast:=hg.last
    grind [TO]
   ·rfl
  have hat:=h.at (j:=f.Code.length-1) (by omega) hk
  have hs:=AeR (keep:=r.Keep) (k:=f.Code.length-1) (by omega)
  rw[if_pos hk,show f.Code.length-1+1=f.Code.length by omega]at hs
  have hlast:=hg.last
  grind [TO,NO,AmR,AcR]
theorem AmT (hf:OL f) (hd:QZ f) (hr:Tf f r):Hs (QJ f r) λq=>q.2=0/\∃ used nm pl,Afk f q.1 r used nm pl :=
 (AmS hf hd hr).mono λ_q ⟨h0,used,to,pl,u1,u2,n1,n2,p1,p2,sl,pr,cd,sa⟩=>⟨h0,used,to,pl,hr,u1,u2,n1,n2,p1,p2,sl,pr,cd,sa⟩
open Go Go.Dw Go.Proofs
attribute [local simp] Ot aAC
def Zk (f:NI) (l:List (List Int)) (r:Oi) (k:Nat) (y:Int):Prop :=
 ((NO f k).Op=16\/(NO f k).Op=17)/\¬ ((NO f k).Op=17/\Oq r.To (NO f k).A=Oq r.To (NO f k).B)/\y∈Ou l k/\(OO r.Keep k=true↔y≠(NO f k).A)/\Oq r.To y=Oq r.To (NO f k).A
instance {f:NI} {l:List (List Int)} {r:Oi} {k:Nat} {y:Int}:Decidable (Zk f l r k y):=by unfold Zk;infer_instance
theorem Zk.mono {l':List (List Int)} {y:Int} (h:Zk f l' r k y) (hs:∀ v∈Ou l' k,v∈Ou l k):Zk f l r k y :=
 ⟨h.1,h.2.1,hs y h.2.2.1,h.2.2.2.1,h.2.2.2.2⟩
def Yx (f:NI) (l:List (List Int)) (r:Oi) (k:Nat):Option Int:=(Ou l k).find? λy=>decide (Zk f l r k y)
def AnX (o:Option Int):Int×Bool:=match o with|some y=>(y,true)|none=>(0,false)
theorem Ats {l:List Int} {p:Int->Bool} {j:Nat} {y:Int} (h:l[j]? =some y) (hp:p y=true) (hn:∀ z∈l.take j,p z=false):l.find? p=some y:=by
 grind [aAi,aAk]
def Abp (f:NI) (l:List (List Int)) (r:Oi) (q:Int×Int×Bool):Prop :=
 (∃ (k:Nat) (y:Int),k<f.Code.length/\Yx f l r k=some y/\(∀ j<k,Yx f l r j=none)/\q=((k:Int),y,true))\/((∀ j<f.Code.length,Yx f l r j=none)/\q=(0,0,false))
theorem Abp.unique {q p:Int×Int×Bool} (h:Abp f l r q) (h':Abp f l r p):q=p:=by
 rcases h with⟨k,y,hk,h1,h2,rfl⟩|⟨h1,rfl⟩<;>rcases h' with⟨k',y',hk',h1',h2',rfl⟩|⟨h1',rfl⟩
 all_goals grind
theorem Abp.found {q:Int×Int×Bool} (h:Abp f l r q):q.2.2=true↔∃ k y,k<f.Code.length/\Zk f l r k y:=by
 rcases h with⟨k,y,hk,h1,_,rfl⟩|⟨h1,rfl⟩
 ·exact⟨λ_=>⟨k,y,hk,by simpa using List.find?_some h1⟩,λ_=>rfl⟩
 ·refine⟨λh=>(by cases h),λ⟨k,y,hk,hy⟩=>?_⟩
  have:=aAS.1 (h1 k hk) y hy.2.2.1;simp_all
theorem AoM (hf:OL f) (hd:QZ f) {l:Ox} (hl:Sd f l.Out) (hr:Tf f r) (hk:k<f.Code.length) :
  Hs (WZ f l r (k:Int)) λq=>q=AnX (Yx f l.Out r k):=by
 have htl:=hr.1.1;have hx:=hf.at (j:=(k:Int)) (by omega) (by omega)
 have hrow:=hl.at (j:=(k:Int)) (by omega) (by omega)
 rw[aAH]at hx hrow;have hlo:=hrow.2.1.length_le;have hg:r.Keep[k]? =some (OO r.Keep k):=by have:=hr.2.1;grind [OO]
 have tg:∀ s:Int,0<=s->s<f.Slots.length->ixO r.To s=some (Oq r.To s):=λs h0 h1=>by grind [Py,So]
 have none':(∀ y,¬ Zk f l.Out r k y)->Yx f l.Out r k=none:=λh=>aAS.2 λy _=>by simp[h y]
 unfold WZ;simp only[PE,hx.1,aA,AdN,AcZ]
 by_cases hdef:(NO f k).Op=16\/(NO f k).Op=17
 ·rw[if_pos hdef];have hA:=hd _ hx.2 hdef;have inner:¬ ((NO f k).Op=17/\Oq r.To (NO f k).A=Oq r.To (NO f k).B)->Hs (SS r (k:Int) l ((NO f k).A,true)) λq=>q=AnX (Yx f l.Out r k):=by
   intro hnm;unfold SS;simp only[PE,hg,hrow.1,aA];refine .cond (λh=>?_) λh=>?_
   ·have hkf:OO r.Keep k=false:=by simp_all
    rw[AaN _ _ (by omega),aA]
    have only:∀ y,Zk f l.Out r k y->y=(NO f k).A:=λy hy=>aAI λhn=>by rw[hy.2.2.2.1.2 hn]at hkf;cases hkf
    refine .dec (λhm=>.pure ?_) λhm=>.pure ?_
    ·have hL:Zk f l.Out r k (NO f k).A:=⟨hdef,hnm,hm,⟨λh=>(by simp_all),λh=>(h rfl).elim⟩,rfl⟩
     cases hla:Yx f l.Out r k with
     | none=>exact((aAS.1 hla _ hm) (by simp[hL])).elim
     | some y =>
      rw[only y (by simpa using List.find?_some hla)];rfl
    grind [AnX,Yx]
   ·have hkt:OO r.Keep k=true:=by simp_all
    refine Hs.loop (λi=>∃ j:Nat,i=(j:Int)/\j<=(Ou l.Out k).length/\∀ y∈(Ou l.Out k).take j,¬ Zk f l.Out r k y) (λi=>(Ou l.Out k).length-i.toNat) ⟨0,rfl,aAE _,λy hy=>by simp at hy⟩ ?_
    rintro _ ⟨j,rfl,hj,hno⟩;unfold Zs;simp only[PE,hrow.1,aA];refine .dec (λhlt=>?_) λhge=>.lft (.pure ?_)
    ·have hlt:j<(Ou l.Out k).length:=by omega
     have hgx:(Ou l.Out k)[j]? =some (Ou l.Out k)[j]:=aAA _;have hxm:=aAL hlt;have htk:(Ou l.Out k).take (j+1)=(Ou l.Out k).take j++[(Ou l.Out k)[j]]:=by simp_all
     generalize(Ou l.Out k)[j]=y at hgx hxm htk;have hy0:=(hrow.2.1.2 y hxm).1;have hyn:=hrow.2.2 y hxm;have stp:¬ Zk f l.Out r k y->∀ z∈(Ou l.Out k).take (j+1),¬ Zk f l.Out r k z:=by
      grind
     simp only[hgx,tg _ hy0 hyn,tg _ hA.1 hA.2,aA];rw[NQ (by omega)]
     refine .bne (λh1=>.beq (λh2=>.lft (.pure ?_)) λh2=>?_) λh1=>?_
     ·have hL:Zk f l.Out r k y:=⟨hdef,hnm,hxm,⟨λ_=>h1,λ_=>hkt⟩,h2⟩
      rw[Yx,Ats hgx (by simp[hL]) λz hz=>by simp_all]
      rfl
     ·exact .cnt ⟨⟨j+1,rfl,hlt,stp λh=>h2 h.2.2.2.2⟩,by grind⟩
     ·exact .cnt ⟨⟨j+1,rfl,hlt,stp λh=>h.2.2.2.1.1 hkt h1⟩,by grind⟩
    ·rw[none' λy hy=>hno y (by rw[aAj (by omega)];exact hy.2.2.1) hy]
     rfl
  refine .beq (λh17=>?_) λh17=>inner λh=>h17 h.1
  have hB:=hf.uses _ hx.2 (NO f k).B (by grind [QQ])
  rw[tg _ hA.1 hA.2,aA,tg _ hB.1 hB.2,aA];refine .beq (λh=>.pure ?_) λh=>inner λh'=>h h'.2
  rw[none' λy hy=>hy.2.1 ⟨h17,h⟩]
  rfl
 ·rw[if_neg hdef];refine .pure ?_;rw[none' λy hy=>hdef hy.1]
  rfl
theorem AoK (hf:OL f) (hd:QZ f) {l:Ox} (hl:QB l.Out) (r:Oi):Hs (Za f l r) λq=>(Acc f l.Out/\Tf f r->Abp f l.Out r q)/\(¬ (Acc f l.Out/\Tf f r)->q=(0,0,false)):=by
 have hlen:=hf.len';refine(AcK hf hl).bind λe he=>.bne (λh=>.pure ⟨λh'=>(h (he.2.2 h'.1)).elim,λ_=>rfl⟩) λh=>?_
 have ha:=he.2.1 h;refine(ZH hf r).bind λe he=>.bne (λh=>.pure ⟨λh'=>(h (he.2.2 h'.2)).elim,λ_=>rfl⟩) λh=>?_
 have hr:=he.2.1 h;refine Hs.mono (P:=Abp f l.Out r) ?_ λq hq=>⟨λ_=>hq,λh'=>(h' ⟨ha,hr⟩).elim⟩
 refine Hs.loop (λi=>∃ k:Nat,i=(k:Int)/\k<=f.Code.length/\∀ j<k,Yx f l.Out r j=none) (λi=>f.Code.length-i.toNat) ⟨0,rfl,aAE _,λj hj=>absurd hj (aAX _)⟩ ?_
 rintro _ ⟨k,rfl,hk,hall⟩;refine .dec (λhlt=>?_) λhge=>.lft (.pure (Or.inr ⟨λj hj=>hall j (by omega),rfl⟩))
 have hlt:k<f.Code.length:=by omega
 refine(AoM hf hd ha.1 hr hlt).bind λq hq=>?_
 subst hq;cases hlk:Yx f l.Out r k with
 | some y=>exact .lft (.pure (Or.inl ⟨k,y,hlt,hlk,hall,rfl⟩))
 | none =>
  simp only[AnX,cond_false];rw[NQ (by omega)]
  refine .cnt ⟨⟨k+1,rfl,hlt,λj hj=>?_⟩,by grind⟩
  grind
theorem ApC (hf:OL f) (hd:QZ f) {l:Ox} (hl:QB l.Out) (r:Oi) :
  Hs (Acl f l r) λe=>(¬ Acc f l.Out/\e=11)\/(Acc f l.Out/\(¬ Tf f r\/∃ k y,k<f.Code.length/\Zk f l.Out r k y)/\e=12)\/(Acc f l.Out/\Tf f r/\(∀ k y,k<f.Code.length->¬ Zk f l.Out r k y)/\e=0):=by
 refine(AcK hf hl).bind λe he=>.bne (λh=>.pure (.inl ⟨λh'=>h (he.2.2 h'),he.1.resolve_left h⟩)) λh=>?_
 have ha:=he.2.1 h;refine(AoK hf hd hl r).bind λq hq=>.cond (λh=>.pure (.inr (.inl ⟨ha,?_,rfl⟩))) λh=>(ZH hf r).bind λe he=>.bne (λh=>.pure (.inr (.inl ⟨ha,.inl λh'=>h (he.2.2 h'),rfl⟩))) λh'=>.pure (.inr (.inr ⟨ha,he.2.1 h',λk y hk hy=>?_,rfl⟩))
 ·by_cases hr:Tf f r
  ·exact .inr ((hq.1 ⟨ha,hr⟩).found.1 h)
  simp_all
 ·rw[(hq.1 ⟨ha,he.2.1 h'⟩).found.2 ⟨k,y,hk,hy⟩]at h;cases h
end Go.Proofs.YtmmchhpdaogopaaGreatDoor
namespace Go.Dw
open Go
theorem AsY (x k w:Nat) (hx:x<2 ^ w) (hk:k<=w):x &&& (2 ^ w-1-(2 ^ k-1))=x / 2 ^ k*2 ^ k:=by
 have hle:2 ^ k<=2 ^ w:=aAJ (by omega) hk
 have h0:0<2 ^ k:=aAh k;apply Nat.eq_of_testBit_eq
 grind [Nat.testBit_lt_two_pow,Nat.lt_of_lt_of_le,aAJ]
theorem AvB (x:Int) (k:Nat) (hk:k<=24) (h0:0<=x) (h1:x<4611686018427387904) :
  IntKind.i64.wrap (((aAK IntKind.i64.bits x &&& ~~~ aAK IntKind.i64.bits ((2 ^ k-1:Nat):Int)).toNat:Nat):Int)=x-x % ((2 ^ k:Nat):Int):=by
 obtain⟨n,rfl⟩:∃ n:Nat,x=(n:Int):=⟨x.toNat,by omega⟩
 have hp:2 ^ k<=2 ^ 24:=aAJ (by omega) hk
 have hp0:0<2 ^ k:=aAh k;have hn:n<2 ^ 64:=by omega
 have hb:IntKind.i64.bits=64:=rfl;rw[hb,aAd,BitVec.toNat_not];have e1:(aAK 64 (n:Int)).toNat=n:=by simp;omega
 have e2:(aAK 64 ((2 ^ k-1:Nat):Int)).toNat=2 ^ k-1:=by
  grind
 rw[e1,e2,AsY n k 64 hn (by omega)]
 have hm:=Nat.div_add_mod n (2 ^ k)
 grind [wrap64]
end Go.Dw
namespace Go.Proofs.YtmmchhpdaogopaaGreatDoor
open Go Go.Dw Go.Proofs
variable {x:NJ} {p:NL} {i s:Int} {f:NI} {l g:List (List Int)} {k:Nat} {r:List Int×Int} {fr:OD} {z:OQ×Int} {c:Lo}
theorem Aiz (n:Int):SH n=some (decide (0<=n/\n<=2147483647)):=by
 rw[<- Yo];rfl
theorem ArN (a:On):Yt a=some (decide (Tc a)):=by
 rw[<- Ahn]
 grind [Yt,Rp,Aiz,Yo]
theorem Alf {m:Nat} (hm:m<=24):QD ((2 ^ m:Nat):Int)=some true:=by
 have hp:2 ^ m<=2 ^ 24:=aAJ (by omega) hm
 have h0:0<2 ^ m:=aAh m;have hz:(2 ^ m) &&& (2 ^ m-1)=0:=by simp_all
 unfold QD;generalize 2 ^ m=a at *;rw[decide_eq_true (show((a:Nat):Int)>=1 by omega),cond_true,decide_eq_true (show((a:Nat):Int)<=16777216 by omega),cond_true,wrap64 (n:=(a:Int)-1) (by omega) (by omega)]
 have hb:IntKind.i64.bits=64:=rfl;have e1:(aAK 64 (a:Int)).toNat=a:=by grind
 have e2:(aAK 64 ((a:Int)-1)).toNat=a-1:=by grind
 rw[hb,aAd,e1,e2,hz];rfl
theorem Apw {a u v:Int} (ha:0<a) (hu:u % a=0) (hv:v % a=0) (h1:u-v<a) (h2:v-u<a):u=v:=by
 obtain⟨p,rfl⟩:=aAe hu;obtain⟨q,rfl⟩:=aAe hv;have key:∀ x y:Int,x<y->a*x+a<=a*y:=λx y h=>by
  have:=Int.mul_le_mul_of_nonneg_left (show x+1<=y by omega) (show 0<=a by omega)
  grind
 rcases Int.lt_trichotomy p q with h|h|h
 ·grind
 ·rw[h]
 ·have:=key q p h;omega
theorem AuP {n a:Int} (h0:0<=n) (h1:n<=4000000000) (ha:QA a):AcF n a=some (upN n a):=by
 obtain⟨a1,a2⟩:=ha.rng;obtain⟨m,hm,rfl⟩:=ha;obtain⟨p1,p2,p3⟩:=UW (n:=n) (a:=((2 ^ m:Nat):Int)) (by omega)
 unfold AcF;have w1:IntKind.i64.wrap (n+((2 ^ m:Nat):Int))=n+((2 ^ m:Nat):Int):=wrap64 (by omega) (by omega)
 have w2:IntKind.i64.wrap (n+((2 ^ m:Nat):Int)-1)=n+((2 ^ m:Nat):Int)-1:=wrap64 (by omega) (by omega)
 have w3:IntKind.i64.wrap (((2 ^ m:Nat):Int)-1)=((2 ^ m-1:Nat):Int):=by grind [wrap64]
 rw[w1,w2,w3,AvB _ m hm (by omega) (by omega)]
 have key:n+((2 ^ m:Nat):Int)-1-(n+((2 ^ m:Nat):Int)-1) % ((2 ^ m:Nat):Int)=upN n ((2 ^ m:Nat):Int):=by
  refine Apw (a:=((2 ^ m:Nat):Int)) (by omega) ?_ p3 (by omega) (by omega)
  simp_all
 rw[key]
theorem ArP {n a:Int} (h0:0<=n) (h1:n<=1000000000) (ha:QA a):Aaq n a=some (upN n a,0):=by
 have h2:=AuP h0 (by omega) ha
 obtain⟨a1,a2⟩:=ha.rng;obtain⟨p1,p2,p3⟩:=UW (n:=n) (a:=a) (by omega)
 have hp:QD a=some true:=by obtain⟨m,hm,rfl⟩:=ha;exact Alf hm
 unfold Aaq;rw[Aiz,aA,decide_eq_true (show 0<=n/\n<=2147483647 by omega)]
 simp only[aAR,cond_false,hp,aA];unfold AaL Tl
 grind
theorem ApR {x y:Int} (hx:0<=x/\x<=1000000000) (hy:0<=y/\y<=1000000000):UF x y=some (x+y,0):=by
 grind [UF,XB,Tl,Aiz,wrap64]
theorem AqU (a b:On):Ux a b=some (decide (AgI a b)):=by
 unfold Ux;simp only[Ahn,aA]
 by_cases h1:Tc a
 ·by_cases h2:Tc b
  ·have e1:IntKind.i64.wrap (b.Off+b.Size)=b.Off+b.Size:=by grind [Tc,wrap64]
   have e2:IntKind.i64.wrap (a.Off+a.Size)=a.Off+a.Size:=by grind [Tc,wrap64]
   simp only[h1,h2,decide_true,cond_true,e1,e2,AgI,true_and]
   grind
  grind [AgI]
 grind [AgI]
theorem AqE (a:On) (n:Int):SV a n=some (decide (InI a n)):=by
 rw[<- Ane]
 grind [SV,WO,ArN,Ahn]
theorem AoG (hi:ixO p.Funcs i=some f) (hl:f.Code.length<=10000) (h:ZR p f):Yz p i=some (16*PY p f f.Code.length):=by
 have:Hs (Yz p i) λr=>r=16*PY p f f.Code.length:=by
  unfold Yz;rw[hi,aA];refine Hs.loop (λq=>∃ k:Nat,q=((k:Int),PY p f k)/\k<=f.Code.length) (λq=>f.Code.length-q.1.toNat) ⟨0,rfl,aAE _⟩ ?_
  rintro _ ⟨k,rfl,hk⟩;have hr:=Xk h hk;refine .dec (λhlt=>?_) λhge=>.lft (.pure ?_)
  ·have hlt:k<f.Code.length:=by omega
   have e:ixO f.Code (k:Int)=some f.Code[k]:=by simp_all
   obtain⟨h1,h2⟩:=h _ (aAL hlt);simp only[e,aA];rw[NQ (by omega)]
   refine .beq (λh18=>?_) λh18=>.beq (λh22=>?_) λh22=>?_
   ·rw[wrap64 (by omega) (by omega)]
    exact .cnt ⟨⟨k+1,by grind [VL,VB],hlt⟩,by grind⟩
   ·obtain⟨a0,g,hg,hp⟩:=h2 h22;rw[Py _ a0,hg,aA];exact .cnt ⟨⟨k+1,by grind [VL,VB],hlt⟩,by grind⟩
   ·exact .cnt ⟨⟨k+1,by grind [VL,VB],hlt⟩,by grind⟩
  ·have:k=f.Code.length:=by omega
   subst this;rw[wrap64 (by omega) (by omega)]
   exact rfl
 obtain⟨r,h,rfl⟩:=this;exact h
theorem AoH (hi:ixO p.Funcs i=some f) (hl:f.Code.length<=10000) (h:ZR p f) (hs:Zx f.Slots) {al:Int} (ha:QA al) (ha':al<=16777216):SX p i al=some (PG p f al,0):=by
 have hr:=Xk h (k:=f.Code.length) (aAO _);have hsl:=hs.1;have:Hs (SX p i al) λr=>r=(PG p f al,0):=by
  unfold SX;rw[AoG hi hl h,aA,hi,aA];unfold PG;have hr2:0<=16*PY p f f.Code.length/\16*PY p f f.Code.length<=128:=by omega
  generalize 16*PY p f f.Code.length=a0 at *;refine Hs.loop (λq=>∃ k:Nat,q=((plK f.Slots a0 k).1,(k:Int),(plK f.Slots a0 k).2)/\k<=f.Slots.length) (λq=>f.Slots.length-q.2.1.toNat) ⟨0,rfl,aAE _⟩ ?_
  rintro _ ⟨k,rfl,hk⟩;obtain⟨q1,q2,q3⟩:=AbC hs (a:=a0) (by omega) hk
  dsimp only;refine .dec (λhlt=>?_) λhge=>.lft ?_
  ·have hlt:k<f.Slots.length:=by omega
   have e:ixO f.Slots (k:Int)=some f.Slots[k]:=by simp_all
   obtain⟨h1,h2,h3,h4⟩:=hs.2 _ (aAL hlt);obtain⟨u1,u2,_⟩:=UW (n:=(plK f.Slots a0 k).2) (a:=f.Slots[k].Align) (by have:=h1.rng;omega)
   simp only[e,aA];rw[ArP (by omega) (by omega) h1,aA]
   rw[ApR (by omega) (by omega),aA]
   refine .chk (by simp;omega) ?_
   rw[NQ (by omega)]
   exact .cnt ⟨⟨k+1,by grind [AbD,Aed],hlt⟩,by grind⟩
  ·have:k=f.Slots.length:=by omega
   subst this;obtain⟨u1,u2,_⟩:=UW (n:=(plK f.Slots a0 f.Slots.length).2) (a:=al) (by have:=ha.rng;omega)
   unfold AdB XD;rw[ArP (by omega) (by omega) ha,aA]
   rw[ApR (by omega) (by omega),aA]
   exact .pure rfl
 obtain⟨r,h,rfl⟩:=this;exact h
def VY (y:NT) (s:Int):Int:=(y.Off[s.toNat]?).getD 0
def Wz (f:NI) (l:List (List Int)) (y:NT) (k:Nat) (s:Int):Prop :=
 ((NO f k).Op=16\/(NO f k).Op=17)/\¬ ((NO f k).Op=17/\VY y (NO f k).A=VY y (NO f k).B)/\s∈Ou l k/\s≠(NO f k).A/\AgI ⟨VY y s,Qj f s⟩ ⟨VY y (NO f k).A,Qj f (NO f k).A⟩
instance {f:NI} {l:List (List Int)} {y:NT} {k:Nat} {s:Int}:Decidable (Wz f l y k s):=by unfold Wz;infer_instance
theorem Wz.mono {l':List (List Int)} {y:NT} (h:Wz f l' y k s) (hs:∀ v∈Ou l' k,v∈Ou l k):Wz f l y k s :=
 ⟨h.1,h.2.1,hs s h.2.2.1,h.2.2.2⟩
def UX (f:NI) (l:List (List Int)) (y:NT) (k:Nat):Option Int:=(Ou l k).find? λs=>decide (Wz f l y k s)
def Aou (o:Option Int):Int×Bool:=match o with|some y=>(y,true)|none=>(0,false)
theorem Atr {l:List Int} {p:Int->Bool} {j:Nat} {y:Int} (h:l[j]? =some y) (hp:p y=true) (hn:∀ z∈l.take j,p z=false):l.find? p=some y:=by
 grind [aAi,aAk]
theorem Aig {y:NT}:UX f l y k=none↔∀ s,¬ Wz f l y k s:=by
 unfold UX;rw[aAS];exact⟨λh s hs=>by have:=h s hs.2.2.1;simp_all,λh s _=>by simp[h s]⟩
theorem Aom {y:NT} (h:UX f l y k=some s):Wz f l y k s:=by
 grind [UX]
theorem Agg {y:NT} (hl:y.Off.length=f.Slots.length) (h0:0<=s) (h1:s<f.Slots.length):ixO y.Off s=some (VY y s):=by
 grind [Py,VY]
theorem AmM (h0:0<=s) (h1:s<f.Slots.length):∃ x,ixO f.Slots s=some x/\x.Size=Qj f s:=by
 have e:f.Slots[s.toNat]? =some (f.Slots[s.toNat]'(by omega)):=aAA _
 grind [Py,AdF]
section
variable {p:NL} {i:Int} {f:NI} {al:Int} (h:AeJ p i f al)
 include h
theorem Asi {y:NT} (hyl:y.Off.length=f.Slots.length) {l:Ox} (hl:Sd f l.Out) (hk:k<f.Code.length) :
  Hs (ZN f l y (k:Int)) λq=>q=Aou (UX f l.Out y k):=by
 have hx:=h.SI.at (j:=(k:Int)) (by omega) (by omega)
 have hrow:=hl.at (j:=(k:Int)) (by omega) (by omega)
 rw[aAH]at hx hrow;have hlo:=hrow.2.1.length_le;have none':(∀ s,¬ Wz f l.Out y k s)->UX f l.Out y k=none:=Aig.2;unfold ZN;simp only[PE,hx.1,aA,AdN,AcZ]
 by_cases hdef:(NO f k).Op=16\/(NO f k).Op=17
 ·rw[if_pos hdef];have hA:=h.defs _ hx.2 hdef;obtain⟨xA,eA,hxA⟩:=AmM (f:=f) hA.1 hA.2;have inner:¬ ((NO f k).Op=17/\VY y (NO f k).A=VY y (NO f k).B)->Hs (Xa l (k:Int) ((NO f k).A,true) y f) λq=>q=Aou (UX f l.Out y k):=by
   intro hnm;refine Hs.loop (λi=>∃ j:Nat,i=(j:Int)/\j<=(Ou l.Out k).length/\∀ s∈(Ou l.Out k).take j,¬ Wz f l.Out y k s) (λi=>(Ou l.Out k).length-i.toNat) ⟨0,rfl,aAE _,λy hy=>by simp at hy⟩ ?_
   rintro _ ⟨j,rfl,hj,hno⟩;unfold AbT;rw[PE,hrow.1,aA];refine .dec (λhlt=>?_) λhge=>.lft (.pure ?_)
   ·have hlt:j<(Ou l.Out k).length:=by omega
    have hgx:(Ou l.Out k)[j]? =some (Ou l.Out k)[j]:=aAA _;have hxm:=aAL hlt;have htk:(Ou l.Out k).take (j+1)=(Ou l.Out k).take j++[(Ou l.Out k)[j]]:=by simp_all
    generalize(Ou l.Out k)[j]=s at hgx hxm htk;have hs0:=(hrow.2.1.2 s hxm).1;have hsn:=hrow.2.2 s hxm;obtain⟨xS,eS,hxS⟩:=AmM (f:=f) hs0 hsn;have stp:¬ Wz f l.Out y k s->∀ z∈(Ou l.Out k).take (j+1),¬ Wz f l.Out y k z:=by
     grind
    rw[aA,PE,hgx,aA];simp only[Agg hyl hs0 hsn,Agg hyl hA.1 hA.2,eS,eA,hxS,hxA,aA,AqU];rw[NQ (by omega)]
    refine .bne (λh1=>.cond (λh2=>.lft (.pure ?_)) λh2=>?_) λh1=>?_
    ·have hL:Wz f l.Out y k s:=⟨hdef,hnm,hxm,h1,of_decide_eq_true h2⟩;rw[UX,Atr hgx (by simp[hL]) λz hz=>by simp_all]
     rfl
    ·exact .cnt ⟨⟨j+1,rfl,hlt,stp λh=>by rw[decide_eq_true h.2.2.2.2]at h2;cases h2⟩,by grind⟩
    ·exact .cnt ⟨⟨j+1,rfl,hlt,stp λh=>h.2.2.2.1 h1⟩,by grind⟩
   ·rw[none' λs hs=>hno s (by rw[aAj (by omega)];exact hs.2.2.1) hs]
    rfl
  refine .beq (λh17=>?_) λh17=>inner λh=>h17 h.1
  have hB:=h.SI.uses _ hx.2 (NO f k).B (by grind [QQ])
  rw[Agg hyl hA.1 hA.2,aA,Agg hyl hB.1 hB.2,aA];refine .beq (λh=>.pure ?_) λh=>inner λh'=>h h'.2
  rw[none' λs hs=>hs.2.1 ⟨h17,h⟩]
  rfl
 ·rw[if_neg hdef];refine .pure ?_;rw[none' λs hs=>hdef hs.1]
  rfl
end
def Aaa (f:NI) (l:List (List Int)) (y:NT) (q:Int×Int×Bool):Prop :=
 (∃ (k:Nat) (s:Int),k<f.Code.length/\UX f l y k=some s/\(∀ j<k,UX f l y j=none)/\q=((k:Int),s,true))\/((∀ j<f.Code.length,UX f l y j=none)/\q=(0,0,false))
theorem Aaa.unique {y:NT} {q p:Int×Int×Bool} (h:Aaa f l y q) (h':Aaa f l y p):q=p:=by
 rcases h with⟨k,s,hk,h1,h2,rfl⟩|⟨h1,rfl⟩<;>rcases h' with⟨k',s',hk',h1',h2',rfl⟩|⟨h1',rfl⟩
 all_goals grind
theorem Aaa.found {y:NT} {q:Int×Int×Bool} (h:Aaa f l y q):q.2.2=true↔∃ k s,k<f.Code.length/\Wz f l y k s:=by
 rcases h with⟨k,s,hk,h1,h2,rfl⟩|⟨h1,rfl⟩
 all_goals grind [Aom,Aig]
def AdJ (p:NL) (f:NI) (al:Int) (l:List (List Int)) (y:NT) (e:Int):Prop :=
 (¬ Tg p f al y/\e=13)\/(Tg p f al y/\¬ Acc f l/\e=11)\/(Tg p f al y/\Acc f l/\(∃ k s,k<f.Code.length/\Wz f l y k s)/\e=13)\/(Tg p f al y/\Acc f l/\(∀ k s,k<f.Code.length->¬ Wz f l y k s)/\e=0)
theorem AdJ.unique {al:Int} {y:NT} {a b:Int} (h:AdJ p f al l y a) (h':AdJ p f al l y b):a=b:=by
 rcases h with⟨h1,rfl⟩|⟨h1,h2,rfl⟩|⟨h1,h2,⟨k,s,hk,hc⟩,rfl⟩|⟨h1,h2,h3,rfl⟩<;>rcases h' with⟨k1,rfl⟩|⟨k1,k2,rfl⟩|⟨k1,k2,⟨k',s',hk',hc'⟩,rfl⟩|⟨k1,k2,k3,rfl⟩ <;>
  first|rfl|exact(h1 k1).elim|exact(k1 h1).elim|exact(h2 k2).elim|exact(k2 h2).elim|exact(k3 _ _ hk hc).elim|simp_all
section
variable {p:NL} {i:Int} {f:NI} {al:Int} (h:AeJ p i f al)
 include h
theorem Apv {y:NT} (hyl:y.Off.length=f.Slots.length) {l:Ox} (hl:Sd f l.Out):Hs (Zc p i l y) (Aaa f l.Out y):=by
 have hlen:=h.SI.len';refine Hs.loop (λi=>∃ k:Nat,i=(k:Int)/\k<=f.Code.length/\∀ j<k,UX f l.Out y j=none) (λi=>f.Code.length-i.toNat) ⟨0,rfl,aAE _,λj hj=>absurd hj (aAX _)⟩ ?_
 rintro _ ⟨k,rfl,hk,hall⟩;unfold AbR;rw[h.hi,aA];refine .dec (λhlt=>?_) λhge=>.lft (.pure (Or.inr ⟨λj hj=>hall j (by omega),rfl⟩))
 have hlt:k<f.Code.length:=by omega
 refine(Asi h hyl hl hlt).bind λq hq=>?_
 subst hq;cases hlk:UX f l.Out y k with
 | some s=>exact .lft (.pure (Or.inl ⟨k,s,hlt,hlk,hall,rfl⟩))
 | none =>
  simp only[Aou,cond_false];rw[NQ (by omega)]
  refine .cnt ⟨⟨k+1,rfl,hlt,λj hj=>?_⟩,by grind⟩
  grind
theorem Apu (y:NT) {l:Ox} (hl:QB l.Out):Hs (Acn p i al l y) λq=>(Tg p f al y/\Acc f l.Out->Aaa f l.Out y q)/\(¬ (Tg p f al y/\Acc f l.Out)->q=(0,0,false)):=by
 refine(AjY h y).bind λe he=>.bne (λhne=>.pure ⟨λhh=>(hne (he.2.2 hh.1)).elim,λ_=>rfl⟩) λh0=>?_
 rw[h.hi,aA];refine(AcK h.SI hl).bind λc hc=>.bne (λhne=>.pure ⟨λhh=>(hne (hc.2.2 hh.2)).elim,λ_=>rfl⟩) λhc0=>?_
 have hs:=he.2.1 h0;have ha:=hc.2.1 hc0;exact(Apv h hs.2.1 ha.1).mono λq hq=>⟨λ_=>hq,λhn=>(hn ⟨hs,ha⟩).elim⟩
theorem AjX (y:NT) {l:Ox} (hl:QB l.Out):Hs (ZM p i al l y) (AdJ p f al l.Out y):=by
 refine(AjY h y).bind λe he=>.bne (λhne=>.pure (.inl ⟨λhs=>hne (he.2.2 hs),?_⟩)) λh0=>?_
 ·omega
 rw[h.hi,aA];refine(AcK h.SI hl).bind λc hc=>.bne (λhne=>.pure (.inr (.inl ⟨he.2.1 h0,λha=>hne (hc.2.2 ha),?_⟩))) λhc0=>?_
 ·omega
 have hs:=he.2.1 h0;have ha:=hc.2.1 hc0;refine(Apu h y hl).bind λq hq=>?_
 replace hq:=hq.1 ⟨hs,ha⟩;refine .cond (λhb=>.pure (.inr (.inr (.inl ⟨hs,ha,hq.found.1 hb,rfl⟩)))) λhb=>.pure (.inr (.inr (.inr ⟨hs,ha,λk s hk hc=>?_,rfl⟩)))
 rw[hq.found.2 ⟨k,s,hk,hc⟩]at hb;cases hb
end
open Go Go.Dw Go.Proofs
theorem AtV:∀ k:Fin 17,Wj ((k:Nat):Int)=TH ((k:Nat):Int)/\(TH ((k:Nat):Int)).isSome=true:=by decide +kernel
theorem Ant (n:Int):∃ b,Wj n=some b/\TH n=some b:=by
 by_cases h:1<=n/\n<=16
 ·have:=AtV ⟨n.toNat,by omega⟩
  grind [Option.isSome_iff_exists]
 ·refine⟨false,?_,?_⟩
  ·grind [Wj]
  ·unfold TH;have e1:(n==1)=false:=by simp;omega
   have e2:(n==2)=false:=by simp;omega
   have e3:(n==4)=false:=by simp;omega
   have e4:(n==8)=false:=by simp;omega
   have e5:(n==16)=false:=by simp;omega
   grind
def Pw (n:Int):Prop:=∃ i:Nat,i<=24/\n=(2 ^ i:Nat)
theorem AiY (n:Int) (j:Nat) (hj:j<=24):RK n ((2 ^ j:Nat):Int)=if n=(2 ^ j:Nat)then some (.inr true)else some (.inl ((2 ^ (j+1):Nat):Int)):=by
 have h1:2 ^ j<=2 ^ 24:=aAJ (by decide) hj
 have h2:(2 ^ j:Nat)<=16777216:=by omega
 have w:IntKind.i64.wrap (((2 ^ j:Nat):Int)*2)=((2 ^ (j+1):Nat):Int):=by
  grind [wrap64]
 unfold RK;have hd:decide (((2 ^ j:Nat):Int)<=16777216)=true:=by grind
 simp_all
theorem Asp (n:Int):∀ (d j:Nat),j+d<=24->n=(2 ^ (j+d):Nat)->NZ (λs=>RK n s) ((2 ^ j:Nat):Int)=some true:=by
 intro d
 induction d with
 | zero =>
  intro j hj hn;rw[PX];rw[AiY n j (by omega),if_pos (by omega)]
 | succ d ih =>
  intro j hj hn;rw[PX];rw[AiY n j (by omega),if_neg]
  ·grind
  ·have:2 ^ j<2 ^ (j+(d+1)):=Nat.pow_lt_pow_right (by decide) (by omega)
   omega
theorem AlP (n:Int) (h:¬ Pw n):∀ (d j:Nat),j+d=25->NZ (λs=>RK n s) ((2 ^ j:Nat):Int)=some false:=by
 intro d
 induction d with
 | zero =>
  simp_all[PX,RK]
 | succ d ih =>
  intro j hj;rw[PX];rw[AiY n j (by omega),if_neg (λe=>h ⟨j,by omega,e⟩)]
  grind
theorem Ave {i:Nat} (h:2 ^ i<=16777216):i<=24:=by
 by_cases hi:i<=24
 ·exact hi
 ·have:2 ^ 25<=2 ^ i:=aAJ (by decide) (by omega)
  omega
theorem Als (n:Int):∃ b,QD n=some b/\RB n=some b:=by
 have hr:RB n=NZ (λs=>RK n s) ((2 ^ 0:Nat):Int):=rfl
 by_cases h:1<=n/\n<=16777216
 ·obtain⟨m,rfl⟩:∃ m:Nat,n=m:=⟨n.toNat,by omega⟩
  have e1:QD (m:Int)=some (decide (m &&& (m-1)=0)):=by
   unfold QD;have h1:((m:Int)>=1):=h.1;have h2:((m:Int)<=16777216):=h.2;have w:IntKind.i64.wrap ((m:Int)-1)=((m-1:Nat):Int):=by grind [wrap64]
   have t1:(aAK IntKind.i64.bits (m:Int)).toNat=m:=by
    show(aAK 64 (m:Int)).toNat=m
    grind
   have t2:(aAK IntKind.i64.bits ((m-1:Nat):Int)).toNat=m-1:=by
    grind
   have hle:m &&& (m-1)<=m:=Nat.and_le_left;have w2:IntKind.i64.wrap ((m &&& (m-1):Nat):Int)=((m &&& (m-1):Nat):Int):=wrap64 (by omega) (by omega)
   rw[decide_eq_true h1,cond_true,decide_eq_true h2,cond_true,w,aAd,t1,t2,w2];congr 1
   grind
  by_cases hp:m &&& (m-1)=0
  ·obtain⟨i,hi⟩:=(aAQ (show m≠0 by omega)).1 hp
   refine⟨true,by simp_all,?_⟩
   exact Asp _ i 0 (by have:=Ave (i:=i) (by omega);omega) (by simp_all)
  ·refine⟨false,by simp_all,?_⟩
   refine AlP _ (λ⟨i,_,hi⟩=>hp ?_) 25 0 (by omega)
   exact(aAQ (show m≠0 by omega)).2 ⟨i,by omega⟩
 ·refine⟨false,?_,?_⟩
  ·grind [QD]
  ·rw[hr];refine AlP _ (λ⟨i,hi24,hi⟩=>h ?_) 25 0 (by omega)
   have h1:2 ^ i<=2 ^ 24:=aAJ (by decide) hi24
   grind
noncomputable def Yh (x:Og):Bool:=(TH x.Size).getD false&&(RB x.Align).getD false
theorem ArO (x:Og):WJ x=some (!Yh x):=by
 obtain⟨a,a1,a2⟩:=Ant x.Size;obtain⟨b,b1,b2⟩:=Als x.Align
 grind [WJ,Yh]
def AhY (s:List Og) (e:Int):Prop:=(512<s.length/\e=3)\/(s.length<=512/\(∀ x∈s,Yh x=true)/\e=0)\/(s.length<=512/\(∃ x∈s,Yh x=false)/\e=5)
theorem AhY.one {s:List Og} {a b:Int} (h:AhY s a) (k:AhY s b):a=b:=by
 rcases h with⟨h1,h2⟩|⟨h1,h2,h3⟩|⟨h1,⟨x,h2,h3⟩,h4⟩<;>rcases k with⟨k1,k2⟩|⟨k1,k2,k3⟩|⟨k1,⟨y,k2,k3⟩,k4⟩<;>first
  | omega
  | (simp_all)
  | simp_all
theorem Aoq (s:List Og):Hs (WI s) (AhY s):=by
 refine .dec (λh=>.pure (.inl ⟨by omega,rfl⟩)) λh=>?_
 have hl:s.length<=512:=by omega
 have key:Hs (NZ (λst=>QF s st) 0) λr=>(r= -1/\∀ x∈s,Yh x=true)\/(0<=r/\∃ x∈s,Yh x=false):=by
  refine Hs.loop (λi=>0<=i/\i<=s.length/\∀ (j:Nat) x,(j:Int)<i->s[j]? =some x->Yh x=true) (λi=>s.length-i.toNat) ⟨by omega,by omega,λj x h=>by omega⟩ ?_
  rintro i ⟨h0,h1,h2⟩;refine .dec (λhlt=>?_) λhlt=>?_
  ·refine(Hs.ix h0 hlt λx hx=>hx).bind λx hx=>?_
   rw[ArO,aA];refine .cond (λhb=>.lft (.pure (.inr ⟨h0,x,aAB hx,by simp_all⟩))) λhb=>?_
   have w:IntKind.i64.wrap (i+1)=i+1:=wrap64 (by omega) (by omega)
   rw[w];refine .cnt ⟨⟨by omega,by omega,λj y hj hy=>?_⟩,by grind⟩
   grind
  ·refine .lft (.pure (.inl ⟨rfl,λx hx=>?_⟩))
   grind [aAW]
 refine Hs.bind (P:=λb=>(b=false/\∀ x∈s,Yh x=true)\/(b=true/\∃ x∈s,Yh x=false)) (key.bind λr hr=>.pure ?_) λb hb=>?_
 ·grind
 ·rcases hb with⟨rfl,h⟩|⟨rfl,h⟩
  ·exact .pure (.inr (.inl ⟨hl,h,rfl⟩))
  ·exact .pure (.inr (.inr ⟨hl,h,rfl⟩))
theorem Ano (s:List Og):Hs (UP s) (AhY s):=by
 refine .dec (λh=>.pure (.inl ⟨by omega,rfl⟩)) λh=>?_
 have hl:s.length<=512:=by omega
 refine Hs.loop (λi=>0<=i/\i<=s.length/\∀ (j:Nat) x,(j:Int)<i->s[j]? =some x->Yh x=true) (λi=>s.length-i.toNat) ⟨by omega,by omega,λj x h=>by omega⟩ ?_
 rintro i ⟨h0,h1,h2⟩;refine .dec (λhlt=>?_) λhlt=>?_
 ·refine(Hs.ix h0 hlt λx hx=>hx).bind λx hx=>?_
  obtain⟨a,a1,a2⟩:=Ant x.Size;obtain⟨b,b1,b2⟩:=Als x.Align;have hg:Yh x=(a&&b):=by grind [Yh]
  rw[a2,aA];have hx':ixO s i=some x:=by grind [Py]
  cases a
  ·exact .lft (.pure (.inr (.inr ⟨hl,⟨x,aAB hx,hg⟩,rfl⟩)))
  ·rw[hx',aA,b2,aA];cases b
   ·exact .lft (.pure (.inr (.inr ⟨hl,⟨x,aAB hx,hg⟩,rfl⟩)))
   ·simp only[aAR,cond_false];have w:IntKind.i64.wrap (i+1)=i+1:=wrap64 (by omega) (by omega)
    rw[w];refine .cnt ⟨⟨by omega,by omega,λj y hj hy=>?_⟩,by grind⟩
    grind
 ·refine .lft (.pure (.inr (.inl ⟨hl,λx hx=>?_,rfl⟩)))
  grind [aAW]
theorem AlR (s:List Og):∃ e,WI s=some e/\UP s=some e/\(e=0->s.length<=512):=by
 obtain⟨a,a1,a2⟩:=Aoq s;obtain⟨b,b1,b2⟩:=Ano s;obtain rfl:=a2.one b2;exact⟨a,a1,b1,λh=>by rcases a2 with h1|h1|h1<;>omega⟩
def AiM (s:List Og):Int:=s.foldl (λa x=>Ph a x.Align) 16
theorem AkS (s:List Og):∃ a,WH s=some a/\TI s=some a:=by
 obtain⟨e,h1,h2,h3⟩:=AlR s;unfold WH TI;rw[h1,h2,aA,aA]
 by_cases he:e=0
 ·subst he;have hl:=h3 rfl;simp only[beq_self_eq_true,cond_true,bne_self_eq_false,cond_false];have p1:Hs (NZ (λq=>AaK s q.1 q.2) (0,16)) λa=>a=AiM s:=by
   refine Hs.loop (λq=>∃ k:Nat,q.1=(k:Int)/\k<=s.length/\q.2=AiM (s.take k)) (λq=>s.length-q.1.toNat) ⟨0,rfl,aAE _,rfl⟩ ?_
   rintro⟨_,_⟩ ⟨k,rfl,hk,rfl⟩;refine .dec (λhlt=>?_) λhge=>.lft (.pure ?_)
   ·have hlt:k<s.length:=by omega
    rw[PE,aAA hlt,aA,NQ (by omega)]
    refine .cnt ⟨⟨k+1,rfl,hlt,?_⟩,by grind⟩
    grind [AiM,aAM]
   ·have hkk:k=s.length:=by omega
    subst hkk;show AiM _=_;simp_all
  have p2:Hs (NZ (λq=>YN s q.1 q.2) (16,0)) λa=>a=AiM s:=by
   refine Hs.loop (λq=>∃ k:Nat,q.2=(k:Int)/\k<=s.length/\q.1=AiM (s.take k)) (λq=>s.length-q.2.toNat) ⟨0,rfl,aAE _,rfl⟩ ?_
   rintro⟨_,_⟩ ⟨k,rfl,hk,rfl⟩;refine .dec (λhlt=>?_) λhge=>.lft (.pure ?_)
   ·have hlt:k<s.length:=by omega
    rw[PE,aAA hlt,aA,NQ (by omega)]
    refine .cnt ⟨⟨k+1,rfl,hlt,?_⟩,by grind⟩
    grind [AiM,aAM]
   ·have hkk:k=s.length:=by omega
    subst hkk;show AiM _=_;simp_all
  obtain⟨a,q1,rfl⟩:=p1;obtain⟨b,q2,rfl⟩:=p2;simp_all
 grind
theorem Apz (p:NL) (hp:p.Funcs.length<=1000000):∃ a,RY p=some a/\Qi p=some a:=by
 have step:∀ k≤p.Funcs.length,∃ a:Int,∀ b:Int,True:=λ_ _=>⟨0,λ_=>trivial⟩
 let al:NI->Int:=λf=>Classical.choose (AkS f.Slots)
 have hal:∀ f:NI,WH f.Slots=some (al f)/\TI f.Slots=some (al f):=λf=>Classical.choose_spec (AkS f.Slots)
 let A:List NI->Int:=λl=>l.foldl (λa f=>Ph a (al f)) 16
 have hA:∀ k (hk:k<p.Funcs.length),A (p.Funcs.take (k+1))=Ph (A (p.Funcs.take k)) (al p.Funcs[k]):=λk hk=>by
  grind [aAM]
 have p1:Hs (RY p) λa=>a=A p.Funcs:=by
  refine Hs.loop (λq=>∃ k:Nat,q.2=(k:Int)/\k<=p.Funcs.length/\q.1=A (p.Funcs.take k)) (λq=>p.Funcs.length-q.2.toNat) ⟨0,rfl,aAE _,rfl⟩ ?_
  rintro⟨_,_⟩ ⟨k,rfl,hk,rfl⟩;refine .dec (λhlt=>?_) λhge=>.lft (.pure ?_)
  ·have hlt:k<p.Funcs.length:=by omega
   rw[PE,aAA hlt,aA,(hal _).1,aA,NQ (by omega)]
   exact .cnt ⟨⟨k+1,rfl,hlt,(hA k hlt).symm⟩,by grind⟩
  ·have hkk:k=p.Funcs.length:=by omega
   subst hkk;show A _=_;simp_all
 have p2:Hs (Qi p) λa=>a=A p.Funcs:=by
  refine Hs.loop (λq=>∃ k:Nat,q.2=(k:Int)/\k<=p.Funcs.length/\q.1=A (p.Funcs.take k)) (λq=>p.Funcs.length-q.2.toNat) ⟨0,rfl,aAE _,rfl⟩ ?_
  rintro⟨_,_⟩ ⟨k,rfl,hk,rfl⟩;refine .dec (λhlt=>?_) λhge=>.lft (.pure ?_)
  ·have hlt:k<p.Funcs.length:=by omega
   rw[PE,aAA hlt,aA,(hal _).2,aA,NQ (by omega)]
   exact .cnt ⟨⟨k+1,rfl,hlt,(hA k hlt).symm⟩,by grind⟩
  ·have hkk:k=p.Funcs.length:=by omega
   subst hkk;show A _=_;simp_all
 obtain⟨a,q1,rfl⟩:=p1;obtain⟨b,q2,rfl⟩:=p2;simp_all
theorem ApZ (p:NL) (f:NI) (hp:p.Funcs.length<=1000000) (h0:0<=i) (h1:i<p.Funcs.length):SW p i f=some ⟨p.Funcs.set i.toNat f⟩:=by
 unfold SW Aon ZD
 grind [Ot]
theorem Aho (p:NL) (f:NI) (hp:p.Funcs.length<=1000000) (h0:0<=i) (h1:i<p.Funcs.length):TL p i f=some ⟨p.Funcs.set i.toNat f⟩:=by
 grind [TL,ZV,Ot]
structure Akf (p:NL) (i:Int) (f:NI):Prop where
 hi:ixO p.Funcs i=some f
 arg:ZR p f
 so:∀ x∈f.Slots,Aay x
 sl:f.Slots.length<=40
 SI:OL f
 defs:QZ f
 ml:Yl f
 last:TO f
 calls:Acr p.Funcs.length f
 pl:p.Funcs.length<=1000
 all:∀ g∈p.Funcs,Zx g.Slots
theorem PF.opt (h:PF p) (hi:ixO p.Funcs i=some f):Akf p i f:=by
 obtain⟨i0,i1,hif⟩:=Xn hi;have hm:=aAB hif;have hg:=h.all f hm;have hl:=h.few;exact⟨hi,h.args hm,hg.slot,hg.slots,hg.SI,hg.defs,hg.Agf,hg.last,by have:=hg.calls;simp_all,by omega,λg hgm=>(h.all g hgm).Awt⟩
section
variable {p:NL} {i:Int} {f:NI} (h:Akf p i f)
 include h
theorem Akf.align:∃ al,RY p=some al/\Qi p=some al/\QA al/\16<=al/\al<=16777216:=by
 obtain⟨al,eal,eal'⟩:=Apz p (by have:=h.pl;omega)
 obtain⟨a,e,ha⟩:=AtF (B:=16777216) (by omega) h.pl λg hg=>⟨by have:=(h.all g hg).1;omega,λx hx=>⟨((h.all g hg).2 x hx).1,((h.all g hg).2 x hx).2.1⟩⟩
 simp_all
theorem Akf.lay {al:Int} (ha:QA al/\16<=al/\al<=16777216):AeJ p i f al:=⟨h.hi,h.arg,⟨h.sl,λx hx=>(h.so x hx).al⟩,ha.1,ha.2.1,ha.2.2,h.SI,h.defs,h.ml⟩
theorem Akf.next {r:Oi} (hr:Tf f r) {q:NI} (ha:QJ f r=some (q,0)) (hx:AdQ f r (q,0)) {al:Int} (hal:QA al/\16<=al/\al<=16777216):AeJ ⟨p.Funcs.set i.toNat q⟩ i q al/\q.Params=f.Params/\Acr p.Funcs.length q/\(∀ x∈q.Slots,Aay x):=by
 obtain⟨i0,i1,hif⟩:=Xn h.hi;have hf:=h.SI;obtain⟨qf,qd,qc⟩:OL q/\QZ q/\Acr p.Funcs.length q:=by
  obtain⟨q',e,_,h1,h2,h3⟩:=Apj hf h.defs h.last h.calls hr;simp_all
 have hml:=hx.AvF hf h.defs h.ml hr;obtain⟨_,hqp,used,to',pl,hu,hsx,hn,hpl,hcode⟩:=id hx;have hslot:=Xy.AwL h.so hr.1.1 hsx;have hul:q.Slots.length<=f.Slots.length:=by
  rw[hsx.len];have:=Ajh (l:=used) (a:=0) (n:=(f.Slots.length:Int)) hu.1.1 λv hv=>by
   obtain⟨_,j,hj,hk,hv'⟩:=(hu.2 v).1 hv;exact AcJ hf h.defs hr.1 (hf.at (j:=(j:Int)) (by omega) (by omega)).2 v hv'
  omega
 have harg:ZR ⟨p.Funcs.set i.toNat q⟩ q:=by
  intro y hy;rw[hcode]at hy;obtain⟨pn,hp⟩:=aAF hy;obtain⟨j,h1,_,_,rfl⟩:=(Vp (f:=f) (keep:=r.Keep) (to:=to') (pl:=pl) _ (by rw[hr.2.1];omega)).2 pn y hp
  have hm:=(hf.at (j:=(j:Int)) (by omega) (by omega)).2
  rw[AmR,AcR];refine⟨λe=>?_,λe=>?_⟩
  ·rw[Apk (.inl e)];exact(h.arg _ hm).1 e
  ·rw[Apk (.inr e)];obtain⟨a0,gg,hgg,hpp⟩:=(h.arg _ hm).2 e
   grind
 have hset:ixO (⟨p.Funcs.set i.toNat q⟩:NL).Funcs i=some q:=by
  grind [Py]
 have hsl:Zx q.Slots:=⟨by have:=h.sl;omega,λx hx=>(hslot x hx).al⟩
 exact⟨⟨hset,harg,hsl,hal.1,hal.2.1,hal.2.2,qf,qd,hml⟩,hqp,qc,hslot⟩
end
open Go Go.Dw Go.Proofs
attribute [local simp] Ot aAC
inductive Aab (n size params frames:Int):NJ->Prop
 | load (a o s:Int):Vi a->s∈([1,2,4,8,16]:List Int)->0<=o->o+s<=size+16*params->Aab n size params frames ⟨15,a,o,s,0⟩
 | store (o b s:Int):Vi b->s∈([1,2,4,8,16]:List Int)->0<=o->o+s<=size->Aab n size params frames ⟨16,o,b,s,0⟩
 | move (o o' s:Int):s∈([1,2,4,8,16]:List Int)->0<=o->o+s<=size->0<=o'->o'+s<=size->Aab n size params frames ⟨17,o,o',s,0⟩
 | const (a w:Int):Vi a->Aab n size params frames ⟨0,a,0,0,w⟩
 | bin (op a b c:Int):2<=op->op<12->Vi a->Vi b->Vi c->Aab n size params frames ⟨op,a,b,c,0⟩
 | one (op a:Int):(op=13\/op=14)->Vi a->Aab n size params frames ⟨op,a,0,0,0⟩
 | two (op a b:Int):(op=1\/op=12)->Vi a->Vi b->Aab n size params frames ⟨op,a,b,0,0⟩
 | call (j:Int):0<=j->j<frames->Aab n size params frames ⟨22,j,0,0,0⟩
 | jump (t:Int):0<=t->t<n->Aab n size params frames ⟨20,t,0,0,0⟩
 | branch (a t:Int):Vi a->0<=t->t<n->Aab n size params frames ⟨21,a,t,0,0⟩
 | ret:Aab n size params frames ⟨23,0,0,0,0⟩
 | trap (w:Int):Aab n size params frames ⟨24,0,0,0,w⟩
theorem QP (n l:Int):Ro n l=some (decide (0<=n/\n<l)):=by
 grind [Ro]
theorem VJ:∀ {s:List Int},s.length<=1000->(∀ x∈s,0<=x/\x<8)->PD s=some false:=by
 intro s hl hs;unfold PD;have hh:Hs (PO s) λr=>r= -1:=by
  unfold PO;refine Hs.loop (λi=>∃ k:Nat,i=(k:Int)/\k<=s.length) (λi=>s.length-i.toNat) ⟨0,rfl,aAE _⟩ λi ⟨k,hi,hk⟩=>?_
  subst hi;unfold QX;refine .dec (λhlt=>?_) λhlt=>.lft (.pure rfl)
  refine(Hs.ix (l:=s) (i:=(k:Int)) (by omega) hlt λz hz=>hz).bind λx hx=>?_
  have hr:=hs x (aAB hx);have hb:Ub x=some false:=by grind [Ub,QP]
  rw[hb,aA];refine .cond (λe=>absurd e (by simp)) λe=>.cnt ⟨⟨k+1,NQ (by omega),by omega⟩,?_⟩
  grind [NQ]
 obtain⟨r,h1,rfl⟩:=hh;rw[h1];rfl
theorem AmN (h:s∈([1,2,4,8,16]:List Int)):Wj s=some true/\1<=s/\s<=16:=by
 simp only[aAm,List.not_mem_nil,or_false]at h;rcases h with rfl|rfl|rfl|rfl|rfl<;>exact⟨by decide +kernel,by decide,by decide⟩
section
variable {f:Pg} {n size params:Int} (hn:(f.Frame.Code.length:Int)=n) (hs:f.Frame.Size=size) (hp:f.Frame.Params=params) (hs0:0<=size) (hs1:size<=2147483519) (hp0:0<=params) (hp1:params<=8)
 include hn hs hp hs0 hs1 hp0 hp1
theorem AwI (h:Aab n size params f.frames x):Pm f x=some 0:=by
 have hw:IntKind.i64.wrap (f.Frame.Size+IntKind.i64.wrap (16*f.Frame.Params))=size+16*params:=by
  grind [wrap64]
 have ins:∀ {o s k:Int},0<=o->1<=s->o+s<=k->k<=2147483647->SV ⟨o,s⟩ k=some true:=by
  intro o s k h0 h1 h2 h3;rw[AqE];congr 1;rw[decide_eq_true_eq]
  grind [InI,Tc]
 cases h with
 | load a o s ha hsz h0 h1 =>
  obtain⟨z1,z2,z3⟩:=AmN hsz;obtain⟨a0,a1⟩:=ha;have hr:=VJ (s:=[a]) (by simp) (by simp;omega)
  have hi:=ins h0 z2 h1 (by omega)
  simp[Pm,QP,Pe,QI,PJ,PA,Pj,Qt,PR,Pk,Pn,Pa,hr,OY,z1,OZ,Rc,QH,hw,hi,OM]
 | store o b s hb hsz h0 h1 =>
  obtain⟨z1,z2,z3⟩:=AmN hsz;obtain⟨a0,a1⟩:=hb;have hr:=VJ (s:=[b]) (by simp) (by simp;omega)
  have hi:=ins h0 z2 h1 (by omega)
  simp[Pm,QP,Pe,QI,PJ,PA,Pj,Qt,PR,Pk,Pn,Pa,hr,OY,z1,OZ,Rc,QH,hs,hi,OM]
 | move o o' s hsz h0 h1 h2 h3 =>
  obtain⟨z1,z2,z3⟩:=AmN hsz;have hr:=VJ (s:=[]) (by simp) (by simp)
  have hi:=ins h0 z2 h1 (by omega)
  have hi':=ins (k:=size+16*params) h2 z2 (by omega) (by omega)
  have hw2:=hw;rw[hs]at hw2;simp[Pm,QP,Pe,QI,PJ,PA,Pj,Qt,PR,Pk,Pn,Pa,hr,OY,z1,OZ,Rc,QH,hw2,hs,hi,hi',OM]
 | const a w ha =>
  obtain⟨a0,a1⟩:=ha;have hr:=VJ (s:=[a]) (by simp) (by simp;omega)
  simp[Pm,QP,Pe,QI,PJ,PA,PS,Pj,Qt,PR,Pk,Pn,Pa,hr,OY,OZ,Rc,QH,OM]
 | bin op a b c h0 h1 ha hb hc =>
  obtain⟨a0,a1⟩:=ha;obtain⟨b0,b1⟩:=hb;obtain⟨c0,c1⟩:=hc;have hr:=VJ (s:=[a,b,c]) (by simp) (by simp;omega)
  have ho:op=2\/op=3\/op=4\/op=5\/op=6\/op=7\/op=8\/op=9\/op=10\/op=11:=by omega
  rcases ho with rfl|rfl|rfl|rfl|rfl|rfl|rfl|rfl|rfl|rfl<;>simp[Pm,QP,Pe,QI,PJ,PA,Pj,Qt,PR,Pk,hr,OY,OZ,Rc,QH,OM]
 | one op a ho ha =>
  obtain⟨a0,a1⟩:=ha;have hr:=VJ (s:=[a]) (by simp) (by simp;omega)
  rcases ho with rfl|rfl<;>simp[Pm,QP,Pe,QI,PJ,PA,PS,Pj,Qt,PR,Pk,Pn,Pa,hr,OY,OZ,Rc,QH,OM]
 | two op a b ho ha hb =>
  obtain⟨a0,a1⟩:=ha;obtain⟨b0,b1⟩:=hb;have hr:=VJ (s:=[a,b]) (by simp) (by simp;omega)
  rcases ho with rfl|rfl<;>simp[Pm,QP,Pe,QI,PJ,PA,PS,Pj,Qt,PR,Pk,Pn,Pa,hr,OY,OZ,Rc,QH,OM]
 | call j h0 h1 =>
  have hr:=VJ (s:=[]) (by simp) (by simp)
  simp[Pm,QP,Pe,QI,PJ,PA,PS,Pj,Qt,PR,Pk,Pn,Pa,hr,OY,OZ,Rc,QH,OM,h0,h1]
 | jump t h0 h1 =>
  have hr:=VJ (s:=[]) (by simp) (by simp)
  simp[Pm,QP,Pe,QI,PJ,PA,PS,Pj,Qt,PR,Pk,Pn,Pa,hr,OY,OZ,Rc,QH,OM,h0,h1,hn]
 | branch a t ha h0 h1 =>
  obtain⟨a0,a1⟩:=ha;have hr:=VJ (s:=[a]) (by simp) (by simp;omega)
  simp[Pm,QP,Pe,QI,PJ,PA,PS,Pj,Qt,PR,Pk,Pn,Pa,hr,OY,OZ,Rc,QH,OM,h0,h1,hn]
 | ret =>
  have hr:=VJ (s:=[]) (by simp) (by simp)
  simp[Pm,QP,Pe,QI,PJ,PA,PS,Pj,Qt,PR,Pk,Pn,Pa,hr,OY,OZ,Rc,QH,OM]
 | trap w =>
  have hr:=VJ (s:=[]) (by simp) (by simp)
  simp[Pm,QP,Pe,QI,PJ,PA,PS,Pj,Qt,PR,Pk,Pn,Pa,hr,OY,OZ,Rc,QH,OM]
end
open Go Go.Dw Go.Proofs
attribute [local simp] Ot aAC
structure AsU (frames:List OD) (al:Int) (fr:OD):Prop where
 par:0<=fr.Params/\fr.Params<=8
 size:0<=fr.Size/\fr.Size<=2147483519
 al_:fr.Size.tmod al=0
 len:1<=fr.Code.length/\fr.Code.length<=1024
 code:∀ x∈fr.Code,Aab fr.Code.length fr.Size fr.Params frames.length x
 last:∀ x,fr.Code[fr.Code.length-1]? =some x->QS x.Op=some true
 call:∀ x∈fr.Code,x.Op=22->∃ g,ixO frames x.A=some g/\0<=g.Params/\g.Params<=8/\16*g.Params<=fr.Size
section
variable {t:Pb} (hal:QD t.Align=some true) (h16:16<=t.Align) (hl:1<=t.Frames.length/\t.Frames.length<=80) (hfr:∀ fr∈t.Frames,AsU t.Frames t.Align fr)
 include hal h16 hl hfr
theorem Asc {i:Nat} (hi:t.Frames[i]? =some fr):AdM t (i:Int)=some (⟨fr,t.Align,t.Frames.length⟩,true):=by
 have _:=hl;have h:=hfr fr (aAB hi);have hil:=(aAG.1 hi).1;have hp:=h.par;have hs:=h.size;unfold AdM;rw[QP,decide_eq_true (by omega),aA]
 rw[Py _ (by omega),aAH,hi,aA,hal,aA,cond_true,QP,decide_eq_true (by omega),aA,cond_true,QP,decide_eq_true (by omega),aA,cond_true,Ot (by omega),h.al_]
 rfl
theorem Asb {i:Nat} (hi:t.Frames[i]? =some fr):VW t (i:Int)=some 0:=by
 have h:=hfr fr (aAB hi);have hlen:=h.len;unfold VW;rw[Asc hal h16 hl hfr hi,aA];simp only[aAR,cond_false];rw[decide_eq_false (by omega),cond_false]
 have hh:Hs (NZ (λs=>VX (⟨fr,t.Align,t.Frames.length⟩,true) s) 0) λr=>r=0:=by
  refine Hs.loop (λi=>∃ k:Nat,i=(k:Int)/\k<=fr.Code.length) (λi=>fr.Code.length-i.toNat) ⟨0,rfl,aAE _⟩ λi ⟨k,hi,hk⟩=>?_
  subst hi;unfold VX;dsimp only;refine .dec (λhlt=>?_) λhlt=>.lft ?_
  ·refine(Hs.ix (l:=fr.Code) (i:=(k:Int)) (by omega) hlt λz hz=>hz).bind λx hx=>?_
   simp only[aAH]at hx;rw[AwI (f:=⟨fr,t.Align,t.Frames.length⟩) rfl rfl rfl h.size.1 h.size.2 h.par.1 h.par.2 (h.code x (aAB hx)),aA];refine .bne (λe=>absurd rfl e) λe=>.cnt ⟨⟨k+1,NQ (by omega),by omega⟩,?_⟩
   grind [NQ]
  ·refine .beq (λe=>by omega) λe=>?_
   obtain⟨x,hx⟩:∃ x,fr.Code[fr.Code.length-1]? =some x:=⟨fr.Code[fr.Code.length-1]'(by omega),aAA (by omega)⟩
   rw[wrap64 (by omega) (by omega),Py _ (by omega),show((fr.Code.length:Int)-1).toNat=fr.Code.length-1 by omega,hx,aA,h.last x hx,aA]
   exact .pure rfl
 obtain⟨r,h1,rfl⟩:=hh;exact h1
theorem ArZ (h:AsU t.Frames t.Align fr):Vn ⟨fr,t.Align,t.Frames.length⟩ t=some true:=by
 have _:=hal;have _:=h16;have _:=hl;have _:=hfr;have hlen:=h.len;unfold Vn Ps;have hh:Hs (Pf fr.Code t ⟨fr,t.Align,t.Frames.length⟩) λr=>r= -1:=by
  unfold Pf;refine Hs.loop (λi=>∃ k:Nat,i=(k:Int)/\k<=fr.Code.length) (λi=>fr.Code.length-i.toNat) ⟨0,rfl,aAE _⟩ λi ⟨k,hi,hk⟩=>?_
  subst hi;unfold Qa;refine .dec (λhlt=>?_) λhlt=>.lft (.pure rfl)
  refine(Hs.ix (l:=fr.Code) (i:=(k:Int)) (by omega) hlt λz hz=>hz).bind λx hx=>?_
  simp only[aAH]at hx;have hb:Rv x t ⟨fr,t.Align,t.Frames.length⟩=some false:=by
   unfold Rv
   by_cases e:x.Op=22
   ·obtain⟨g,hg,g0,g1,g2⟩:=h.call x (aAB hx) e;rw[show(x.Op==22)=true by simp[e],cond_true,hg,aA,wrap64 (by omega) (by omega)]
    simp_all
   simp_all
  rw[hb,aA];refine .cond (λe=>absurd e (by simp)) λe=>.cnt ⟨⟨k+1,NQ (by omega),by omega⟩,?_⟩
  grind [NQ]
 obtain⟨r,h1,rfl⟩:=hh;rw[h1];rfl
theorem Asa (h0:∀ fr,t.Frames[0]? =some fr->fr.Params=0):YM t=some 0:=by
 obtain⟨x,hx⟩:∃ x,t.Frames[0]? =some x:=⟨t.Frames[0]'(by omega),aAA (by omega)⟩
 unfold YM;rw[decide_eq_false (by omega),cond_false,show((t.Frames.length:Int)==0)=false by grind,cond_false,hal,aA]
 rw[decide_eq_false (by omega)]
 unfold XC;rw[cond_false,Py _ (by omega)]
 simp only[Int.toNat_zero,hx,aA,h0 x hx,bne_self_eq_false,cond_false];have hh:Hs (ZS t) λr=>r=0:=by
  refine Hs.loop (λi=>∃ k:Nat,i=(k:Int)/\k<=t.Frames.length) (λi=>t.Frames.length-i.toNat) ⟨0,rfl,aAE _⟩ λi ⟨k,hi,hk⟩=>?_
  subst hi;refine .dec (λhlt=>?_) λhlt=>.lft ?_
  ·obtain⟨x,hx⟩:∃ x,t.Frames[k]? =some x:=⟨t.Frames[k]'(by omega),aAA (by omega)⟩
   rw[Asb hal h16 hl hfr hx,aA];refine .bne (λe=>absurd rfl e) λe=>.cnt ⟨⟨k+1,NQ (by omega),by omega⟩,?_⟩
   grind [NQ]
  ·refine Hs.loop (λi=>∃ k:Nat,i=(k:Int)/\k<=t.Frames.length) (λi=>t.Frames.length-i.toNat) ⟨0,rfl,aAE _⟩ λi ⟨k,hi,hk⟩=>?_
   subst hi;unfold Adc;refine .dec (λhlt=>?_) λhlt=>.lft (.pure rfl)
   obtain⟨x,hx⟩:∃ x,t.Frames[k]? =some x:=⟨t.Frames[k]'(by omega),aAA (by omega)⟩
   rw[Asc hal h16 hl hfr hx,aA];simp only;rw[ArZ hal h16 hl hfr (hfr x (aAB hx)),aA];refine .cond (λe=>absurd e (by simp)) λe=>.cnt ⟨⟨k+1,NQ (by omega),by omega⟩,?_⟩
   grind [NQ]
 obtain⟨r,h1,rfl⟩:=hh;exact h1
end
open Go Go.Dw Go.Proofs
attribute [local simp] Ot aAC
def Pz (f:NI) (y:NT) (x:NJ):NJ :=
 if x.Op=15 then⟨15,x.A,VY y x.B,Qj f x.B,0⟩
 else if x.Op=16 then⟨16,VY y x.A,x.B,Qj f x.A,0⟩
 else if x.Op=17 then⟨17,VY y x.A,VY y x.B,Qj f x.A,0⟩
 else if x.Op=18 then⟨16,16*x.A,x.B,16,0⟩
 else if x.Op=19 then⟨15,x.A,y.Size+16*x.B,16,0⟩
 else x
theorem Aqj (p:NL) (n:Int) (x:NJ):n<=VB p n x:=by
 unfold VB;split
 ·simp_all[Age]
 ·split
  all_goals simp_all[Age]
theorem AeL {p:NL} {f:NI}:∀ {m k:Nat},k<=m->m<=f.Code.length->PY p f k<=PY p f m
 | 0,k,h,_=>by simp_all
 | m+1,k,h,hm=>by
  by_cases e:k=m+1
  ·simp_all
  ·have h1:=AeL (p:=p) (f:=f) (m:=m) (k:=k) (by omega) (by omega)
   have h2:=Aqj p (PY p f m) (f.Code[m]'(by omega))
   grind [VL]
theorem ApO (hx:x∈f.Code):(x.Op=18->x.A+1<=PY p f f.Code.length)/\(x.Op=22->∀ g,p.Funcs[x.A.toNat]? =some g->g.Params<=PY p f f.Code.length):=by
 obtain⟨k,hk⟩:=aAF hx;obtain⟨hkl,he⟩:=aAG.1 hk;have hm:=AeL (p:=p) (f:=f) (m:=f.Code.length) (k:=k+1) (by omega) (aAO _)
 rw[VL hkl,he]at hm;unfold VB at hm;constructor
 ·intro h;have:=(Age (PY p f k) (x.A+1)).2;omega
 ·intro h g hg;rw[if_neg (by omega),if_pos h,hg]at hm
  have:=(Age (PY p f k) g.Params).2
  grind
section
variable {nf:Int} {p:NL} {f:NI} {al:Int} {y:NT} (hg:GW nf f) (hy:Tg p f al y) (hs:y.Size<=1100000000)
 include hg hy hs
theorem AtW (h0:0<=s) (h1:s<f.Slots.length):ixO y.Off s=some (VY y s)/\(∃ z,ixO f.Slots s=some z/\z.Size=Qj f s)/\Qj f s∈([1,2,4,8,16]:List Int)/\0<=VY y s/\VY y s+Qj f s<=y.Size:=by
 have _:=hs;obtain⟨_,hl,hpl,_⟩:=hy;obtain⟨o,z,e1,e2,e3,e4,e5⟩:=hpl s.toNat (by omega)
 have ho:VY y s=o:=by grind [VY]
 obtain⟨z',e6,e7⟩:=AmM (f:=f) h0 h1;rw[Py _ h0,e2]at e6;cases e6;have hz:=hg.slot z (aAB e2);unfold InI Tc at e5;simp only at e5;refine⟨Agg hl h0 h1,⟨z,by grind [Py],e7⟩,?_,by omega,by omega⟩
 rw[<- e7];exact hz.1
theorem Alo (hx:x∈f.Code):Pt f y x=some (Pz f y x)/\(0<=x.Op/\x.Op<25)/\Aab f.Code.length y.Size f.Params nf (Pz f y x)/\((Pz f y x).Op=22->x.Op=22/\(Pz f y x).A=x.A)/\(∀ b,QS x.Op=some b->QS (Pz f y x).Op=some b):=by
 have sl:=fun{s:Int}=>AtW hg hy hs (s:=s)
 obtain⟨ha,_,_,_,hA,_⟩:=id hy;have hat:=(ApO (p:=p) hx).1;have hpar:=hg.par;have hreg16:(16:Int)∈([1,2,4,8,16]:List Int):=by decide
 have hmx:=hg.Agf x hx;cases hg.body x hx with
 | store a b h1 h2 h3 =>
  obtain⟨s1,⟨z,s2,s3⟩,s4,s5,s6⟩:=sl h1 h2;refine⟨by grind [Pt,Pz],by simp,.store _ _ _ h3 s4 s5 s6,by simp[Pz],by grind [Pz]⟩
 | load a b h1 h2 h3 =>
  obtain⟨s1,⟨z,s2,s3⟩,s4,s5,s6⟩:=sl h2 h3;refine⟨by grind [Pt,Pz],by simp,.load _ _ _ h1 s4 s5 (by grind),by simp[Pz],by grind [Pz]⟩
 | move a b h1 h2 h3 =>
  obtain⟨a0,a1,b0,b1,hsz⟩:=hmx rfl;obtain⟨s1,⟨z,s2,s3⟩,s4,s5,s6⟩:=sl a0 a1;obtain⟨t1,_,t4,t5,t6⟩:=sl b0 b1;refine⟨by grind [Pt,Pz],by simp,.move _ _ _ s4 s5 s6 t5 (by simp_all),by simp[Pz],by grind [Pz]⟩
 | const a w h1=>exact⟨by simp[Pt,Pz],by simp,.const _ _ h1,by simp[Pz],by simp[Pz]⟩
 | bin op a b c h1 h2 h3 h4 h5 =>
  have e:∀ n:Int,12<=n->¬ op=n:=λn h=>by omega
  refine⟨by simp[Pt,Pz,e],by grind,?_,by simp[Pz,e],by simp[Pz,e]⟩
  have:Pz f y ⟨op,a,b,c,0⟩=⟨op,a,b,c,0⟩:=by simp[Pz,e]
  rw[this];exact .bin _ _ _ _ h1 h2 h3 h4 h5
 | one op a h1 h2 =>
  rcases h1 with rfl|rfl
  ·exact⟨by simp[Pt,Pz],by simp,.one _ _ (by simp) h2,by simp[Pz],by simp[Pz]⟩
  ·exact⟨by simp[Pt,Pz],by simp,.one _ _ (by simp) h2,by simp[Pz],by simp[Pz]⟩
 | two op a b h1 h2 h3 =>
  rcases h1 with rfl|rfl
  ·exact⟨by simp[Pt,Pz],by simp,.two _ _ _ (by simp) h2 h3,by simp[Pz],by simp[Pz]⟩
  ·exact⟨by simp[Pt,Pz],by simp,.two _ _ _ (by simp) h2 h3,by simp[Pz],by simp[Pz]⟩
 | param a b h1 h2 h3 =>
  have w1:IntKind.i64.wrap (16*b)=16*b:=wrap64 (by omega) (by omega)
  have hy0:0<=y.Size:=by
   have:0<=PY p f f.Code.length:=by have:=AeL (p:=p) (f:=f) (m:=f.Code.length) (k:=0) (aAE _) (aAO _);grind [PY]
   omega
  have w2:IntKind.i64.wrap (y.Size+16*b)=y.Size+16*b:=wrap64 (by omega) (by omega)
  exact⟨by simp_all[Pt,Pz],by simp,.load _ _ _ h1 hreg16 (by grind) (by grind),by simp[Pz],by simp[Pz,QS]⟩
 | arg a b h1 h2 h3 =>
  have w1:IntKind.i64.wrap (16*a)=16*a:=wrap64 (by omega) (by omega)
  have:=hat rfl;simp only at this;exact⟨by grind [Pt,Pz],by simp,.store _ _ _ h3 hreg16 (by grind) (by grind),by simp[Pz],by simp[Pz,QS]⟩
 | call j h1 h2=>exact⟨by simp[Pt,Pz],by simp,.call _ h1 h2,by simp[Pz],by simp[Pz]⟩
 | jump t h1=>exact⟨by simp[Pt,Pz],by simp,.jump _ h1.1 h1.2,by simp[Pz],by simp[Pz]⟩
 | branch a t h1 h2=>exact⟨by simp[Pt,Pz],by simp,.branch _ _ h1 h2.1 h2.2,by simp[Pz],by simp[Pz]⟩
 | ret=>exact⟨by simp[Pt,Pz],by simp,.ret,by simp[Pz],by simp[Pz]⟩
 | trap w=>exact⟨by simp[Pt,Pz],by simp,.trap _,by simp[Pz],by simp[Pz]⟩
end
open Go Go.Dw Go.Proofs
structure ChY (p:NL) (i:Int) (f:NI) (al:Int) (r:NI×NT×Int×Int):Prop where
 err:r.2.2.2=0
 gok:GW p.Funcs.length r.1
 arg:ZR ⟨p.Funcs.set i.toNat r.1⟩ r.1
 par:r.1.Params=f.Params
 shape:Tg ⟨p.Funcs.set i.toNat r.1⟩ r.1 al r.2.1
 size:r.2.1.Size<=(PG p f al).Size
theorem ChY.AuW {al:Int} {r:NI×NT×Int×Int} (h:ChY p i f al r) (hi0:0<=i) (hi:i<p.Funcs.length) (hb:(PG p f al).Size<=1000000000):∃ fr:OD,TG ⟨p.Funcs.set i.toNat r.1⟩ i r.2.1=some fr/\UR ⟨p.Funcs.set i.toNat r.1⟩ i r.2.1=some fr/\fr=⟨f.Params,r.2.1.Size,r.1.Code.map (Pz r.1 r.2.1)⟩:=by
 have hg:=h.gok;have hx:=λx hx=>Alo hg h.shape (by have:=h.size;omega) (x:=x) hx
 have hf:(⟨p.Funcs.set i.toNat r.1⟩:NL).Funcs[i.toNat]? =some r.1:=aAP (by omega)
 have hl:=hg.len';have e1:=Aov hf (by omega) (y:=r.2.1) (T:=Pz r.1 r.2.1) (λx hm=>(hx x hm).1) (λx hm=>(hx x hm).2.1)
 have e2:=Anq hf (by omega) (y:=r.2.1) (T:=Pz r.1 r.2.1) (λx hm=>(hx x hm).1)
 rw[Int.toNat_of_nonneg hi0]at e1 e2;exact⟨_,e1,e2,by rw[h.par]⟩
theorem ApY (h:OL f):¬ Acc f []:=λha=>by
 have:=ha.1.1;have:=h.len
 grind
theorem AdJ.shape {al:Int} {y:NT} (h:AdJ p f al l y 0):Tg p f al y/\Acc f l:=by
 rcases h with⟨_,h⟩|⟨_,_,h⟩|⟨_,_,_,h⟩|⟨h1,h2,_⟩
 all_goals simp_all
section
variable {p:NL} {i:Int} {f:NI} (h:Akf p i f) (hg:GW p.Funcs.length f)
 include h hg
theorem AtU:(⟨p.Funcs.set i.toNat f⟩:NL)=p:=by
 have _:=hg;obtain⟨i0,i1,hif⟩:=Xn h.hi;have:p.Funcs.set i.toNat f=p.Funcs:=by
  apply List.ext_getElem?;intro a
  by_cases e:i.toNat=a
  ·subst e;rw[aAP (by omega),hif]
  ·rw[List.getElem?_set_ne e]
 rw[this]
theorem AqR {al:Int} (y:NT) (n:Int) (hy:Tg p f al y):ChY p i f al (f,y,n,0):=by
 have hset:=AtU h hg;exact⟨rfl,hg,by simp only[hset];exact h.arg,rfl,by simp only[hset];exact hy,hy.2.2.2.2.2⟩
theorem Aqs {al:Int} (ea:Qi p=some al) (hal:QA al/\16<=al/\al<=16777216) (x:Oc) (hx1:QB x.Live.Out) (hx2:QB x.LiveAfter.Out):∃ r,Rh p i x=some r/\ChY p i f al r/\(x.Live.Out=[]->r=(f,PG p f al,0,0)):=by
 obtain⟨i0,i1,hif⟩:=Xn h.hi;have hL:=h.lay hal;have eb:=Ahm h.hi h.SI.len' h.arg hL.slots hal.1 hal.2.2;obtain⟨e,ev,hv⟩:=ApC h.SI h.defs hx1 x.Rename;obtain⟨c,ec,hc⟩:=AjX hL x.Layout hx1;have j1:∃ r,Ur p i al x f (PG p f al,0)=some r/\ChY p i f al r/\(x.Live.Out=[]->r=(f,PG p f al,0,0)):=by
  unfold Ur;rw[ec,aA]
  by_cases h0:c=0
  ·subst h0;exact⟨_,rfl,AqR h hg _ _ hc.shape.1,λhn=>absurd (hn▸hc.shape.2) (ApY h.SI)⟩
  ·rw[show(c==0)=false by simp[h0]]
   exact⟨_,rfl,AqR h hg _ _ (AkU hL.bas),λ_=>rfl⟩
 unfold Rh;simp only[ea,eb,h.hi,aA,bne_self_eq_false,cond_false,ev]
 by_cases he:e=0
 ·subst he;simp only[beq_self_eq_true,cond_true];obtain⟨hacc,hr⟩:Acc f x.Live.Out/\Tf f x.Rename:=by
   rcases hv with⟨_,h2⟩|⟨_,_,h2⟩|⟨h1,h2,_⟩
   ·omega
   ·omega
   ·exact⟨h1,h2⟩
  have hne:x.Live.Out=[]->False:=λhn=>absurd (hn▸hacc) (ApY h.SI)
  obtain⟨⟨q,qe⟩,er,hx⟩:=AtJ h.SI h.defs hr;have qe0:qe=0:=hx.1;subst qe0;simp only[er,aA,Aho p q (show p.Funcs.length<=1000000 by have:=h.pl;omega) i0 (by omega)]
  obtain⟨hL2,hqp,_⟩:=h.next hr er hx hal;obtain⟨d,h1,h2⟩:=AjX hL2 x.Layout hx2;have hgq:GW p.Funcs.length q:=by
   obtain⟨q',e1,_,used,nm,pl,hw⟩:=AmT h.SI h.defs hr;rw[er]at e1;cases e1;exact hw.gw hg
  have j2:∀ b:Bool,(b=true->ChY p i f al (q,x.Layout,2,0))->∃ r,Us (q,0) x p i al f (PG p f al,0) b=some r/\ChY p i f al r/\(x.Live.Out=[]->r=(f,PG p f al,0,0)):=by
   intro b hb;unfold Us;cases b
   ·exact j1
   ·exact⟨_,rfl,hb rfl,λhn=>(hne hn).elim⟩
  rw[h1,aA]
  by_cases hd:d=0
  ·subst hd;exact j2 _ λhs=>⟨rfl,hgq,hL2.arg,hqp,h2.shape.1,of_decide_eq_true hs⟩
  ·rw[show(d==0)=false by simp[hd],cond_false]
   exact j2 _ λh=>by cases h
 ·rw[show(e==0)=false by simp[he]]
  exact j1
theorem Aqr {al:Int} (ea:RY p=some al) (hal:QA al/\16<=al/\al<=16777216):Rf p i ⟨⟨[]⟩,⟨[],[]⟩,⟨[]⟩,⟨0,0,[]⟩⟩=some (f,PG p f al,0,0):=by
 have _:=hg;have hf:=h.SI;have hl:=hf.len;have hL:=h.lay hal;have eb:=AoH h.hi hf.len' h.arg hL.slots hal.1 hal.2.2;have live:Uo f ⟨[]⟩=some 11:=by
  unfold Uo Xp;rw[show((([]:List (List Int)).length:Int)==(f.Code.length:Int))=false by simp only[List.length_nil,beq_eq_false_iff_ne];omega]
  rfl
 have shape:Hs (SK ⟨p,i,al,f,⟨0,0,[]⟩⟩) λ_=>True:=by
  unfold SK;simp only[eb,AoG h.hi hf.len' h.arg,aA,bne_self_eq_false,cond_false];refine .bne (λ_=>.pure trivial) λ_=>.bne (λ_=>.pure trivial) λh0=>?_
  unfold Tb;refine Hs.loop (λ_=>True) (λ_=>0) trivial λ_ _=>?_
  unfold Ta;simp only[List.length_nil]at h0;exact .dec (λh1=>by simp only at h1;omega) λ_=>.lft (.chk (by simp only;omega) (.bne (λ_=>.pure trivial) λ_=>.dec (λ_=>.pure trivial) λ_=>.dec (λ_=>.pure trivial) λ_=>.pure trivial))
 obtain⟨e,es,_⟩:=shape;have lay:∃ c,Yw p i al ⟨[]⟩ ⟨0,0,[]⟩=some c/\c≠0:=by
  unfold Yw UG;simp only[h.hi,es,live,aA]
  by_cases he:e=0
  ·subst he;exact⟨11,rfl,by decide⟩
  ·rw[show(e != 0)=true by simp[he],cond_true,aA,show(e != 0)=true by simp[he]]
   exact⟨e,rfl,he⟩
 obtain⟨c,ec,hc⟩:=lay;unfold Rf Xm Zi;simp only[ea,eb,h.hi,live,ec,aA,bne_self_eq_false,cond_false];rw[show(c==0)=false by simp[hc]]
 rfl
end
open Go Go.Dw Go.Proofs
theorem ArY {a b a' b':Int} (h1:a'<=a) (h2:b'<=b):Ph a' b'<=Ph a b:=by
 grind [Ph]
theorem Ali {f f':Nat->Option Int} (hf:∀ i x,f i=some x->∃ x',f' i=some x'/\x'<=x):∀ {s:List Int} {b b' m:Int},b'<=b->s.foldlM (λa j=>(f j.toNat).map (Ph a)) b=some m->∃ m',s.foldlM (λa j=>(f' j.toNat).map (Ph a)) b'=some m'/\m'<=m
 | [],b,b',m,hb,h=>by simp_all
 | x::s,b,b',m,hb,h=>by
  simp only[List.foldlM_cons,Option.bind_eq_bind,aAf]at h;obtain⟨c,hc,h⟩:=h;obtain⟨y,hy,rfl⟩:=aAU.1 hc;obtain⟨y',hy',hle⟩:=hf _ _ hy;obtain⟨m',h1,h2⟩:=Ali hf (ArY hb hle) h;simp_all
def LeW (w' w:List Int):Prop:=w'.length=w.length/\∀ (i:Nat) x,w[i]? =some x->∃ x',w'[i]? =some x'/\0<=x'/\x'<=x
theorem Ama {g:List (List Int)} {w w':List Int} (hw:LeW w' w):∀ (n i:Nat) (x:Int),bF g w n i=some x->∃ x',bF g w' n i=some x'/\x'<=x
 | 0,_,_,h=>by cases h
 | n+1,i,x,h=>by
  unfold bF at h;simp only[aAf]at h;obtain⟨s,hs,y,hy,m,hm,h⟩:=h;obtain⟨y',hy',y0,y1⟩:=hw.2 i y hy;obtain⟨m',hm',h2⟩:=Ali (Ama hw n) (Int.le_refl 0) hm;split at h
  ·cases h;refine⟨y'+m',?_,by omega⟩
   unfold bF
   grind
  ·cases h
theorem Uv.mono {w w':List Int} {o r':List Int×Int} (h:Uv g w o r) (h':Uv g w' o r') (h0:r.2=0) (hw:LeW w' w):r'.2=0:=by
 rcases h with⟨_,rfl⟩|⟨⟨hz,hwt⟩,⟨h2,rfl⟩|⟨h2,⟨_,rfl⟩|⟨h3,h4,h5⟩⟩⟩
 ·omega
 ·omega
 ·omega
 have hwt':WtY g w':=⟨hw.1.trans hwt.1,λx hx=>by
  obtain⟨k,hk⟩:=aAF hx;have hkl:=(aAG.1 hk).1;have hk2:w[k]? =some (w[k]'(by have:=hw.1;omega)):=aAA _
  obtain⟨x',e1,e2,e3⟩:=hw.2 k _ hk2;rw[hk]at e1;cases e1;have:=hwt.2 _ (aAB hk2)
  omega⟩
 rcases h' with⟨g1,_⟩|⟨_,⟨g2,_⟩|⟨_,⟨⟨i,hi,hn⟩,_⟩|⟨g3,_⟩⟩⟩
 all_goals grind [Ama,vB]
attribute [local simp] Ot aAC
def zB:OQ:=⟨⟨0,[]⟩,0,[],[]⟩
theorem Aqd (p:NL) (l:List Oc) (g:List (List Int)) (hn:p.Funcs.length<=1000) {e:Int} (he:e≠0):RU p l g e=some (zB,e):=by
 have hh:Hs (RU p l g e) λr=>r=(zB,e):=by
  have hb:(e==0)=false:=by simp[he]
  refine Hs.loop (λz=>z.1=e/\z.2.1=[]/\z.2.2.1=[]/\∃ k:Nat,z.2.2.2=(k:Int)/\k<=p.Funcs.length) (λz=>p.Funcs.length-z.2.2.2.toNat) ⟨rfl,rfl,rfl,0,rfl,aAE _⟩ ?_
  rintro⟨x7,x8,x9,x10⟩ ⟨h7,h8,h9,k,hk,hkl⟩;subst h7;subst h8;subst h9;subst hk;dsimp only;have nx:k<p.Funcs.length->Hs (cnt (R:=OQ×Int) (x7,([]:List OD),([]:List Int),IntKind.i64.wrap ((k:Int)+1))) (Rnd (λz:Int×List OD×List Int×Int=>z.1=x7/\z.2.1=[]/\z.2.2.1=[]/\∃ k:Nat,z.2.2.2=(k:Int)/\k<=p.Funcs.length) (λz=>p.Funcs.length-z.2.2.2.toNat) (x7,[],[],(k:Int)) λr:OQ×Int=>r=(zB,x7)):=by
   intro hlt;refine .cnt ⟨⟨rfl,rfl,rfl,k+1,NQ (by omega),by omega⟩,?_⟩
   grind [NQ]
  refine .dec (λhlt=>?_) λhlt=>.lft ?_
  ·refine .dec (λhl=>?_) λhl=>?_
   ·refine(Hs.ix (l:=l) (i:=(k:Int)) (by omega) hl λz hz=>hz).bind λx _=>?_
    rw[hb,cond_false];exact nx (by omega)
   ·rw[hb,cond_false];exact nx (by omega)
  ·rw[hb,cond_false];unfold Um;rw[show(x7 != 0)=true by simp[he],cond_true]
   exact .pure rfl
 obtain⟨r,h1,rfl⟩:=hh;exact h1
section
variable {p:NL} (h:PF p)
 include h
theorem PF.at {i:Nat} (hf:p.Funcs[i]? =some f):Akf p i f:=h.opt (by simp_all)
theorem PF.gw {i:Nat} (hf:p.Funcs[i]? =some f):GW p.Funcs.length f:=h.all f (aAB hf)
theorem PF.calls:CallsIn p:=by
 intro f hf;obtain⟨i,hi⟩:=aAF hf;exact(h.at hi).calls
theorem PF.short:∀ f∈p.Funcs,f.Code.length<=1000000:=by
 intro f hf;have:=(h.all f hf).len';omega
theorem PF.gr:GrY (cgR p):=AvL (by have:=h.few;omega) h.calls
theorem PF.align:∃ al,RY p=some al/\Qi p=some al/\QA al/\16<=al/\al<=16777216:=by
 have:=h.few;exact(h.at (aAA (show 0<p.Funcs.length by omega))).align
theorem PF.AwE {al:Int} (hal:QA al/\16<=al/\al<=16777216):Wd p al=some (p.Funcs.map (λf=>PG p f al),0):=by
 have hf:=h.few;have hh:Hs (Wd p al) λr=>r=(p.Funcs.map (λf=>PG p f al),0):=by
  refine Hs.loop (λz=>∃ k:Nat,z.2=(k:Int)/\k<=p.Funcs.length/\z.1=(p.Funcs.take k).map (λf=>PG p f al)) (λz=>p.Funcs.length-z.2.toNat) ⟨0,rfl,aAE _,rfl⟩ ?_
  rintro⟨out,k4⟩ ⟨k,hk,hkl,ho⟩;simp only at hk ho;subst hk;refine .dec (λhlt=>?_) λhlt=>.lft (.pure ?_)
  ·obtain⟨f,hx⟩:∃ f,p.Funcs[k]? =some f:=⟨p.Funcs[k]'(by omega),aAA (by omega)⟩
   have hO:=h.at hx;rw[Ahm hO.hi hO.SI.len' hO.arg (hO.lay hal).slots hal.1 hal.2.2,aA];refine .bne (λe=>absurd rfl e) λ_=>.chk (by grind) (.cnt ⟨⟨k+1,NQ (by omega),by omega,?_⟩,?_⟩)
   ·simp_all[TN]
   grind [NQ]
  ·have:k=p.Funcs.length:=by omega
   rw[this,aAV]at ho;show(out,(0:Int))=_;rw[ho]
 obtain⟨r,h1,rfl⟩:=hh;exact h1
theorem PF.AwK {al:Int} (ea:RY p=some al) (hal:QA al/\16<=al/\al<=16777216) (l:List Oc) (g:List (List Int)) (hr:TR g (p.Funcs.map (λf=>(PG p f al).Size))=some r) (hz:Tj p l g r.2=some z) :
  RT p l g 0=some z:=by
 have hf:=h.few;have hh:Hs (RT p l g 0) λx=>x=z:=by
  unfold RT;refine Hs.loop (λz=>∃ k:Nat,z.2=(k:Int)/\k<=p.Funcs.length/\z.1=(p.Funcs.take k).map (λf=>(PG p f al).Size)) (λz=>p.Funcs.length-z.2.toNat) ⟨0,rfl,aAE _,rfl⟩ ?_
  rintro⟨out,k4⟩ ⟨k,hk,hkl,ho⟩;simp only at hk ho;subst hk;refine .dec (λhlt=>?_) λhlt=>.lft ?_
  ·obtain⟨f,hx⟩:∃ f,p.Funcs[k]? =some f:=⟨p.Funcs[k]'(by omega),aAA (by omega)⟩
   have hO:=h.at hx;rw[ea,aA,AoH hO.hi hO.SI.len' hO.arg (hO.lay hal).slots hal.1 hal.2.2,aA];refine .bne (λe=>absurd rfl e) λ_=>.chk (by grind) (.cnt ⟨⟨k+1,NQ (by omega),by omega,?_⟩,?_⟩)
   ·simp_all[TN]
   grind [NQ]
  ·have:k=p.Funcs.length:=by omega
   rw[this,aAV]at ho;rw[ho,hr,aA,hz];exact .pure rfl
 obtain⟨r,h1,rfl⟩:=hh;exact h1
end
open Go Go.Dw Go.Proofs
def win (n l:Int):Bool:=decide (0<=n/\n<l)
theorem Wl (n l:Int):Wf n l=some (win n l):=by
 grind [Wf,win]
theorem Oz (n l:Int):PZ n l=some (win n l):=Wl n l
theorem OC (n:Int):Qb n=some (win n 8):=Wl n 8
theorem Apr (e:RA) (x:NJ) (p:NL) (f:NI):NZ (λs=>Uh e x p f s) 0 =
  if e.a=0/\x.A≠0 then some 2 else if e.b=0/\x.B≠0 then some 2 else if e.c=0/\x.C≠0 then some 2 else if e.imm=false/\x.Imm≠0 then some 2 else Uj p f e x:=by
 have step:∀ (i:Nat) (k n:Int),i<3->((QY.mk e.a e.b e.c).toList)[i]? =some k->((QY.mk x.A x.B x.C).toList)[i]? =some n->Uh e x p f (i:Int)=if k=0/\n≠0 then some (.inr 2)else some (.inl ((i+1:Nat):Int)):=by
  intro i k n hi h1 h2;have w:IntKind.i64.wrap ((i:Int)+1)=((i+1:Nat):Int):=NQ (by omega)
  unfold Uh;rw[decide_eq_true (show(i:Int)<3 by omega),cond_true,Ot (by omega),aAH,h1,aA,w]
  by_cases hk:k=0
  ·have hk':(k==0)=true:=by simp_all
   rw[hk',cond_true,Ot (by omega),h2,aA]
   simp_all
  ·have:(k==0)=false:=by simp_all
   rw[this,cond_false,if_neg (λh=>hk h.1),ApQ]
 have s0:=step 0 e.a x.A (by omega) rfl rfl
 have s1:=step 1 e.b x.B (by omega) rfl rfl
 have s2:=step 2 e.c x.C (by omega) rfl rfl
 have s3:Uh e x p f 3=lft (if e.imm=false/\x.Imm≠0 then some 2 else Uj p f e x):=by
  grind [Uh]
 have s0:Uh e x p f 0=if e.a=0/\x.A≠0 then some (.inr 2)else some (.inl ((0+1:Nat):Int)):=s0
 rw[PX,s0]
 by_cases c0:e.a=0/\x.A≠0
 ·simp_all
 rw[if_neg c0,if_neg c0];dsimp only;rw[PX,s1]
 by_cases c1:e.b=0/\x.B≠0
 ·simp_all
 rw[if_neg c1,if_neg c1];dsimp only;rw[PX,s2]
 by_cases c2:e.c=0/\x.C≠0
 ·simp_all
 rw[if_neg c2,if_neg c2];dsimp only;rw[PX,show((2+1:Nat):Int)=3 from rfl,s3]
 generalize(if e.imm=false/\x.Imm≠0 then some 2 else Uj p f e x)=m
 cases m<;>rfl
def QO (L:OU) (w k n:Int):Option Int:=if win n (L.toList.getD k.toNat 0)then some w else if k≠6 then none else some 6
theorem Aps (e:RA) (x:NJ) (L:OU) (f:NI) (ha:0<=e.a/\e.a<7) (hb:0<=e.b/\e.b<7) (hc:0<=e.c/\e.c<7):NZ (λs=>Ui e x L f s.1 s.2) (0,0) =
  (QO L 0 e.a x.A).elim (some 4) λw1=>(QO L w1 e.b x.B).elim (some 4) λw2=>(QO L w2 e.c x.C).elim (some 4) λw3=>if x.Op=17 then(ixO f.Slots x.A).bind λs=>(ixO f.Slots x.B).bind λs'=>if s.Size≠s'.Size then some 5 else some w3 else some w3:=by
 have step:∀ (i:Nat) (w k n:Int),i<3->0<=k/\k<7->((QY.mk e.a e.b e.c).toList)[i]? =some k->((QY.mk x.A x.B x.C).toList)[i]? =some n ->
   Ui e x L f w (i:Int)=match QO L w k n with|none=>some (.inr 4)|some w'=>some (.inl (w',((i+1:Nat):Int))):=by
  intro i w k n hi hk h1 h2;have ww:IntKind.i64.wrap ((i:Int)+1)=((i+1:Nat):Int):=NQ (by omega)
  have hg:L.toList[k.toNat]? =some (L.toList.getD k.toNat 0):=by
   have hl:k.toNat<L.toList.length:=by show k.toNat<7;omega
   simp_all
  unfold Ui QO;rw[decide_eq_true (show(i:Int)<3 by omega),cond_true,Ot (by omega),aAH,h1,aA,Ot (by omega),h2,aA,Ot hk,hg,aA,Wl,aA,ww]
  cases win n (L.toList.getD k.toNat 0)
  ·by_cases h6:k=6
   ·simp_all
   ·have:(k != 6)=true:=by simp_all
    simp only[cond_false,this,cond_true,Atz,ne_eq,h6,not_false_eq_true,if_true,Bool.false_eq_true,if_false]
  ·simp
 have s0:=λw=>step 0 w e.a x.A (by omega) ha rfl rfl
 have s1:=λw=>step 1 w e.b x.B (by omega) hb rfl rfl
 have s2:=λw=>step 2 w e.c x.C (by omega) hc rfl rfl
 have s3:∀ w,Ui e x L f w 3=lft (if x.Op=17 then(ixO f.Slots x.A).bind λs=>(ixO f.Slots x.B).bind λs'=>if s.Size≠s'.Size then some 5 else some w else some w):=by
  intro w;unfold Ui
  grind
 rw[PX];have s0:Ui e x L f 0 0=match QO L 0 e.a x.A with|none=>some (.inr 4)|some w'=>some (.inl (w',((0+1:Nat):Int))):=s0 0
 rw[s0];cases QO L 0 e.a x.A with
 | none=>rfl
 | some w1 =>
  simp only[aAN];rw[PX];rw[s1];cases QO L w1 e.b x.B with
  | none=>rfl
  | some w2 =>
   simp only[aAN];rw[PX];rw[s2];cases QO L w2 e.c x.C with
   | none=>rfl
   | some w3 =>
    simp only[aAN];rw[PX];rw[show((2+1:Nat):Int)=3 from rfl,s3]
    generalize(if x.Op=17 then(ixO f.Slots x.A).bind λs=>(ixO f.Slots x.B).bind λs'=>if s.Size≠s'.Size then some 5 else some w3 else some w3)=m
    cases m<;>rfl
theorem Aoy (p:NL) (f:NI) (x:NJ) (hk:x.Op=k) (hlt:k<25) {q:Int×Int×Int×Bool} (hq:Ug[k]? =some q) (h1:0<=q.1/\q.1<7) (h2:0<=q.2.1/\q.2.1<7) (h3:0<=q.2.2.1/\q.2.2.1<7):We p f x =
  if q.1=0/\x.A≠0 then some 2 else if q.2.1=0/\x.B≠0 then some 2 else if q.2.2.1=0/\x.C≠0 then some 2 else if q.2.2.2=false/\x.Imm≠0 then some 2 else
   (QO (OU.mk 1 8 (f.Slots.length:Int) (p.Funcs.length:Int) 8 f.Params (f.Code.length:Int)) 0 q.1 x.A).elim (some 4) λw1=>(QO (OU.mk 1 8 (f.Slots.length:Int) (p.Funcs.length:Int) 8 f.Params (f.Code.length:Int)) w1 q.2.1 x.B).elim (some 4) λw2=>(QO (OU.mk 1 8 (f.Slots.length:Int) (p.Funcs.length:Int) 8 f.Params (f.Code.length:Int)) w2 q.2.2.1 x.C).elim (some 4) λw3=>if x.Op=17 then(ixO f.Slots x.A).bind λs=>(ixO f.Slots x.B).bind λs'=>if s.Size≠s'.Size then some 5 else some w3 else some w3:=by
 unfold We;have hw:win x.Op 25=true:=by grind [win]
 rw[Wl,aA,hw];simp only[aAR,cond_false];rw[Ot (by omega),show x.Op.toNat=k by omega,aAT,hq,Option.map_some,aA,Apr]
 simp_all[Uj,AdE,Aps]
theorem Awn (p:NL) (f:NI) (i k:Int) (x:NJ) (hi:ixO p.Funcs i=some f) (_hk:ixO f.Code k=some x) (hwi:win i p.Funcs.length=true) (hwk:win k f.Code.length=true):Sn p i k=Sa p i k:=by
 simp_all[Sn,Oz]
theorem Qz (c:Prop) [Decidable c] (w:Int) (X:Option Int) (Y:Int->Option Int):(if c then some w else none).elim X Y=if c then Y w else X:=by grind
theorem Aop (c:Prop) [Decidable c] (w v:Int) (X:Option Int) (Y:Int->Option Int):(if c then some w else some v).elim X Y=if c then Y w else Y v:=by grind
theorem TC (n:Int):win n 1=true↔n=0:=by grind [win]
set_option maxHeartbeats 4000000 in
theorem AqK (p:NL) (f:NI) (i k:Int) (x:NJ) (hi:ixO p.Funcs i=some f) (hk:ixO f.Code k=some x) (hwi:win i p.Funcs.length=true) (hwk:win k f.Code.length=true):We p f x=Sn p i k:=by
 rw[Awn p f i k x hi hk hwi hwk];unfold Sa;rw[hi,aA,hk,aA,Oz,aA]
 by_cases hop:0<=x.Op/\x.Op<25
 ·have hw:win x.Op 25=true:=by unfold win;simpa using hop
  rw[hw];simp only[aAR,cond_false];obtain⟨op,A,B,C,I⟩:=x;dsimp only at hop hw ⊢;have h25:op=0\/op=1\/op=2\/op=3\/op=4\/op=5\/op=6\/op=7\/op=8\/op=9\/op=10\/op=11\/op=12\/op=13\/op=14\/op=15\/op=16\/op=17\/op=18\/op=19\/op=20\/op=21\/op=22\/op=23\/op=24:=by omega
  have one:∀ kk:Nat,op=kk->kk<25->∀ q,Ug[kk]? =some q->0<=q.1/\q.1<7->0<=q.2.1/\q.2.1<7->0<=q.2.2.1/\q.2.2.1<7->_:=λkk e hl q hq h1 h2 h3=>Aoy p f ⟨op,A,B,C,I⟩ (k:=kk) e hl hq h1 h2 h3
  rcases h25 with rfl|rfl|rfl|rfl|rfl|rfl|rfl|rfl|rfl|rfl|rfl|rfl|rfl|rfl|rfl|rfl|rfl|rfl|rfl|rfl|rfl|rfl|rfl|rfl|rfl
  ·rw[one 0 rfl (by decide) _ rfl (by decide) (by decide) (by decide)]
   clear one hw hop hi hk hwi hwk
   (simp[QO,OU.toList,Ol,NX,NV,Oa,NS,NY,Om,Ob,Oe,NW,OC,Oz,aAC,Qz,TC])
   all_goals ((repeat' split)<;>simp_all)
  ·rw[one 1 rfl (by decide) _ rfl (by decide) (by decide) (by decide)]
   clear one hw hop hi hk hwi hwk
   (simp[QO,OU.toList,Ol,NX,NV,Oa,NS,NY,Om,Ob,Oe,NW,OC,Oz,aAC,Qz,TC])
   all_goals ((repeat' split)<;>simp_all)
  ·rw[one 2 rfl (by decide) _ rfl (by decide) (by decide) (by decide)]
   clear one hw hop hi hk hwi hwk
   (simp[QO,OU.toList,Ol,NX,NV,Oa,NS,NY,Om,Ob,Oe,NW,OC,Oz,aAC,Qz])
   all_goals ((repeat' split)<;>simp_all)
  ·rw[one 3 rfl (by decide) _ rfl (by decide) (by decide) (by decide)]
   clear one hw hop hi hk hwi hwk
   (simp[QO,OU.toList,Ol,NX,NV,Oa,NS,NY,Om,Ob,Oe,NW,OC,Oz,aAC,Qz])
   all_goals ((repeat' split)<;>simp_all)
  ·rw[one 4 rfl (by decide) _ rfl (by decide) (by decide) (by decide)]
   clear one hw hop hi hk hwi hwk
   (simp[QO,OU.toList,Ol,NX,NV,Oa,NS,NY,Om,Ob,Oe,NW,OC,Oz,aAC,Qz])
   all_goals ((repeat' split)<;>simp_all)
  ·rw[one 5 rfl (by decide) _ rfl (by decide) (by decide) (by decide)]
   clear one hw hop hi hk hwi hwk
   (simp[QO,OU.toList,Ol,NX,NV,Oa,NS,NY,Om,Ob,Oe,NW,OC,Oz,aAC,Qz])
   all_goals ((repeat' split)<;>simp_all)
  ·rw[one 6 rfl (by decide) _ rfl (by decide) (by decide) (by decide)]
   clear one hw hop hi hk hwi hwk
   (simp[QO,OU.toList,Ol,NX,NV,Oa,NS,NY,Om,Ob,Oe,NW,OC,Oz,aAC,Qz])
   all_goals ((repeat' split)<;>simp_all)
  ·rw[one 7 rfl (by decide) _ rfl (by decide) (by decide) (by decide)]
   clear one hw hop hi hk hwi hwk
   (simp[QO,OU.toList,Ol,NX,NV,Oa,NS,NY,Om,Ob,Oe,NW,OC,Oz,aAC,Qz])
   all_goals ((repeat' split)<;>simp_all)
  ·rw[one 8 rfl (by decide) _ rfl (by decide) (by decide) (by decide)]
   clear one hw hop hi hk hwi hwk
   (simp[QO,OU.toList,Ol,NX,NV,Oa,NS,NY,Om,Ob,Oe,NW,OC,Oz,aAC,Qz])
   all_goals ((repeat' split)<;>simp_all)
  ·rw[one 9 rfl (by decide) _ rfl (by decide) (by decide) (by decide)]
   clear one hw hop hi hk hwi hwk
   (simp[QO,OU.toList,Ol,NX,NV,Oa,NS,NY,Om,Ob,Oe,NW,OC,Oz,aAC,Qz])
   all_goals ((repeat' split)<;>simp_all)
  ·rw[one 10 rfl (by decide) _ rfl (by decide) (by decide) (by decide)]
   clear one hw hop hi hk hwi hwk
   (simp[QO,OU.toList,Ol,NX,NV,Oa,NS,NY,Om,Ob,Oe,NW,OC,Oz,aAC,Qz])
   all_goals ((repeat' split)<;>simp_all)
  ·rw[one 11 rfl (by decide) _ rfl (by decide) (by decide) (by decide)]
   clear one hw hop hi hk hwi hwk
   (simp[QO,OU.toList,Ol,NX,NV,Oa,NS,NY,Om,Ob,Oe,NW,OC,Oz,aAC,Qz])
   all_goals ((repeat' split)<;>simp_all)
  ·rw[one 12 rfl (by decide) _ rfl (by decide) (by decide) (by decide)]
   clear one hw hop hi hk hwi hwk
   (simp[QO,OU.toList,Ol,NX,NV,Oa,NS,NY,Om,Ob,Oe,NW,OC,Oz,aAC,Qz,TC])
   all_goals ((repeat' split)<;>simp_all)
  ·rw[one 13 rfl (by decide) _ rfl (by decide) (by decide) (by decide)]
   clear one hw hop hi hk hwi hwk
   (simp[QO,OU.toList,Ol,NX,NV,Oa,NS,NY,Om,Ob,Oe,NW,OC,Oz,aAC,Qz,TC])
   all_goals ((repeat' split)<;>simp_all)
  ·rw[one 14 rfl (by decide) _ rfl (by decide) (by decide) (by decide)]
   clear one hw hop hi hk hwi hwk
   (simp[QO,OU.toList,Ol,NX,NV,Oa,NS,NY,Om,Ob,Oe,NW,OC,Oz,aAC,Qz,TC])
   all_goals ((repeat' split)<;>simp_all)
  ·rw[one 15 rfl (by decide) _ rfl (by decide) (by decide) (by decide)]
   clear one hw hop hi hk hwi hwk
   (simp[QO,OU.toList,Ol,NX,NV,Oa,NS,NY,Om,Ob,Oe,NW,OC,Oz,aAC,Qz,TC])
   all_goals ((repeat' split)<;>simp_all)
  ·rw[one 16 rfl (by decide) _ rfl (by decide) (by decide) (by decide)]
   clear one hw hop hi hk hwi hwk
   (simp[QO,OU.toList,Ol,NX,NV,Oa,NS,NY,Om,Ob,Oe,NW,OC,Oz,aAC,Qz,TC])
   all_goals ((repeat' split)<;>simp_all)
  ·rw[one 17 rfl (by decide) _ rfl (by decide) (by decide) (by decide)]
   clear one hw hop hi hk hwi hwk
   (simp[QO,OU.toList,Ol,NX,NV,Oa,NS,NY,Om,Ob,Oe,NW,OC,Oz,aAC,Qz,TC])
   all_goals ((repeat' split)<;>simp_all)
  ·rw[one 18 rfl (by decide) _ rfl (by decide) (by decide) (by decide)]
   clear one hw hop hi hk hwi hwk
   (simp[QO,OU.toList,Ol,NX,NV,Oa,NS,NY,Om,Ob,Oe,NW,OC,Oz,aAC,Qz,TC])
   all_goals ((repeat' split)<;>simp_all)
  ·rw[one 19 rfl (by decide) _ rfl (by decide) (by decide) (by decide)]
   clear one hw hop hi hk hwi hwk
   (simp[QO,OU.toList,Ol,NX,NV,Oa,NS,NY,Om,Ob,Oe,NW,OC,Oz,aAC,Qz,TC])
   all_goals ((repeat' split)<;>simp_all)
  ·rw[one 20 rfl (by decide) _ rfl (by decide) (by decide) (by decide)]
   clear one hw hop hi hk hwi hwk
   (simp[QO,OU.toList,Ol,NX,NV,Oa,NS,NY,Om,Ob,Oe,NW,OC,Oz,aAC,Qz,Aop,TC])
   all_goals ((repeat' split)<;>simp_all)
  ·rw[one 21 rfl (by decide) _ rfl (by decide) (by decide) (by decide)]
   clear one hw hop hi hk hwi hwk
   (simp[QO,OU.toList,Ol,NX,NV,Oa,NS,NY,Om,Ob,Oe,NW,OC,Oz,aAC,Qz,Aop,TC])
   all_goals ((repeat' split)<;>simp_all)
  ·rw[one 22 rfl (by decide) _ rfl (by decide) (by decide) (by decide)]
   clear one hw hop hi hk hwi hwk
   (simp[QO,OU.toList,Ol,NX,NV,Oa,NS,NY,Om,Ob,Oe,NW,OC,Oz,aAC,Qz,TC])
   all_goals ((repeat' split)<;>simp_all)
  ·rw[one 23 rfl (by decide) _ rfl (by decide) (by decide) (by decide)]
   clear one hw hop hi hk hwi hwk
   (simp[QO,OU.toList,Ol,NX,NV,Oa,NS,NY,Om,Ob,Oe,NW,OC,Oz,aAC,Qz,TC])
   all_goals ((repeat' split)<;>simp_all)
  ·rw[one 24 rfl (by decide) _ rfl (by decide) (by decide) (by decide)]
   clear one hw hop hi hk hwi hwk
   (simp[QO,OU.toList,Ol,NX,NV,Oa,NS,NY,Om,Ob,Oe,NW,OC,Oz,aAC,Qz,TC])
   all_goals ((repeat' split)<;>simp_all)
 ·have hw:win x.Op 25=false:=by unfold win;simpa using hop
  rw[hw];unfold We;rw[Wl,aA,hw];rfl
theorem AsI {α:Type} {n:Int} {l:List α} (h:win n l.length=true):∃ x,ixO l n=some x:=by
 simp_all[win,Py]
theorem AqL (p:NL) (f:NI) (x:NJ):∃ e,We p f x=some e:=by
 by_cases hop:0<=x.Op/\x.Op<25
 ·obtain⟨q,hq⟩:∃ q,Ug[x.Op.toNat]? =some q:=⟨_,aAA (by show x.Op.toNat<25;omega)⟩
  have hall:∀ q∈Ug,(0<=q.1/\q.1<7)/\(0<=q.2.1/\q.2.1<7)/\(0<=q.2.2.1/\q.2.2.1<7):=by decide
  obtain⟨h1,h2,h3⟩:=hall q (aAB hq);have key:=Aoy p f x (k:=x.Op.toNat) (by omega) (by omega) hq h1 h2 h3
  rw[key];split
  ·simp_all
  split
  ·simp_all
  split
  ·simp_all
  split
  ·simp_all
  generalize hL:OU.mk 1 8 (f.Slots.length:Int) (p.Funcs.length:Int) 8 f.Params (f.Code.length:Int)=L;cases g1:QO L 0 q.1 x.A with
  | none=>simp_all
  | some w1 =>
   simp only[aAN];cases g2:QO L w1 q.2.1 x.B with
   | none=>simp_all
   | some w2 =>
    simp only[aAN];cases g3:QO L w2 q.2.2.1 x.C with
    | none=>simp_all
    | some w3 =>
     simp only[aAN]
     by_cases h17:x.Op=17
     ·rw[h17]at hq;have hq:q=(2,2,0,false):=(Option.some.inj hq).symm;subst hq;subst hL;have hA:win x.A f.Slots.length=true:=by
       grind [QO,OU.toList]
      have hB:win x.B f.Slots.length=true:=by
       grind [QO,OU.toList]
      obtain⟨s,hs⟩:=AsI hA;obtain⟨s',hs'⟩:=AsI hB
      grind
     simp_all
 ·refine⟨4,?_⟩
  grind [win,We,Wl]
theorem ArJ (p:NL) (f:NI) (i:Int) (hi:ixO p.Funcs i=some f) (hw:win i p.Funcs.length=true) (hl:f.Code.length<=16777216):∀ (d k:Nat),k+d=f.Code.length ->
  ∃ e,NZ (λs=>TA f p s) (k:Int)=some e/\NZ (λs=>Rx f p i s) (k:Int)=some e:=by
 intro d
 induction d with
 | zero =>
  intro k hk;obtain rfl:k=f.Code.length:=by omega
  have hd:decide ((f.Code.length:Int)<(f.Code.length:Int))=false:=by simp
  rw[PX,PX];unfold TA Rx;rw[hd,cond_false,cond_false]
  by_cases h0:f.Code.length=0
  ·simp_all
  ·have:((f.Code.length:Int)==0)=false:=by simp_all
   have w:IntKind.i64.wrap ((f.Code.length:Int)-1)=((f.Code.length-1:Nat):Int):=by grind [wrap64]
   rw[this,cond_false,w,PE,aAA (show f.Code.length-1<f.Code.length by omega),aA,show QS=Ry from rfl]
   obtain⟨b,hb⟩:∃ b,Ry f.Code[f.Code.length-1].Op=some b:=by
    unfold Ry;cases (f.Code[f.Code.length-1].Op==20)<;>cases (f.Code[f.Code.length-1].Op==23)<;>exact⟨_,rfl⟩
   rw[aA,hb,aA];cases b
   all_goals simp_all
 | succ d ih =>
  intro k hk;have hlt:k<f.Code.length:=by omega
  have hd:decide ((k:Int)<(f.Code.length:Int))=true:=by simp_all
  have hx:ixO f.Code (k:Int)=some (f.Code[k]'hlt):=by simp_all
  obtain⟨e,he⟩:=AqL p f (f.Code[k]'hlt);have he':=AqK p f i (k:Int) _ hi hx hw (by simp_all[win])
  have w:IntKind.i64.wrap ((k:Int)+1)=((k+1:Nat):Int):=NQ (by omega)
  have s1:TA f p (k:Int)=if e≠0 then some (.inr e)else some (.inl ((k+1:Nat):Int)):=by
   simp_all[TA]
  have s2:Rx f p i (k:Int)=if e≠0 then some (.inr e)else some (.inl ((k+1:Nat):Int)):=by
   simp_all[Rx]
  rw[PX,PX,s1,s2]
  by_cases h0:e=0
  ·rw[if_neg (by omega)]
   exact ih (k+1) (by omega)
  simp_all
theorem ArS (p:NL) (f:NI) (i:Int) (hi:ixO p.Funcs i=some f) (hw:win i p.Funcs.length=true):∃ e,XK p i=some e/\SM p i=some e/\(e=0->f.Code.length<=1024/\f.Slots.length<=512):=by
 unfold XK SM;rw[Wl,Oz,aA,aA,hw];simp only[aAR,cond_false,hi,aA]
 by_cases hc:(f.Code.length:Int)>1024
 ·simp_all
 rw[decide_eq_false hc,cond_false,cond_false];obtain⟨e,e1,e2,e3⟩:=AlR f.Slots;rw[e1,e2,aA,aA]
 by_cases h0:e=0
 ·have:(e != 0)=false:=by simp_all
  rw[this,cond_false,cond_false,Wl,aA];obtain⟨r,r1,r2⟩:=ArJ p f i hi hw (by omega) f.Code.length 0 (by omega)
  by_cases hp:0<=f.Params/\f.Params<9
  ·have h1:win f.Params 9=true:=by grind [win]
   have h2:¬ f.Params<0:=by omega
   have h3:¬ f.Params>8:=by omega
   rw[h1,decide_eq_false h2,decide_eq_false h3];refine⟨r,?_,?_,λ_=>⟨by omega,e3 h0⟩⟩
   ·exact r1
   ·exact r2
  grind [win]
 grind
def Small (p:NL):Prop:=p.Funcs.length<=80/\p.Funcs≠[]/\∀ f∈p.Funcs,f.Code.length<=1024/\f.Slots.length<=512
theorem Aqp (p:NL) (hl:p.Funcs.length<=80):∀ (d k:Nat),k+d=p.Funcs.length->∃ e,NZ (λs=>Xe p s) (k:Int)=some e/\NZ (λs=>Ts p s) (k:Int)=some e/\(e=0->∀ (j:Nat) f,k<=j->p.Funcs[j]? =some f->f.Code.length<=1024/\f.Slots.length<=512):=by
 intro d
 induction d with
 | zero =>
  intro k hk;obtain rfl:k=p.Funcs.length:=by omega
  have hd:decide ((p.Funcs.length:Int)<(p.Funcs.length:Int))=false:=by simp
  simp_all[PX,Xe,Ts]
 | succ d ih =>
  intro k hk;have hlt:k<p.Funcs.length:=by omega
  have hd:decide ((k:Int)<(p.Funcs.length:Int))=true:=by simp_all
  have hx:ixO p.Funcs (k:Int)=some (p.Funcs[k]'hlt):=by simp_all
  obtain⟨e,e1,e2,e3⟩:=ArS p _ (k:Int) hx (by simp_all[win])
  have w:IntKind.i64.wrap ((k:Int)+1)=((k+1:Nat):Int):=NQ (by omega)
  have s1:Xe p (k:Int)=if e≠0 then some (.inr e)else some (.inl ((k+1:Nat):Int)):=by
   simp_all[Xe]
  have s2:Ts p (k:Int)=if e≠0 then some (.inr e)else some (.inl ((k+1:Nat):Int)):=by
   simp_all[Ts]
  rw[PX,PX,s1,s2]
  by_cases h0:e=0
  ·rw[if_neg (by omega)]
   obtain⟨r,r1,r2,r3⟩:=ih (k+1) (by omega)
   refine⟨r,r1,r2,λhr j f hj hf=>?_⟩
   grind
  simp_all
theorem Aqq (p:NL):∃ e,YG p=some e/\TK p=some e/\(e=0->Small p):=by
 unfold YG TK
 by_cases hc:(p.Funcs.length:Int)>80
 ·simp_all
 rw[decide_eq_false hc,cond_false,cond_false]
 by_cases h0:p.Funcs.length=0
 ·simp_all
 have h0':((p.Funcs.length:Int)==0)=false:=by simp_all
 have hx:ixO p.Funcs 0=some (p.Funcs[0]'(by omega)):=by simp_all
 rw[h0',cond_false,cond_false,hx,aA,aA]
 by_cases hp:(p.Funcs[0]'(by omega)).Params=0
 ·have:((p.Funcs[0]'(by omega)).Params != 0)=false:=by simp_all
  rw[this,cond_false,cond_false];obtain⟨e,e1,e2,e3⟩:=Aqp p (by omega) p.Funcs.length 0 (by omega)
  refine⟨e,e1,e2,λh=>⟨by omega,λe=>by simp_all,λf hf=>?_⟩⟩
  grind [aAW]
 ·have:((p.Funcs[0]'(by omega)).Params != 0)=true:=by simp_all
  rw[this];simp_all
def Qv (l:List Oc) (i:Nat):Oc:=(l[i]?).getD ⟨⟨[]⟩,⟨[],[]⟩,⟨[]⟩,⟨0,0,[]⟩⟩
def frY (p:NL) (R:Nat->NI×NT×Int×Int) (i:Nat):OD:=⟨((p.Funcs[i]?).map NI.Params).getD 0,(R i).2.1.Size,(R i).1.Code.map (Pz (R i).1 (R i).2.1)⟩
section
variable {p:NL} (h:PF p) {al:Int} (hal:QA al/\16<=al/\al<=16777216)
 include h hal
theorem PF.params {i:Nat} (hf:p.Funcs[i]? =some f):0<=f.Params/\f.Params<=8:=by
 have _:=hal;exact(h.gw hf).par
theorem PF.small {i:Nat} (hf:p.Funcs[i]? =some f):(PG p f al).Size<=1000000000:=(Aia ((h.at hf).lay hal).bas).2.2.2.2.2
theorem PF.AqG {R:Nat->NI×NT×Int×Int} (hR:∀ (i:Nat) f,p.Funcs[i]? =some f->ChY p i f al (R i)) {i:Nat} (hf:p.Funcs[i]? =some f):AsU ((aAD p.Funcs.length).map (frY p R)) al (frY p R i):=by
 have hc:=hR i f hf;have hp:=h.params hal hf;have hb:=h.small hal hf;have hg:=hc.gok;have hsz:=hc.size;obtain⟨s1,s2,s3,s4,s5,s6⟩:=id hc.shape;have hpar:(frY p R i).Params=f.Params:=by grind [frY]
 have hA0:0<=PY ⟨p.Funcs.set (i:Int).toNat (R i).1⟩ (R i).1 (R i).1.Code.length:=by
  have:=AeL (p:=⟨p.Funcs.set (i:Int).toNat (R i).1⟩) (f:=(R i).1) (m:=(R i).1.Code.length) (k:=0) (aAE _) (aAO _)
  grind [PY]
 have low:=λx hx=>Alo hg hc.shape (by omega) (x:=x) hx
 have hcl:(frY p R i).Code.length=(R i).1.Code.length:=by simp[frY]
 have hsize:(frY p R i).Size=(R i).2.1.Size:=rfl;refine⟨by omega,by omega,s4,by have:=hg.len;have:=hg.len';omega,λx hx=>?_,λx hx=>?_,λx hx hop=>?_⟩
 ·obtain⟨x0,hx0,rfl⟩:=aAY.1 hx;have:=(low x0 hx0).2.2.1;rw[hcl,hpar,hsize,<- hc.par];simp_all
 ·rw[hcl]at hx;have hln:=hg.len;have hk:(R i).1.Code[(R i).1.Code.length-1]? =some (NO (R i).1 ((R i).1.Code.length-1:Nat)):=by
   grind [NO]
  have hx':(frY p R i).Code[(R i).1.Code.length-1]? =some (Pz (R i).1 (R i).2.1 (NO (R i).1 ((R i).1.Code.length-1:Nat))):=by
   grind [frY]
  rw[hx']at hx;cases hx;refine(low _ (aAB hk)).2.2.2.2 true ?_;rcases hg.last with e|e|e<;>rw[e]<;>simp[QS]
 ·obtain⟨x0,hx0,rfl⟩:=aAY.1 hx;obtain⟨e1,e2⟩:=(low x0 hx0).2.2.2.1 hop;obtain⟨a0,g,hg1,g0,g1⟩:=(hc.arg x0 hx0).2 e1;have hge:=(ApO hx0).2 e1 g hg1;rw[e2];simp only at hg1;have hAl:x0.A.toNat<p.Funcs.length:=by
   grind
  have hpg:((p.Funcs[x0.A.toNat]?).map NI.Params).getD 0=g.Params:=by
   have hsp:=ApL (p:=p) (i:=(i:Int)) (f:=f) (q:=(R i).1) (by simp_all) hc.par x0.A.toNat
   simp_all
  grind [frY,Py]
end
open Go Go.Dw Go.Proofs
attribute [local simp] Ot aAC
section
variable {p:NL} (h:PF p) {al:Int} (hal:QA al/\16<=al/\al<=16777216) {l:List Oc} {R:Nat->NI×NT×Int×Int} (hR:∀ (i:Nat) f,p.Funcs[i]? =some f->Rf p i (Qv l i)=some (R i)/\Rh p i (Qv l i)=some (R i)/\ChY p i f al (R i))
 include h hal hR
theorem PF.one (hk:k<p.Funcs.length):Rf p k (Qv l k)=some (R k)/\Rh p k (Qv l k)=some (R k)/\(R k).2.2.2=0/\SW p k (R k).1=some ⟨p.Funcs.set k (R k).1⟩/\TL p k (R k).1=some ⟨p.Funcs.set k (R k).1⟩/\TG ⟨p.Funcs.set k (R k).1⟩ k (R k).2.1=some (frY p R k)/\UR ⟨p.Funcs.set k (R k).1⟩ k (R k).2.1=some (frY p R k):=by
 obtain⟨f,hf⟩:∃ f,p.Funcs[k]? =some f:=⟨p.Funcs[k],aAA hk⟩;obtain⟨h1,h2,h3⟩:=hR k f hf;have hfew:=h.few;have hsm:=h.small hal hf;obtain⟨fr,e1,e2,e3⟩:=h3.AuW (by omega) (by omega) hsm
 have hfr:fr=frY p R k:=by grind [frY]
 subst hfr;have o1:=ApZ p (R k).1 (i:=(k:Int)) (by omega) (by omega) (by omega)
 have o2:=Aho p (R k).1 (i:=(k:Int)) (by omega) (by omega) (by omega)
 exact⟨h1,h2,h3.err,o1,o2,e1,e2⟩
end
open Go Go.Dw Go.Proofs
attribute [local simp] Ot aAC
section
variable {p:NL} (h:PF p) {al:Int} (ea:RY p=some al) (ea':Qi p=some al) (hal:QA al/\16<=al/\al<=16777216)
 include h ea ea' hal
theorem PF.Aws (l:List Oc) {L:List NT} (hL:L.length<=1000) (hz:Tx (L,0) p l al (L.map (·.Size)) (L.length:Int)=lft (some z)):NZ (λs=>Tx (L,0) p l al s.1 s.2) (([]:List Int),(0:Int))=some z:=by
 have _:=h;have _:=ea;have _:=ea';have _:=hal;have hh:Hs (NZ (λs=>Tx (L,0) p l al s.1 s.2) (([]:List Int),(0:Int))) λr=>r=z:=by
  refine Hs.loop (λz=>∃ k:Nat,z.2=(k:Int)/\k<=L.length/\z.1=(L.take k).map (·.Size)) (λz=>L.length-z.2.toNat) ⟨0,rfl,aAE _,rfl⟩ ?_
  rintro⟨w,k4⟩ ⟨k,hk,hkl,ho⟩;simp only at hk ho;subst hk;dsimp only
  by_cases hlt:k<L.length
  ·have hx:L[k]? =some L[k]:=aAA hlt;have hlen:w.length+([L[k].Size]:List Int).length<=16777216:=by rw[ho];simp;omega
   unfold Tx;dsimp only;rw[show(decide ((k:Int)<(L.length:Int)))=true by rw[decide_eq_true_eq];omega,cond_true,Py _ (by omega),aAH,hx,aA,Ot hlen]
   refine .cnt ⟨⟨k+1,NQ (by omega),by omega,?_⟩,?_⟩
   ·rw[ho,TN hx,List.map_append];rfl
   ·simp only[NQ (show k<9223372036854775807 by omega)];omega
  ·have:k=L.length:=by omega
   subst this;rw[aAV]at ho;rw[ho,hz];exact .lft (.pure rfl)
 obtain⟨r,h1,rfl⟩:=hh;exact h1
end
structure Auh (p:NL) (al:Int) (o r:List Int×Int):Prop where
 ea:RY p=some al
 ea':Qi p=some al
 hal:QA al/\16<=al/\al<=16777216
 ord:QG (cgR p)=some o
 ho:o=([],8)\/(o.2=0/\o.1.length=(cgR p).length/\∃ done,Rs (cgR p) o.1 done)
 b1:TR (cgR p) (p.Funcs.map λf=>(PG p f al).Size)=some r
 r1:Xi (cgR p) (p.Funcs.map λf=>(PG p f al).Size)=some r
 out:Uv (cgR p) (p.Funcs.map λf=>(PG p f al).Size) o r
theorem PF.base (h:PF p):∃ al o r,Auh p al o r:=by
 obtain⟨al,ea,ea',hal⟩:=h.align;obtain⟨o,rW,c1,b1,r1,oW,ho⟩:=Aoh h.gr (p.Funcs.map λf=>(PG p f al).Size)
 exact⟨al,o,rW,ea,ea',hal,c1,ho,b1,r1,oW⟩
inductive Aoc (p:NL) (l:List Oc) (al:Int) (o r:List Int×Int):OQ×Int->Prop
 | cyc:o=([],8)->Aoc p l al o r (zB,o.2)
 | over:o.2=0->r.2≠0->Aoc p l al o r (zB,r.2)
 | ok (R:Nat->NI×NT×Int×Int) (rT:List Int×Int) (x0:Int):o.2=0->r.2=0->(∀ (i:Nat) f,p.Funcs[i]? =some f->Rh p i (Qv l i)=some (R i)/\ChY p i f al (R i))->Uv (cgR p) (((aAD p.Funcs.length).map (frY p R)).map (·.Size)) o rT->rT.2=0->rT.1[0]? =some x0 ->
  AhW (cgR p) (((aAD p.Funcs.length).map (frY p R)).map (·.Size)) rT.1->Aoc p l al o r (⟨⟨al,(aAD p.Funcs.length).map (frY p R)⟩,x0,rT.1,(aAD p.Funcs.length).map λi=>(R i).2.2.1⟩,0)
open Go Go.Dw Go.Proofs
def Way (g:List (List Int)):Nat->Int->Int->Prop
 | 0,i,k=>i=k
 | n+1,i,k=>∃ j,Way g n i j/\k∈g.getD j.toNat []
theorem Aqx (S:Int->Prop) (hr:∀ v,S v->0<=v/\v<g.length) (hn:∀ v,S v->∃ u∈g.getD v.toNat [],S u) {v:Int} (hv:S v):∃ (i:Nat) (n:Nat),i<g.length/\n<g.length/\Way g (n+1) i i:=by
 obtain⟨nx,hnx⟩:∃ nx:Int->Int,∀ v,S v->nx v∈g.getD v.toNat []/\S (nx v):=by
  refine⟨λv=>Classical.epsilon λu=>u∈g.getD v.toNat []/\S u,λv hv=>?_⟩
  obtain⟨u,h1,h2⟩:=hn v hv;exact Classical.epsilon_spec (p:=λu=>u∈g.getD v.toNat []/\S u) ⟨u,h1,h2⟩
 obtain⟨f,hf0,hf⟩:∃ f:Nat->Int,f 0=v/\∀ n,f (n+1)=nx (f n):=⟨λn=>n.rec v λ_ x=>nx x,rfl,λ_=>rfl⟩
 have hS:∀ n,S (f n):=by
  intro n
  induction n<;>simp_all
 have hw:∀ a d,Way g d (f a) (f (a+d)):=by
  intro a d
  induction d with
  | zero=>rfl
  | succ d ih=>exact⟨_,ih,by grind⟩
 have hnot:¬ ((aAD (g.length+1)).map f).Nodup:=by
  intro hd
  have:=(AdA g.length _ hd λx hx=>by
   grind).1
  grind
 have hex:∃ a b:Nat,a<b/\b<=g.length/\f a=f b:=by
  apply aAI;intro hne;refine hnot (aAb.2 λa b ha hb hab=>?_)
  simp only[List.length_map,List.length_range]at ha hb;simp only[List.getElem_map,List.getElem_range];exact λe=>hne ⟨a,b,hab,by omega,e⟩
 obtain⟨a,b,hab,hbl,e⟩:=hex;have h1:=hw a (b-a);rw[show a+(b-a)=b by omega,<- e]at h1
 have h2:=hr _ (hS a);refine⟨(f a).toNat,b-a-1,by omega,by omega,?_⟩
 rw[show((f a).toNat:Int)=f a by omega,show b-a-1+1=b-a by omega]
 exact h1
theorem AoF {g:List (List Int)} {done:List Int}:∀ (d k:Nat),nxY g done d k<0->∀ j,k<=j->j<k+d->¬ (¬ (j:Int)∈done/\∀ v∈g.getD j [],v∈done)
 | 0,_,_=>λj h1 h2=>by omega
 | d+1,k,h=>λj h1 h2=>by
  unfold nxY at h;split at h
  ·omega
  ·rename_i hn
   by_cases e:j=k
   ·simp_all
   ·exact AoF d (k+1) h j (by omega) (by omega)
theorem Anj:∀ {l m:List Int},l.Nodup->(∀ x∈l,x∈m)->l.length<=m.length
 | [],_,_,_=>aAE _
 | x::l,m,hd,hs=>by
  have hx:x∈m:=hs x (by simp)
  have hd':=List.nodup_cons.1 hd;have:=Anj (m:=m.erase x) hd'.2 λy hy=>(List.mem_erase_of_ne (λe=>hd'.1 (by simp_all))).2 (hs y (by simp[hy]))
  grind
theorem Apy (hg:GrY g) (he:QG g=some ([],8)):∃ (i:Nat) (n:Nat),i<g.length/\n<g.length/\Way g (n+1) i i:=by
 have hh:Hs (QG g) λr=>r.2=8->∃ (i:Nat) (n:Nat),i<g.length/\n<g.length/\Way g (n+1) i i:=by
  refine Hs.loop (λs:List Int×List Int=>Rs g s.1 s.2/\s.1.length<=g.length) (λs=>g.length-s.1.length) ⟨Rs.nil g,aAE _⟩ λs ⟨hs,hsl⟩=>?_
  refine⟨WC g s.1 s.2,Anv hg hs,?_⟩;cases hst:WC g s.1 s.2 with
  | inl s' =>
   obtain⟨h1,h2,h3⟩:=Ahp hg hs hst;exact⟨⟨h1,by omega⟩,by grind⟩
  | inr r =>
   unfold WC at hst;split at hst
   ·split at hst
    ·rename_i hneg;intro _;have hno:∀ j:Nat,j<g.length->(j:Int)∉s.2->∃ v∈g.getD j [],v∉s.2:=by
      intro j hj hd;apply aAI;intro hall;have hc:∀ v∈g.getD j [],v∈s.2:=λv hv=>aAI λhn=>hall ⟨v,hv,hn⟩
      exact AoF (g.length) 0 hneg j (aAE _) (by omega) ⟨hd,hc⟩
     have hex:∃ j:Nat,j<g.length/\(j:Int)∉s.2:=by
      apply aAI;intro hall;have hin:∀ x∈(aAD g.length).map (λn:Nat=>(n:Int)),x∈s.1:=by
       intro x hx;obtain⟨k,hk,rfl⟩:=aAY.1 hx;have hk:=List.mem_range.1 hk;exact(hs.mem _).1 (aAI λhn=>hall ⟨k,hk,hn⟩)
      have hnd:((aAD g.length).map (λn:Nat=>(n:Int))).Nodup:=by
       grind [aAb]
      have:=Anj hnd hin
      grind
     obtain⟨j,hj,hjd⟩:=hex;refine Aqx (λv=>(0<=v/\v<g.length)/\v∉s.2) (λv hv=>hv.1) (λv hv=>?_) (v:=(j:Int)) ⟨by omega,hjd⟩
     have e:((v.toNat:Nat):Int)=v:=by omega
     obtain⟨u,hu,hud⟩:=hno v.toNat (by omega) (by simp_all)
     have hrow:g[v.toNat]? =some (g[v.toNat]'(by omega)):=aAA _
     have hg1:g.getD v.toNat []=g[v.toNat]'(by omega):=by simp_all
     have h2:=(hg.at_ hrow);refine⟨u,hu,⟨(h2.1.2 u (hg1▸hu)).1,h2.2 u (hg1▸hu)⟩,hud⟩
    ·cases hst
   ·cases hst;intro e;cases e
 obtain⟨r,h1,h2⟩:=hh;simp_all
structure Ajd (p:NL) (al:Int) (o r:List Int×Int):Prop where
 ea:RY p=some al
 hal:QA al/\16<=al/\al<=16777216
 ord:QG (cgR p)=some o
 ho:o=([],8)\/(o.2=0/\o.1.length=(cgR p).length/\∃ done,Rs (cgR p) o.1 done)
 b1:TR (cgR p) (p.Funcs.map λf=>(PG p f al).Size)=some r
 out:Uv (cgR p) (p.Funcs.map λf=>(PG p f al).Size) o r
theorem AuI (hg:GrY g) (w:List Int):∃ o r,QG g=some o/\TR g w=some r/\Uv g w o r/\(o=([],8)\/(o.2=0/\o.1.length=g.length/\∃ done,Rs g o.1 done)):=by
 obtain⟨o,e1,e3⟩:=Ank hg;obtain⟨r,h1,h2⟩:=AmV hg (w:=w) e1;simp_all
def ChD (p:NL) (al:Int) (l:List Oc) (R:Nat->NI×NT×Int×Int):Prop:=∀ (i:Nat) f,p.Funcs[i]? =some f->Rf p i (Qv l i)=some (R i)/\ChY p i f al (R i)/\(R i).1.Code.length<=f.Code.length/\((Qv l i).Live.Out=[]->R i=(f,PG p f al,0,0))
inductive AfF (p:NL) (l:List Oc) (al:Int) (o r:List Int×Int):OQ×Int->Prop
 | cyc:o=([],8)->AfF p l al o r (zB,o.2)
 | over:o.2=0->r.2≠0->AfF p l al o r (zB,r.2)
 | ok (R:Nat->NI×NT×Int×Int) (rT:List Int×Int) (x0:Int):o.2=0->r.2=0->ChD p al l R->Uv (cgR p) (((aAD p.Funcs.length).map (frY p R)).map (·.Size)) o rT->rT.2=0->rT.1[0]? =some x0 ->
  AhW (cgR p) (((aAD p.Funcs.length).map (frY p R)).map (·.Size)) rT.1->AfF p l al o r (⟨⟨al,(aAD p.Funcs.length).map (frY p R)⟩,x0,rT.1,(aAD p.Funcs.length).map λi=>(R i).2.2.1⟩,0)
theorem ArX (n:Int):∀ l,Ame n l=Tm n l
 | []=>rfl
 | x::r=>by unfold Ame Tm;rw[ArX n r]
theorem Ate (l:List NJ):Yp l=TS l:=by
 grind [AlX,Ra,ArX,Yp,TS]
theorem PF.cg (h:PF p):Amb p=some (cgR p):=by
 have hc:=h.calls;unfold Amb;rw[@Ot _ _ (aAg _) _ ⟨h.few,λf hf=>⟨⟨(h.all f hf).len,(h.all f hf).len'⟩,hc f hf⟩⟩]
 grind [cgR,Ate]
theorem AhW.broken {w c:List Int} (h:AhW g w c):AdK g w c=some (0,false):=by
 unfold AdK;rw[@Ot _ _ (aAg _) _ ⟨h.size,h.row,h.wt,h.cl,h.ge⟩]
theorem ApI {t:Pb} (hn:t.Frames.length<=1000000):VD t=some (t.Frames.map (·.Size)):=by
 have hh:Hs (VD t) λr=>r=t.Frames.map (·.Size):=by
  refine Hs.loop (λz=>∃ k:Nat,z.2=(k:Int)/\k<=t.Frames.length/\z.1=(t.Frames.take k).map (·.Size)) (λz=>t.Frames.length-z.2.toNat) ⟨0,rfl,aAE _,rfl⟩ ?_
  rintro⟨w,_⟩ ⟨k,rfl,hk,hw⟩;replace hw:w=(t.Frames.take k).map (·.Size):=hw;refine .dec (λhlt=>?_) λ_=>.lft (.pure ?_)
  ·have hx:t.Frames[k]? =some (t.Frames[k]'(by omega)):=aAA _
   rw[PE,hx,aA,NQ (by omega)]
   refine .chk (by grind) (.cnt ⟨⟨k+1,rfl,by omega,?_⟩,by grind⟩)
   rw[hw,TN hx,List.map_append];rfl
  ·have:k=t.Frames.length:=by omega
   subst this;rw[aAV]at hw;exact hw
 obtain⟨r,h1,rfl⟩:=hh;exact h1
theorem Acf {α:Type} (f:Nat->α) (k:Nat):(aAD (k+1)).map f=(aAD k).map f++[f k]:=by grind [List.range_succ]
section
variable {p:NL} (h:PF p) {al:Int} (hal:QA al/\16<=al/\al<=16777216)
 include h hal
variable {l:List Oc} {R:Nat->NI×NT×Int×Int} (hR:ChD p al l R)
 include hR
theorem PF.AwT (hk:k<p.Funcs.length):Rf p k (Qv l k)=some (R k)/\(R k).2.2.2=0/\SW p k (R k).1=some ⟨p.Funcs.set k (R k).1⟩/\TG ⟨p.Funcs.set k (R k).1⟩ k (R k).2.1=some (frY p R k):=by
 have hf:p.Funcs[k]? =some p.Funcs[k]:=aAA hk;obtain⟨h1,h3,_⟩:=hR k _ hf;have hfew:=h.few;have hsm:=h.small hal hf;have hg:=h3.gok;have hsz:=h3.size;have hx:=λx hx=>Alo hg h3.shape (by omega) (x:=x) hx
 have hfs:(⟨p.Funcs.set k (R k).1⟩:NL).Funcs[k]? =some (R k).1:=aAP (by omega)
 have hl:=hg.len';have e1:=Aov hfs (by omega) (y:=(R k).2.1) (T:=Pz (R k).1 (R k).2.1) (λx hm=>(hx x hm).1) (λx hm=>(hx x hm).2.1)
 have o1:=ApZ p (R k).1 (i:=(k:Int)) (by omega) (by omega) (by omega)
 rw[aAH]at o1;refine⟨h1,h3.err,o1,?_⟩;rw[e1,h3.par]
 grind [frY]
theorem PF.AwH (hz:VT p l g 0 ((aAD p.Funcs.length).map (frY p R)) ((aAD p.Funcs.length).map (λi=>(R i).2.2.1)) (p.Funcs.length:Int)=lft (some z)):RU p l g 0=some z:=by
 have hfew:=h.few;have hh:Hs (RU p l g 0) λr=>r=z:=by
  refine Hs.loop (λs=>∃ k:Nat,s=(0,(aAD k).map (frY p R),(aAD k).map (λi=>(R i).2.2.1),(k:Int))/\k<=p.Funcs.length) (λs=>p.Funcs.length-s.2.2.2.toNat) ⟨0,rfl,aAE _⟩ ?_
  rintro _ ⟨k,rfl,hkl⟩
  by_cases hlt:k<p.Funcs.length
  ·obtain⟨c1,c3,o1,f1⟩:=h.AwT hal hR hlt;have l1:((aAD k).map (frY p R)).length+([frY p R k]:List OD).length<=16777216:=by simp;omega
   have l2:((aAD k).map (λi=>(R i).2.2.1)).length+([(R k).2.2.1]:List Int).length<=16777216:=by simp;omega
   have nx:Hs (cnt (R:=OQ×Int) ((0:Int),(aAD k).map (frY p R)++[frY p R k],(aAD k).map (λi=>(R i).2.2.1)++[(R k).2.2.1],IntKind.i64.wrap ((k:Int)+1))) (Rnd (λs:Int×List OD×List Int×Int=>∃ k:Nat,s=(0,(aAD k).map (frY p R),(aAD k).map (λi=>(R i).2.2.1),(k:Int))/\k<=p.Funcs.length) (λs=>p.Funcs.length-s.2.2.2.toNat) ((0:Int),(aAD k).map (frY p R),(aAD k).map (λi=>(R i).2.2.1),(k:Int)) λr:OQ×Int=>r=z):=by
    rw[NQ (by omega),<- Acf,<- Acf (λi=>(R i).2.2.1)]
    exact .cnt ⟨⟨k+1,rfl,hlt⟩,by grind⟩
   unfold VT;dsimp only;rw[decide_eq_true (show(k:Int)<(p.Funcs.length:Int)by omega),cond_true]
   have go:∀ {x},Qv l k=x->Rf p k x=some (R k):=λe=>e▸c1
   refine .dec (λhl=>?_) λhl=>?_
   ·refine(Hs.ix (l:=l) (i:=(k:Int)) (by omega) hl λz hz=>hz).bind λx hx=>?_
    simp only[aAH]at hx;simp only[go (show Qv l k=x by grind [Qv]),beq_self_eq_true,cond_true,aA,c3,bne_self_eq_false,cond_false,o1,f1]
    rw[Ot l1,Ot l2];exact nx
   ·simp only[go (show Qv l k=⟨⟨[]⟩,⟨[],[]⟩,⟨[]⟩,⟨0,0,[]⟩⟩by grind [Qv]),beq_self_eq_true,cond_true,aA,c3,bne_self_eq_false,cond_false,o1,f1]
    rw[Ot l1,Ot l2];exact nx
  ·have:k=p.Funcs.length:=by omega
   subst this;rw[hz];exact .lft (.pure rfl)
 obtain⟨r,h1,rfl⟩:=hh;exact h1
end
theorem Arw (h:PF p) (s1:YG p=some 0) {al:Int} {o:List Int×Int} (B:Ajd p al o r) {l:List Oc} (hR:∃ R,ChD p al l R):∃ z,TZ p l=some z/\AfF p l al o r z:=by
 obtain⟨ea,hal,c1,ho,b1,oW⟩:=B;have hfew:=h.few;have hgr:=h.gr;have hgl:(cgR p).length=p.Funcs.length:=by simp[cgR]
 have start:∀ z,RT p l (cgR p) o.2=some z->TZ p l=some z:=by
  intro z hz;unfold TZ;simp only[beq_self_eq_true,cond_true,s1,aA];unfold VU;simp only[beq_self_eq_true,cond_true,h.cg,aA,c1];exact hz
 rcases ho with ho|⟨ho0,hol,done,hord⟩
 ·refine⟨_,start _ ?_,.cyc ho⟩;rw[ho];exact Aqd p l _ (by omega) (by decide)
 rw[ho0]at start;have psz:∀ z,Tj p l (cgR p) r.2=some z->TZ p l=some z:=λz hz=>start z (h.AwK ea hal l (cgR p) b1 hz)
 by_cases hr0:r.2=0
 ·rw[hr0]at psz;obtain⟨R,hR⟩:=hR;have hF:∀ (i:Nat) f,p.Funcs[i]? =some f->ChY p i f al (R i):=λi f hf=>(hR i f hf).2.1
  obtain⟨t,ht⟩:∃ t:Pb,t=⟨al,(aAD p.Funcs.length).map (frY p R)⟩:=⟨_,rfl⟩;have htl:t.Frames.length=p.Funcs.length:=by simp_all
  have w1:=ApI (t:=t) (by omega)
  obtain⟨o',rT,c1',b1',oT,_⟩:=AuI hgr (t.Frames.map (·.Size));rw[c1]at c1';cases c1';have hle:LeW (t.Frames.map (·.Size)) (p.Funcs.map λf=>(PG p f al).Size):=by
   refine⟨by simp[htl],λi x hx=>?_⟩
   rw[aAT]at hx;obtain⟨f,hf,rfl⟩:=aAU.1 hx;have hil:=(aAG.1 hf).1;have hfr:=(h.AqG hal hF hf).size;refine⟨(frY p R i).Size,?_,hfr.1,(hF i f hf).size⟩;simp_all
  have hT0:=Uv.mono oW oT hr0 hle;have hbrk:=oT.AqH hgr hT0 hord hol;have hrl:=hbrk.cl;obtain⟨x0,hx0⟩:∃ x0,rT.1[0]? =some x0:=⟨rT.1[0]'(by omega),aAA _⟩
  have hcert:Uz (cgR p) (t.Frames.map (·.Size)) rT.1=some 0:=by
   unfold Uz;rw[AiL hbrk,aA];rw[hbrk.broken,aA];rfl
  have hmach:YM t=some 0:=by
   obtain⟨m,hm,hme⟩:=hal.1;refine Asa (t:=t) (by grind [Alf]) (by simp_all) (by omega) (λfr hfr=>?_) λfr hfr=>?_
   ·rw[ht]at hfr ⊢;obtain⟨i,hi,rfl⟩:=aAY.1 hfr;exact h.AqG hal hF (aAA (List.mem_range.1 hi))
   ·have h0:0<p.Funcs.length:=by omega
    rw[ht,aAT,List.getElem?_range h0]at hfr;cases hfr;unfold frY;rw[aAA h0];exact h.zero _ (aAA h0)
  refine⟨(⟨t,x0,rT.1,(aAD p.Funcs.length).map (λi=>(R i).2.2.1)⟩,0),psz _ (h.AwH hal hR ?_),?_⟩
  ·unfold VT;rw[show(decide ((p.Funcs.length:Int)<(p.Funcs.length:Int)))=false by simp,cond_false]
   simp only[beq_self_eq_true,cond_true,ea,aA,<- ht];simp_all[Ti,Um]
  ·rw[ht]at oT hbrk ⊢;exact .ok R rT _ ho0 hr0 hR oT hT0 hx0 hbrk
 ·exact⟨(zB,r.2),psz _ (Aqd p l _ (by omega) hr0),.over ho0 hr0⟩
open Go Go.Dw Go.Proofs
def ChR (p:NL) (al:Int) (l:List Oc) (R:Nat->NI×NT×Int×Int):Prop:=∀ (i:Nat) f,p.Funcs[i]? =some f->Rh p i (Qv l i)=some (R i)/\ChY p i f al (R i)/\((Qv l i).Live.Out=[]->R i=(f,PG p f al,0,0))
section
variable {p:NL} (h:PF p) {al:Int} (hal:QA al/\16<=al/\al<=16777216)
 include h hal
theorem PF.Atf (ea:Qi p=some al) (l:List Oc) (hl:∀ x∈l,QB x.Live.Out/\QB x.LiveAfter.Out):∃ R:Nat->NI×NT×Int×Int,ChR p al l R:=by
 have key:∀ i:Nat,∃ r:NI×NT×Int×Int,∀ f,p.Funcs[i]? =some f->Rh p i (Qv l i)=some r/\ChY p i f al r/\((Qv l i).Live.Out=[]->r=(f,PG p f al,0,0)):=by
  intro i;cases hf:p.Funcs[i]? with
  | none=>exact⟨(⟨0,[],[]⟩,⟨0,0,[]⟩,0,0),λf e=>by cases e⟩
  | some f =>
   have hx:QB (Qv l i).Live.Out/\QB (Qv l i).LiveAfter.Out:=by
    unfold Qv;cases hx:l[i]? with
    | none=>exact⟨⟨by simp,by simp⟩,⟨by simp,by simp⟩⟩
    | some x=>exact hl x (aAB hx)
   obtain⟨r,h1⟩:=Aqs (h.at hf) (h.gw hf) ea hal (Qv l i) hx.1 hx.2;exact⟨r,λf' e=>by cases e;exact h1⟩
 exact Classical.axiomOfChoice key
variable {l:List Oc} {R:Nat->NI×NT×Int×Int} (hR:ChR p al l R)
 include hR
theorem PF.AwU (hk:k<p.Funcs.length):Rh p k (Qv l k)=some (R k)/\TL p k (R k).1=some ⟨p.Funcs.set k (R k).1⟩/\UR ⟨p.Funcs.set k (R k).1⟩ k (R k).2.1=some (frY p R k):=by
 have hf:p.Funcs[k]? =some p.Funcs[k]:=aAA hk;obtain⟨h1,h3,_⟩:=hR k _ hf;have hfew:=h.few;have hsm:=h.small hal hf;have hg:=h3.gok;have hsz:=h3.size;have hx:=λx hx=>Alo hg h3.shape (by omega) (x:=x) hx
 have hfs:(⟨p.Funcs.set k (R k).1⟩:NL).Funcs[k]? =some (R k).1:=aAP (by omega)
 have hl:=hg.len';have e1:=Anq hfs (by omega) (y:=(R k).2.1) (T:=Pz (R k).1 (R k).2.1) λx hm=>(hx x hm).1
 have o1:=Aho p (R k).1 (i:=(k:Int)) (by omega) (by omega) (by omega)
 rw[aAH]at o1;refine⟨h1,o1,?_⟩;rw[e1,h3.par];unfold frY;rw[hf];rfl
theorem PF.Awp {r6:Int} (hz:Ty p l r6 ((aAD p.Funcs.length).map (frY p R)) ((aAD p.Funcs.length).map (λi=>(R i).2.2.1)) (p.Funcs.length:Int)=lft (some z)):NZ (λs=>Ty p l r6 s.1 s.2.1 s.2.2) (([]:List OD),([]:List Int),(0:Int))=some z:=by
 have hfew:=h.few;have hh:Hs (NZ (λs=>Ty p l r6 s.1 s.2.1 s.2.2) (([]:List OD),([]:List Int),(0:Int))) λr=>r=z:=by
  refine Hs.loop (λs=>∃ k:Nat,s=((aAD k).map (frY p R),(aAD k).map (λi=>(R i).2.2.1),(k:Int))/\k<=p.Funcs.length) (λz=>p.Funcs.length-z.2.2.toNat) ⟨0,rfl,aAE _⟩ ?_
  rintro _ ⟨k,rfl,hkl⟩;dsimp only
  by_cases hlt:k<p.Funcs.length
  ·obtain⟨c2,o2,f2⟩:=h.AwU hal hR hlt;have key:∀ {x},Qv l k=x->Vg p k ((aAD k).map (frY p R)) ((aAD k).map (λi=>(R i).2.2.1)) x.Live.Out x.Rename.To x.Rename.Keep x.LiveAfter.Out x.Layout.Args x.Layout.Size x.Layout.Off=cnt ((aAD (k+1)).map (frY p R),(aAD (k+1)).map (λi=>(R i).2.2.1),((k+1:Nat):Int)):=by
    rintro _ rfl;unfold Vg;change (Rh p k (Qv l k)).bind _=_;rw[c2,aA,Ot (by simp;omega),o2,aA,f2,aA]
    simp only[List.nil_append];rw[Ot (by simp;omega),Ot (by simp;omega),Ot (by simp;omega),NQ (by omega),<- Acf,<- Acf (λi=>(R i).2.2.1)]
   have nx:Hs (cnt (R:=OQ×Int) ((aAD (k+1)).map (frY p R),(aAD (k+1)).map (λi=>(R i).2.2.1),((k+1:Nat):Int))) (Rnd (λs:List OD×List Int×Int=>∃ k:Nat,s=((aAD k).map (frY p R),(aAD k).map (λi=>(R i).2.2.1),(k:Int))/\k<=p.Funcs.length) (λz=>p.Funcs.length-z.2.2.toNat) ((aAD k).map (frY p R),(aAD k).map (λi=>(R i).2.2.1),(k:Int)) λr:OQ×Int=>r=z) :=
    .cnt ⟨⟨k+1,rfl,hlt⟩,by simp only;omega⟩
   unfold Ty;rw[decide_eq_true (show(k:Int)<(p.Funcs.length:Int)by omega),cond_true]
   refine .dec (λhl=>?_) λhl=>?_
   ·refine(Hs.ix (l:=l) (i:=(k:Int)) (by omega) hl λz hz=>hz).bind λx hx=>?_
    simp only[aAH]at hx;rw[key (show Qv l k=x by unfold Qv;rw[hx];rfl)]
    exact nx
   ·have e:=key (show Qv l k=⟨⟨[]⟩,⟨[],[]⟩,⟨[]⟩,⟨0,0,[]⟩⟩by unfold Qv;rw[aAl (by omega)];rfl)
    simp only at e;rw[e];exact nx
  ·have:k=p.Funcs.length:=by omega
   subst this;rw[hz];exact .lft (.pure rfl)
 obtain⟨r,h1,rfl⟩:=hh;exact h1
end
theorem AwM {al:Int}:(p.Funcs.map (λf=>PG p f al)).map (·.Size)=p.Funcs.map λf=>(PG p f al).Size:=by simp
theorem AmX (h:PF p) (s2:TK p=some 0) {al:Int} {o rW:List Int×Int} (B:Auh p al o rW) (ho0:o.2=0) (hr0:rW.2=0) {l:List Oc} (hl:∀ x∈l,QB x.Live.Out/\QB x.LiveAfter.Out):∃ (R:Nat->NI×NT×Int×Int) (rT:List Int×Int) (x0:Int),Sz p l=some (⟨⟨al,(aAD p.Funcs.length).map (frY p R)⟩,x0,rT.1,(aAD p.Funcs.length).map λi=>(R i).2.2.1⟩,0)/\ChR p al l R/\Uv (cgR p) (((aAD p.Funcs.length).map (frY p R)).map (·.Size)) o rT/\rT.2=0/\rT.1[0]? =some x0/\AhW (cgR p) (((aAD p.Funcs.length).map (frY p R)).map (·.Size)) rT.1:=by
 obtain⟨ea,ea',hal,c1,ho,b1,r1,oW⟩:=B;have hfew:=h.few;have hgr:=h.gr;have hgl:(cgR p).length=p.Funcs.length:=by simp[cgR]
 have hof:=Awr (p:=p) (by omega) h.short h.calls
 have c2:US (cgR p)=some o:=by
  obtain⟨r,q1,q2,_⟩:=Ahj hgr;rw[c1]at q1;cases q1;exact q2
 have rb:∀ {w r},Xi (cgR p) w=some r->Xc p w=some r:=by
  intro w r e;unfold Xc;rw[hof,aA,e,aA]
 obtain⟨R,hR⟩:=h.Atf hal ea' l hl;have hF:∀ (i:Nat) f,p.Funcs[i]? =some f->ChY p i f al (R i):=λi f hf=>(hR i f hf).2.1
 obtain⟨t,ht⟩:∃ t:Pb,t=⟨al,(aAD p.Funcs.length).map (frY p R)⟩:=⟨_,rfl⟩;have htl:t.Frames.length=p.Funcs.length:=by rw[ht];simp
 obtain⟨_,w2⟩:=Arh (t:=t) (by omega)
 obtain⟨o',rT,c1',b1',r1',oT,_⟩:=Aoh hgr (t.Frames.map (·.Size));rw[c1]at c1';cases c1';have hle:LeW (t.Frames.map (·.Size)) (p.Funcs.map λf=>(PG p f al).Size):=by
  refine⟨by simp[htl],λi x hx=>?_⟩
  rw[aAT]at hx;obtain⟨f,hf,rfl⟩:=aAU.1 hx;have hil:=(aAG.1 hf).1;have hfr:=(h.AqG hal hF hf).size;refine⟨(frY p R i).Size,?_,hfr.1,(hF i f hf).size⟩;rw[ht];simp[hil]
 have hT0:=Uv.mono oW oT hr0 hle;obtain⟨hol,done,hord⟩:o.1.length=(cgR p).length/\∃ done,Rs (cgR p) o.1 done:=by
  rcases ho with rfl|⟨_,h2⟩
  ·exact absurd ho0 (by decide)
  ·exact h2
 have hbr:=oT.AqH hgr hT0 hord hol;have hrl:=hbr.cl;obtain⟨x0,hx0⟩:∃ x0,rT.1[0]? =some x0:=⟨rT.1[0]'(by omega),aAA _⟩
 refine⟨R,rT,x0,?_,hR,by rw[ht]at oT;exact oT,hT0,hx0,by rw[ht]at hbr;exact hbr⟩
 unfold Sz;simp only[s2,aA,bne_self_eq_false,cond_false,hof,c2,ho0,ea',h.AwE hal];refine h.Aws ea ea' hal l (by simp;omega) ?_
 unfold Tx;rw[AwM];dsimp only;rw[show(decide (((p.Funcs.map (λf=>PG p f al)).length:Int)<((p.Funcs.map (λf=>PG p f al)).length:Int)))=false by simp,cond_false,rb r1,aA]
 simp only[hr0,bne_self_eq_false,cond_false];congr 1;refine h.Awp hal hR ?_;unfold Ty;rw[show(decide ((p.Funcs.length:Int)<(p.Funcs.length:Int)))=false by simp,cond_false,<- ht,w2,aA,rb r1',aA,decide_eq_true (by omega:(rT.1.length:Int)>0),cond_true,Py _ (by omega)]
 simp only[Int.toNat_zero,hx0,aA]
open Go Go.Dw Go.Proofs
theorem Aox {n y:Int}:∀ {s:List Int},y∈Tm n s->y=n\/y∈s
 | [],h=>by simpa[Tm]using h
 | x::r,h=>by
  unfold Tm at h;split at h
  ·rcases aAm.1 h with rfl|h
   ·exact .inr (by simp)
   ·exact(Aox h).imp id λh=>by simp[h]
  ·split at h
   ·exact .inr h
   ·rcases aAm.1 h with rfl|h
    ·exact .inl rfl
    ·exact .inr h
theorem Aqn {y:Int} (l:List NJ):∀ s:List Int,y∈l.foldl (λs x=>if x.Op=22 then Ra x.A s else s) s->y∈s\/∃ x∈l,x.Op=22/\x.A=y:=by
 induction l with
 | nil=>exact λ_ h=>.inl h
 | cons x r ih =>
  intro s h;rcases ih _ h with h|⟨z,h1,h2⟩
  ·dsimp only at h;split at h
   ·rename_i h22;unfold Ra at h;split at h
    ·rcases Aox h with rfl|h
     ·exact .inr ⟨x,by simp,h22,rfl⟩
     ·exact .inl h
    ·exact .inl h
   ·exact .inl h
  ·exact .inr ⟨z,by simp[h1],h2⟩
theorem Acs.up {funcs most:Int} (h:Acs funcs most p):∀ (n:Nat) (i k:Int),0<=i->Way (cgR p) (n+1) i k->i<k
 | n,i,k,h0,⟨j,hw,hk⟩=>by
  have hij:i<=j/\0<=j:=by
   cases n with
   | zero=>cases hw;omega
   | succ n=>have:=h.up n i j h0 hw;omega
  have hj:k∈(cgR p).getD j.toNat []:=hk;obtain⟨ps,_,_,_,_,hl,hall⟩:=h
  by_cases hjl:j.toNat<p.Funcs.length
  ·have e:(cgR p).getD j.toNat []=TS (p.Funcs[j.toNat]'hjl).Code:=by simp[cgR,aAa,hjl]
   rw[e]at hj;rcases Aqn _ _ hj with hj|⟨x,hx,h22,rfl⟩
   ·cases hj
   ·have hf:=hall _ _ (aAA hjl);obtain⟨m,hm⟩:=aAF hx;have hml:=(aAG.1 hm).1
    by_cases hlast:m+1<(p.Funcs[j.toNat]'hjl).Code.length
    ·have hb:=hf.body m x hm hlast;cases hb<;>first
      | (rename_i q1 q2;simp only at q1 q2 ⊢;omega)
      | (simp at h22;done)
      | (simp only at h22;omega)
    ·have he:=hf.last x (by rw[show(p.Funcs[j.toNat]'hjl).Code.length-1=m by omega];exact hm)
     rcases he with rfl|⟨w,_,rfl⟩<;>simp at h22
  ·have e:(cgR p).getD j.toNat []=[]:=by simp[cgR,aAa,aAl (show p.Funcs.length<=j.toNat by omega)]
   rw[e]at hj;cases hj
theorem Alj {f:Nat->Option Int} {C:Int}:∀ {s:List Int} {b:Int},(∀ j∈s,∃ x,f j.toNat=some x/\0<=x/\x<=C)->0<=b/\b<=C->∃ m,s.foldlM (λa j=>(f j.toNat).map (Ph a)) b=some m/\0<=m/\m<=C
 | [],b,_,hb=>⟨b,rfl,hb⟩
 | x::s,b,h,hb=>by
  obtain⟨y,hy,hr⟩:=h x (by simp)
  obtain⟨m,hm,hr'⟩:=Alj (f:=f) (C:=C) (s:=s) (b:=Ph b y) (λj hj=>h j (by simp[hj])) (by grind [Ph])
  simp_all
theorem Aqe {g:List (List Int)} (hg:GrY g) {w order done:List Int} (ho:Rs g order done) (hl:order.length=g.length) {M:Int} (hw:w.length=g.length) (hM:∀ x∈w,0<=x/\x<=M) (hmax:(g.length:Int)*M<=2147483647) :
  ∀ (n b:Nat),b<n->∀ i:Nat,order[b]? =some (i:Int)->∃ x,vB g w i=some x/\0<=x/\x<=((b+1:Nat):Int)*M
 | 0,_,h=>by omega
 | n+1,b,hbn=>λi hi=>by
  have hr:=ho.rng _ (aAB hi);have hbl:=(aAG.1 hi).1;obtain⟨s,hs⟩:∃ s,g[i]? =some s:=⟨g[i]'(by omega),aAA _⟩
  obtain⟨y,hy⟩:∃ y,w[i]? =some y:=⟨w[i]'(by omega),aAA _⟩
  have hyr:=hM y (aAB hy);have hM0:0<=M:=by omega
  have hb0:0<=(b:Int)*M:=Int.mul_nonneg (by omega) hM0
  have hb1:((b+1:Nat):Int)*M=(b:Int)*M+M:=by grind
  have hb2:((b+1:Nat):Int)*M<=(g.length:Int)*M:=aAZ (by omega) hM0
  have hgd:g.getD (i:Int).toNat []=s:=by simp_all
  obtain⟨m,hm,hmr⟩:=Alj (f:=vB g w) (C:=(b:Int)*M) (s:=s) (b:=0) (λj hj=>by
   have hrow:=hg.at_ hs;have hj0:=(hrow.1.2 j hj).1;obtain⟨a,ha⟩:=aAF (ho.top b i hi j (hgd▸hj));rw[List.getElem?_take]at ha;split at ha
   ·obtain⟨x,hx,h0,h1⟩:=Aqe hg ho hl hw hM hmax n a (by omega) j.toNat (by grind)
    exact⟨x,hx,h0,Int.le_trans h1 (aAZ (by omega) hM0)⟩
   ·cases ha) ⟨Int.le_refl 0,hb0⟩
  refine⟨y+m,?_,by omega,by omega⟩
  rw[Aoa hg ho hl hi hs hy];unfold mB
  grind
theorem Uv.fits (hg:GrY g) (h1:1<=g.length/\g.length<=80) {w:List Int} {o:List Int×Int} (h:Uv g w o r) (h0:o.2=0) {done:List Int} (ho:Rs g o.1 done) (hl:o.1.length=g.length) {M:Int} (hw:w.length=g.length) (hM:∀ x∈w,0<=x/\x<=M) (hmax:(g.length:Int)*M<=2147483647) (hM':M<=2147483647):r.2=0:=by
 rcases h with⟨g1,_⟩|⟨_,⟨g2,_⟩|⟨_,⟨⟨i,hi,hn⟩,_⟩|⟨g3,_⟩⟩⟩
 ·exact absurd ⟨h1,hw,λx hx=>by grind⟩ g1
 ·omega
 ·obtain⟨p,hp⟩:=ho.full hl hi
  grind [Aqe]
 ·exact g3
set_option maxHeartbeats 40000000
theorem AfF.err {l:List Oc} {al:Int} {o:List Int×Int} (h:AfF p l al o r z) (hr:o.2=0->r.2=0):z.2=o.2:=by
 cases h<;>simp_all
section
variable {p:NL} (h:PF p) {al:Int} (hal:QA al/\16<=al/\al<=16777216)
 include h hal
theorem PF.AkV {i:Nat} (hf:p.Funcs[i]? =some f) (hs:f.Slots.length<=7):0<=(PG p f al).Size/\(PG p f al).Size<=134218024:=by
 have hop:=h.at hf;obtain⟨b1,b2,b3,b4,b5,b6⟩:=Aia (hop.lay hal).bas;have ha:=Xk hop.arg (k:=f.Code.length) (aAO _);have:=AbC ⟨hop.sl,λx hx=>(hop.so x hx).al⟩ (a:=16*PY p f f.Code.length) (by omega) (k:=f.Slots.length) (aAO _)
 omega
end
theorem Ajd.fits (h:PF p) (hn:p.Funcs.length<=4) (hs:∀ f∈p.Funcs,f.Slots.length<=7) {al:Int} {o:List Int×Int} (B:Ajd p al o r) (h0:o.2=0):r.2=0:=by
 have hfew:=h.few;have hgl:(cgR p).length=p.Funcs.length:=by simp[cgR]
 obtain⟨hl,done,ho⟩:o.1.length=(cgR p).length/\∃ done,Rs (cgR p) o.1 done:=by
  rcases B.ho with e|⟨_,h2⟩
  all_goals simp_all
 refine Uv.fits h.gr (by omega) B.out h0 ho hl (M:=134218024) (by simp[hgl]) (λx hx=>?_) (by omega) (by omega)
 obtain⟨f,hf,rfl⟩:=aAY.1 hx;obtain⟨i,hi⟩:=aAF hf;exact h.AkV B.hal hi (hs f hf)
theorem Uv.Aww {w:List Int} {o:List Int×Int} (hO:Uv g w o r) (ho:o.2=0) (hr0:r.2=0):∀ i,i<g.length->∃ x,vB g w i=some x/\r.1[i]? =some x:=by
 rcases hO with⟨_,rfl⟩|⟨_,⟨h2,rfl⟩|⟨_,⟨_,rfl⟩|⟨_,_,h5⟩⟩⟩
 all_goals omega
open Go Go.Dw Go.Proofs
theorem Aqt (hlen:f.Code.length<=10000) (hsl:f.Slots.length<=500) (hml:Yl f) {Q:Nat->Int->Prop} (hg:Rj f.Slots.length g Q) (hsym:∀ (x y:Nat) r s,g[x]? =some r->g[y]? =some s->(y:Int)∈r->(x:Int)∈s) (hirr:∀ (x:Nat) r,g[x]? =some r->(x:Int)∉r):Hs (VH f g) λto=>Aav f g to:=by
 unfold VH;refine Hs.loop (λs=>∃ k:Nat,s.2=(k:Int)/\k<=f.Slots.length/\s.1.length=k/\∀ j:Nat,j<k->s.1[j]? =some (j:Int)) (λs=>f.Slots.length-s.2.toNat) ⟨0,rfl,aAE _,rfl,λj hj=>absurd hj (aAX _)⟩ ?_
 rintro⟨to,_⟩ ⟨k,rfl,hk,htl,hto⟩;replace htl:to.length=k:=htl;replace hto:∀ j:Nat,j<k->to[j]? =some (j:Int):=hto;refine .dec (λhlt=>?_) λhge=>.lft ?_
 ·have hlt:k<f.Slots.length:=by omega
  refine .chk (by simp;omega) ?_
  rw[NQ (by omega)]
  refine .cnt ⟨⟨k+1,rfl,hlt,by simp[htl],λj hj=>?_⟩,by grind⟩
  grind
 have hkk:k=f.Slots.length:=by omega
 subst hkk;have hid:∀ j:Nat,j<f.Slots.length->Oq to j=(j:Int):=by
  grind [Oq]
 have hc0:Aav f g to:=by
  refine⟨⟨htl,λs hs=>?_⟩,λx y row hx hy he hr hyr=>?_⟩
  all_goals grind
 clear hto hid;refine(Avp hlen).bind λmv hmv=>?_
 obtain⟨hmvl,hmv⟩:=hmv;refine Hs.loop (λs=>∃ i:Nat,s.2=(i:Int)/\i<=mv.length/\Aav f g s.1) (λs=>mv.length-s.2.toNat) ⟨0,rfl,aAE _,hc0⟩ ?_
 clear hc0 htl hge;rintro⟨to,_⟩ ⟨i,rfl,hi,hc⟩;replace hc:Aav f g to:=hc;have htl:=hc.ok.1;unfold Aaf;refine .dec (λhlt=>?_) λ_=>.lft (.pure hc)
 have hlt:i<mv.length:=by omega
 have hgp:mv[i]? =some mv[i]:=aAA _;have hpm:=aAL hlt;generalize mv[i]=p at hgp hpm;obtain⟨x,hx,hop,rfl⟩:=hmv p hpm;obtain⟨a0,a1,b0,b1,hsz⟩:=hml x hx hop;have hA:=So (to:=to) (s:=x.A) a0 (by omega)
 have hB:=So (to:=to) (s:=x.B) b0 (by omega)
 simp only[aAH,hgp,aA,hA,hB];have skip:Hs (Rz (i:Int) to) (Rnd (λs:List Int×Int=>∃ i:Nat,s.2=(i:Int)/\i<=mv.length/\Aav f g s.1) (λs=>mv.length-s.2.toNat) (to,(i:Int)) λto=>Aav f g to):=by
  unfold Rz;rw[NQ (by omega)]
  exact .cnt ⟨⟨i+1,rfl,hlt,hc⟩,by grind⟩
 refine .chk (by omega) (.chk (by omega) (.chk (by omega) (.chk (by omega) (.beq (λ_=>skip) λhne=>?_))))
 refine(AsZ hg htl hsl (Oq to x.A) (Oq to x.B)).bind λr hr=>.cond (λ_=>skip) λhrt=>?_
 have hap:=hr (by simp_all)
 have nat:∀ {s:Int},0<=s->s<to.length->0<=Oq to s/\Oq to s<to.length/\Qj f (Oq to s)=Qj f s/\Oq to (Oq to s)=Oq to s:=by
  intro s h0 h1;obtain⟨j,rfl⟩:∃ j:Nat,s=(j:Int):=⟨s.toNat,by omega⟩
  exact hc.ok.2 j (by omega)
 obtain⟨qa1,qa2,qa3,qa4⟩:=nat a0 (by omega)
 obtain⟨qb1,qb2,qb3,qb4⟩:=nat b0 (by omega)
 generalize Oq to x.A=a at *;generalize Oq to x.B=b at *;unfold Xs;refine Hs.loop (λs=>∃ k:Nat,s.2=(k:Int)/\k<=to.length/\s.1.length=to.length/\∀ j:Nat,j<to.length->Oq s.1 j=if j<k then Si a b (Oq to j)else Oq to j) (λs=>to.length-s.2.toNat) ⟨0,rfl,aAE _,rfl,λj _=>(by simp)⟩ ?_
 rintro⟨t2,_⟩ ⟨k,rfl,hk,h2l,h2⟩;replace h2l:t2.length=to.length:=h2l;replace h2:∀ j:Nat,j<to.length->Oq t2 j=if j<k then Si a b (Oq to j)else Oq to j:=h2
 unfold Aag;refine .dec (λhlt2=>?_) λhge2=>.lft ?_
 ·have hlt2:k<to.length:=by simp_all
  have hgk:=So (to:=t2) (s:=(k:Int)) (by omega) (by omega)
  rw[h2 k hlt2,if_neg (Nat.lt_irrefl _)]at hgk;refine .chk (by omega) ?_
  rw[hgk,aA];have fin:∀ q:Bool,(q=true↔Oq to k=a\/Oq to k=b)->Hs (Tv (k:Int) t2 a b q) (Rnd (λs:List Int×Int=>∃ k:Nat,s.2=(k:Int)/\k<=to.length/\s.1.length=to.length/\∀ j:Nat,j<to.length->Oq s.1 j=if j<k then Si a b (Oq to j)else Oq to j) (λs=>to.length-s.2.toNat) (t2,(k:Int)) (Rnd (λs:List Int×Int=>∃ i:Nat,s.2=(i:Int)/\i<=mv.length/\Aav f g s.1) (λs=>mv.length-s.2.toNat) (to,(i:Int)) λto=>Aav f g to)):=by
   intro q hq;unfold Tv;rw[NQ (by omega)]
   refine .cond (λh=>.chk (by omega) ?_) λh=>.cnt ⟨⟨k+1,rfl,hlt2,h2l,λj hj=>?_⟩,by grind⟩
   ·rw[hgk,aA];refine .cnt ⟨⟨k+1,rfl,hlt2,by simp[h2l],λj hj=>?_⟩,by grind⟩
    by_cases e:j=k
    ·simp_all[Oq,Si]
    ·have:=h2 j hj;simp only[Oq,aAH]at this ⊢
     grind
   ·show Oq t2 j=_;rw[h2 j hj]
    by_cases e:j=k
    ·simp_all[Si]
    omega
  refine .beq (λh=>fin true ⟨λ_=>.inl h,λ_=>rfl⟩) λh=>.chk (by omega) ?_
  exact fin _ ⟨λh'=>.inr (by simp_all),λh'=>by simp_all⟩
 ·have hkk:k=to.length:=by grind
  subst hkk;unfold Rz;rw[NQ (by omega)]
  refine .cnt ⟨⟨i+1,rfl,hlt,?_⟩,by simp only;omega⟩
  refine hc.join hg hsym (a:=a) (b:=b) ⟨qa1,by omega⟩ ⟨qb1,by omega⟩ qa4 qb4 (by rw[qa3,qb3,hsz]) hap h2l λj hj=>?_
  simp_all
def AeI (f:NI) (l:List (List Int)) (k:Nat):Prop:=((NO f k).Op=16\/(NO f k).Op=17)/\(NO f k).A∉Ou l k
theorem AuN (hf:OL f) {l:Ox} (hl:Sd f l.Out) (hk:k<f.Code.length):Hs (AaY f l (k:Int)) λb=>b=true↔AeI f l.Out k:=by
 have hx:=hf.at (j:=(k:Int)) (by omega) (by omega)
 have hrow:=hl.at (j:=(k:Int)) (by omega) (by omega)
 rw[aAH]at hx hrow;have hlo:=hrow.2.1.length_le;unfold AaY;simp only[PE,hx.1,aA,AdN,AcZ]
 by_cases hd:(NO f k).Op=16\/(NO f k).Op=17
 ·rw[if_pos hd];simp only[cond_true,hrow.1,aA];rw[AaN _ _ (by omega),aA]
  exact .pure ⟨λh=>⟨hd,by simp_all⟩,λh=>by simpa using h.2⟩
 ·rw[if_neg hd];exact .pure ⟨λh=>(by cases h),λh=>(hd h.1).elim⟩
theorem AuV (hf:OL f) {l:Ox} (hl:Sd f l.Out) {to:List Int} (hml:Yl f) (htl:to.length=f.Slots.length):Hs (AaX f l to) λkeep=>keep.length=f.Code.length/\∀ k:Nat,k<f.Code.length->(OO keep k=true↔¬ AeI f l.Out k/\¬ ((NO f k).Op=17/\Oq to (NO f k).A=Oq to (NO f k).B)):=by
 have hlen:=hf.len';refine Hs.loop (λs=>∃ k:Nat,s.2=(k:Int)/\k<=f.Code.length/\s.1.length=k/\∀ j:Nat,j<k->(OO s.1 j=true↔¬ AeI f l.Out j/\¬ ((NO f j).Op=17/\Oq to (NO f j).A=Oq to (NO f j).B))) (λs=>f.Code.length-s.2.toNat) ⟨0,rfl,aAE _,rfl,λj hj=>absurd hj (aAX _)⟩ ?_
 rintro⟨keep,_⟩ ⟨k,rfl,hk,hkl,hkp⟩;replace hkl:keep.length=k:=hkl;refine .dec (λhlt=>?_) λhge=>.lft (.pure ?_)
 ·have hlt:k<f.Code.length:=by omega
  have hx:=hf.at (j:=(k:Int)) (by omega) (by omega)
  rw[aAH]at hx;simp only[PE,hx.1,aA];rw[NQ (by omega)]
  have fin:∀ q:Bool,(q=true↔¬ AeI f l.Out k/\¬ ((NO f k).Op=17/\Oq to (NO f k).A=Oq to (NO f k).B))->Hs (chk (keep.length+([q]:List Bool).length<=16777216) (cnt (keep++([q]:List Bool),((k+1:Nat):Int)):Option ((List Bool×Int)⊕List Bool))) (Rnd (λs:List Bool×Int=>∃ k:Nat,s.2=(k:Int)/\k<=f.Code.length/\s.1.length=k/\∀ j:Nat,j<k->(OO s.1 j=true↔¬ AeI f l.Out j/\¬ ((NO f j).Op=17/\Oq to (NO f j).A=Oq to (NO f j).B))) (λs=>f.Code.length-s.2.toNat) (keep,(k:Int)) λkeep=>keep.length=f.Code.length/\∀ k:Nat,k<f.Code.length->(OO keep k=true↔¬ AeI f l.Out k/\¬ ((NO f k).Op=17/\Oq to (NO f k).A=Oq to (NO f k).B))):=by
   intro q hq;refine .chk (by simp;omega) (.cnt ⟨⟨k+1,rfl,hlt,by simp[hkl],λj hj=>?_⟩,by grind⟩)
   grind [OO,List.getElem?_concat_length]
  refine(AuN hf hl hlt).bind λr hr=>.cond (λh=>?_) λh=>fin false ⟨λh=>(by cases h),λh'=>(h'.1 (hr.1 (by simp_all))).elim⟩
  have hnd:¬ AeI f l.Out k:=λh'=>by simp_all
  refine .beq (λh17=>?_) λh17=>fin true ⟨λ_=>⟨hnd,λh=>h17 h.1⟩,λ_=>rfl⟩
  obtain⟨a0,a1,b0,b1,_⟩:=hml _ hx.2 h17
  grind [Py,So]
 ·have hkk:k=f.Code.length:=by omega
  subst hkk;exact⟨hkl,hkp⟩
def YI (n:Nat) (f:NI):Prop:=∀ x∈f.Code,x.Op=22->0<=x.A/\x.A<n
theorem Sc.calls {ps:List Int} {most:Int} (h:Sc ps i most f) (hi:0<=i):YI ps.length f:=by
 intro x hx hop;obtain⟨k,hk⟩:=aAF hx;have hkl:=(aAG.1 hk).1
 by_cases hk1:k+1<f.Code.length
 ·have hins:=h.body k x hk hk1;cases hins<;>grind
 ·have he:=h.last x (by grind)
  rcases he with rfl|⟨w,_,rfl⟩<;>simp at hop
theorem AqS {n:Nat} (h:YI n f) {keep:List Bool} {to pl:List Int} (hk:f.Code.length<=keep.length):∀ x∈UM f keep to pl f.Code.length,x.Op=22->0<=x.A/\x.A<n:=by
 intro x hx hop;obtain⟨p,hp⟩:=aAF hx;obtain⟨j,h1,_,_,rfl⟩:=(Vp (f:=f) (keep:=keep) (to:=to) (pl:=pl) _ hk).2 p x hp;have hm:NO f (j:Nat)∈f.Code:=by
  grind [NO]
 have ho:(mvI pl (rnI to (NO f (j:Nat)))).Op=(NO f (j:Nat)).Op:=by
  refine Eq.trans ?_ (AcR to _)
  grind [mvI]
 rw[ho]at hop;have e:mvI pl (rnI to (NO f (j:Nat)))=NO f (j:Nat):=by grind [mvI,rnI]
 rw[e];exact h _ hm hop
theorem Apm (hf:OL f) (hd:QZ f) (hlast:TO f) {n:Nat} (hc:YI n f) {r:Oi} (hr:Tf f r):Hs (QJ f r) λq=>q.2=0/\OL q.1/\QZ q.1/\YI n q.1:=by
 obtain⟨q,e,h1,h2,h3⟩:=AkT hf hd hlast hr;obtain⟨q',e',_,used,to,pl,_,_,_,_,_,_,_,_,cd⟩:=Akh hf hd hr;rw[e]at e';cases e';refine⟨q,e,h1,h2,h3,?_⟩;unfold YI;rw[cd];exact AqS hc (by rw[hr.2.1];omega)
theorem Aqu (hf:OL f) (hd:QZ f) (hml:Yl f) {l:Ox} (hacc:Acc f l.Out):Hs (Aci f l) λg=>Hs (VH f g.1) λto=>Hs (AaX f l to) λkeep=>Tf f ⟨to,keep⟩:=by
 have hlen:=hf.len';have hsl:=hf.slots;refine Hs.mono (P:=Zv Ajl f l.Out) ?_ λg hg=>?_
 ·exact(Anr hf hd (hacc.1.len hf) false).bind λr hr=>.pure hr
 rcases hg with⟨_,_,hg⟩|⟨_,hn,_⟩
 rotate_left
 ·simp_all
 refine(Aqt hlen hsl hml hg (λx y r s hr hs hy=>((hg.2 y s hs).2 _).2 (((hg.2 x r hr).2 _).1 hy).symm) λx r hr hx=>?_).mono λto hto=>?_
 ·rcases((hg.2 x r hr).2 _).1 hx with⟨_,_,_,_,_,_,h',_⟩|⟨_,_,_,_,_,_,h',_⟩<;>exact h' rfl
 refine(AuV hf hacc.1 hml hto.ok.1).mono λkeep ⟨hkl,hkp⟩=>⟨hto.ok,hkl,λk hk h=>?_⟩
 by_cases h1:AeI f l.Out k
 ·exact h1.1
 grind
theorem AdC (hi:ixO p.Funcs i=some f) (hf:OL f) (hd:QZ f) (hml:Yl f) (hlast:TO f) (hc:YI p.Funcs.length f) (hp:p.Funcs.length<=1000):Hs (SZ p i) λq=>Tf f q.Rename/\Acc f q.Live.Out/\QB q.LiveAfter.Out:=by
 obtain⟨i0,i1,_⟩:=Xn hi;unfold SZ;rw[hi,aA];refine(AkO hf).bind λl hl=>?_
 have hacc:=hl.acc hf;refine(Aqu hf hd hml hacc).bind λg hg=>hg.bind λto hto=>hto.bind λkeep hr=>?_
 refine(Apm hf hd hlast hc hr).bind λq ⟨_,qf,qd,qc⟩=>?_
 refine(AkO qf).bind λl2 hl2=>?_
 have hacc2:=hl2.acc qf;refine Hs.bind (P:=Zv Aks q.1 l2.Out) ?_ λs hs=>?_
 ·exact(Anr qf qd (hacc2.1.len qf) true).bind λr hr=>.pure hr
 have hrows:∀ row∈s.1,row.length<=512:=by
  rcases hs with⟨_,_,hs⟩|⟨_,hn,_⟩
  ·intro row hrow;obtain⟨k,hk⟩:=aAF hrow;exact(hs.2 k row hk).1.1.length_le
  simp_all
 refine(ApP hi hf.len' hc).bind λa _=>(Arq _ qf.slots hrows a).bind λo _=>.bne (λ_=>.pure ⟨hr,hacc,hacc2.1.len qf⟩) λ_=>?_
 have hset:ixO (p.Funcs.set i.toNat q.1) i=some q.1:=by
  grind [Py]
 refine Hs.bind (P:=λr=>r=⟨p.Funcs.set i.toNat q.1⟩) ?_ λr hr'=>?_
 ·refine Hs.bind (P:=λr=>r=⟨p.Funcs.set i.toNat q.1⟩) (.chk (by simp;omega) (.chk (by simp;omega) ((Hs.get (P:=λ_=>True) i0 (by simp;omega) λ_ _=>trivial).bind λ_ _=>.pure (by simp)))) λr h=>.pure h
 subst hr';exact(Ase p hp).bind λal _=>(ArR hset qf.len' qf.slots (by grind [YI]) al _).bind λy _=>.pure ⟨hr,hacc,hacc2.1.len qf⟩
theorem AfY (h:okC c):Hs (RG c) λp=>okC p.2/\I64 p.1:=by
 refine(Oo h (by omega) (by omega)).bind λr hr=>.beq (λ_=>?_) λ_=>?_
 ·refine(Oo hr.1 (by simp) (by simp)).bind λq hq=>.chk ?_ ?_
  ·omega
  ·refine(Hs.get hq.2.1 (by omega) λx hx=>aAB hx).bind λx hx=>.pure ⟨hq.1,?_⟩
   simp at hx
   grind [I64]
 ·exact(Oo hr.1 (by omega) (by omega)).bind λq hq=>(Oo hq.1 (by omega) (by omega)).bind λu hu=>.chk hu.2.1 (.pure ⟨hu.1,AuT _⟩)
theorem ApV (h:okC c) (hf:OL f):Hs (VN c f) λp=>okC p.2/\p.1.Out.length<=f.Code.length/\Acv p.1.Out:=by
 have hlen:=hf.len;have hlen':=hf.len';have hsl:=hf.slots;refine(AkO hf).bind λl hl=>(Oo h (by omega) (by omega)).bind λr hr=>.beq (λ_=>?_) λ_=>?_
 ·exact .pure ⟨hr.1,by have:=hl.ok.1;simp_all,Ym.rows λs hs=>(hl.ok.2 s hs).1⟩
 ·refine .chk (by have:=hl.ok.1;simp;omega) ((Oo hr.1 (by omega) (by omega)).bind λq hq=>?_)
  have j1:∀ {l:List Int} {a:Int} {x:List (List Int)},okC ⟨l,a⟩->x.length=f.Code.length->Ym x->Hs (TT l a x) λp=>okC p.2/\p.1.Out.length<=f.Code.length/\Acv p.1.Out:=by
   intro l a x hc hx hs;refine(Oo hc (by omega) (by omega)).bind λr hr=>.beq (λ_=>?_) λ_=>.beq (λ_=>?_) λ_=>?_
   ·refine .chk (by omega) (.pure ⟨hr.1,by simp;omega,λs hm=>hs.rows s (List.mem_of_mem_drop hm)⟩)
   ·refine(AfY hr.1).bind λu hu=>(AfY hu.1).bind λv hv=>.chk (by omega) ((Hs.get (by omega) (by omega) λx hx=>hx).bind λ_ _=>.pure ⟨hv.1,by simp;omega,λs hm=>?_⟩)
    rcases aAc hm with h1|rfl
    ·exact hs.rows s h1
    simp_all
   ·exact .pure ⟨hr.1,by simp_all,hs.rows⟩
  refine Hs.loop (λs=>okC ⟨s.1,s.2.1⟩/\s.2.2.1.length=f.Code.length/\Ym s.2.2.1/\0<=s.2.2.2/\s.2.2.2<4) (λs=>s.2.2.2.toNat) ⟨hq.1,by simpa using hl.ok.1,λs hs=>(hl.ok.2 s (by simp_all)).1,hq.2⟩ ?_
  rintro⟨l,a,x,n⟩ ⟨hc,hx,hs,hn0,hn1⟩;simp only at hc hx hs hn0 hn1;have w:IntKind.i64.wrap (n-1)=n-1:=wrap64 (by omega) (by omega)
  refine .dec (λhlt=>.dec (λhsl0=>?_) λ_=>.lft (j1 hc hx hs)) λ_=>.lft (j1 hc hx hs)
  have hlt:0<n:=hlt;have j4:∀ {l:List Int} {a:Int} {y:List (List Int)},okC ⟨l,a⟩->y.length=f.Code.length->Ym y->Hs (Su n l a y) (Rnd (λs:List Int×Int×List (List Int)×Int=>okC ⟨s.1,s.2.1⟩/\s.2.2.1.length=f.Code.length/\Ym s.2.2.1/\0<=s.2.2.2/\s.2.2.2<4) (λs=>s.2.2.2.toNat) (‹List Int›,‹Int›,x,n) (λp:Ox×Lo=>okC p.2/\p.1.Out.length<=f.Code.length/\Acv p.1.Out)):=by
   intro l a y hc hy hs;exact .cnt ⟨⟨hc,hy,hs,by grind,by grind⟩,by grind⟩
  refine(Oo hc (by omega) (by omega)).bind λu hu=>(Oo hu.1 (by omega) (by omega)).bind λv hv=>.beq (λ_=>?_) λ_=>?_
  ·refine Hs.loop (λs=>s.1.length=f.Code.length/\Ym s.1/\0<=s.2/\s.2<=f.Code.length) (λs=>f.Code.length-s.2.toNat) ⟨hx,hs,by simp,by simp⟩ ?_
   rintro⟨y,k⟩ ⟨hy,hys,hk0,hk1⟩;refine .dec (λhk=>?_) λ_=>.lft (j4 hv.1 hy hys)
   have wk:IntKind.i64.wrap (k+1)=k+1:=wrap64 (by omega) (by omega)
   refine .chk ⟨hk0,hk⟩ ((Hs.get hk0 hk λz hz=>hys z (aAB hz)).bind λz hz=>?_)
   rw[add_eq z u.1 (by have:=hz.length_le;omega),aA]
   refine .chk ⟨hk0,hk⟩ ((Hs.get hk0 hk λz hz=>hz).bind λ_ _=>.cnt ⟨⟨by simp_all,hys.set (hz.add _),by grind,by grind⟩,by grind⟩)
  ·refine(Oo hv.1 (n:=(x.length:Int)) (by omega) (by omega)).bind λk hk=>(Oo hk.1 (by omega) (by omega)).bind λt ht=>.beq (λ_=>?_) λ_=>?_
   ·refine .chk hk.2 ((Hs.get hk.2.1 hk.2.2 λz hz=>hs z (aAB hz)).bind λz hz=>?_)
    rw[add_eq z u.1 (by have:=hz.length_le;omega),aA]
    exact .chk hk.2 ((Hs.get hk.2.1 hk.2.2 λz hz=>hz).bind λ_ _=>j4 ht.1 (by simp_all) (hs.set (hz.add _)))
   ·refine .chk hk.2 ((Hs.get hk.2.1 hk.2.2 λz hz=>hs z (aAB hz)).bind λz hz=>?_)
    rw[Anp z u.1 (by have:=hz.length_le;omega),aA]
    exact .chk hk.2 ((Hs.get hk.2.1 hk.2.2 λz hz=>hz).bind λ_ _=>j4 ht.1 (by simp_all) (hs.set (hz.filter _)))
theorem Arj (h:okC c) (hi:ixO p.Funcs i=some f) (hf:OL f) (hd:QZ f) (hml:Yl f) (hlast:TO f) (hc:YI p.Funcs.length f) (hp:p.Funcs.length<=1000) :
  Hs (UB c p i) λq=>okC q.2/\q.1.To.length=f.Slots.length/\q.1.Keep.length=f.Code.length:=by
 have hlen:=hf.len';have hlen1:=hf.len;have hsl:=hf.slots;unfold UB;rw[hi,aA];refine(AdC hi hf hd hml hlast hc hp).bind λq hq=>?_
 obtain⟨⟨hto,hkl,_⟩,_⟩:=hq;have htl:=hto.1;refine .chk (by simp;omega) (.chk (by simp;omega) ?_)
 have j1:∀ {l:List Int} {a:Int} {x:List Int} {y:List Bool},okC ⟨l,a⟩->x.length=f.Slots.length->y.length=f.Code.length->Hs (SD f l a x y) λq=>okC q.2/\q.1.To.length=f.Slots.length/\q.1.Keep.length=f.Code.length:=by
  intro l a x y hc hx hy;refine(Oo hc (by omega) (by omega)).bind λr hr=>?_
  refine Hs.loop (λs=>okC ⟨s.1,s.2.1⟩/\s.2.2.1.length=f.Slots.length/\s.2.2.2.1.length=f.Code.length/\0<=s.2.2.2.2/\s.2.2.2.2<4) (λs=>s.2.2.2.2.toNat) ⟨hr.1,hx,hy,hr.2.1,hr.2.2⟩ ?_
  rintro⟨l,a,x,y,n⟩ ⟨hc,hx,hy,hn0,hn1⟩;replace hx:x.length=f.Slots.length:=hx;replace hy:y.length=f.Code.length:=hy;replace hn0:0<=n:=hn0;replace hn1:n<4:=hn1;have w:IntKind.i64.wrap (n-1)=n-1:=wrap64 (by omega) (by omega)
  dsimp only;refine .dec (λhp=>?_) λ_=>.lft (.pure ⟨hc,hx,hy⟩)
  have j5:∀ {l:List Int} {a:Int} {x:List Int} {y:List Bool},okC ⟨l,a⟩->x.length=f.Slots.length->y.length=f.Code.length->Hs (PH n l a x y) (Rnd (λs:List Int×Int×List Int×List Bool×Int=>okC ⟨s.1,s.2.1⟩/\s.2.2.1.length=f.Slots.length/\s.2.2.2.1.length=f.Code.length/\0<=s.2.2.2.2/\s.2.2.2.2<4) (λs=>s.2.2.2.2.toNat) (‹List Int›,‹Int›,x,y,n) (λq:Oi×Lo=>okC q.2/\q.1.To.length=f.Slots.length/\q.1.Keep.length=f.Code.length)):=by
   intro l a x y hc hx hy;unfold PH;exact .cnt ⟨⟨hc,hx,hy,by grind,by grind⟩,by grind⟩
  refine(Oo hc (by omega) (by omega)).bind λr hr=>(Oo hr.1 (by omega) (by omega)).bind λu hu=>?_
  have j7:∀ {l:List Int} {a:Int} (b:Bool),okC ⟨l,a⟩->Hs (RI r y n x l a b) (Rnd (λs:List Int×Int×List Int×List Bool×Int=>okC ⟨s.1,s.2.1⟩/\s.2.2.1.length=f.Slots.length/\s.2.2.2.1.length=f.Code.length/\0<=s.2.2.2.2/\s.2.2.2.2<4) (λs=>s.2.2.2.2.toNat) (‹List Int›,‹Int›,x,y,n) (λq:Oi×Lo=>okC q.2/\q.1.To.length=f.Slots.length/\q.1.Keep.length=f.Code.length)):=by
   intro l a b hc;refine .cond (λ_=>.chk (by omega) ((Hs.get (P:=λ_=>True) (by omega) (by omega) λ_ _=>trivial).bind λv _=>.chk (by omega) ((Hs.get (P:=λ_=>True) (by omega) (by omega) λ_ _=>trivial).bind λ_ _=>j5 hc hx (by simp_all)))) λ_=>j5 hc hx hy
  have j9:∀ {l:List Int} {a:Int} (b:Bool),okC ⟨l,a⟩->0<f.Slots.length\/b=false->Hs (SF f x n y l a b) (Rnd (λs:List Int×Int×List Int×List Bool×Int=>okC ⟨s.1,s.2.1⟩/\s.2.2.1.length=f.Slots.length/\s.2.2.2.1.length=f.Code.length/\0<=s.2.2.2.2/\s.2.2.2.2<4) (λs=>s.2.2.2.2.toNat) (‹List Int›,‹Int›,x,y,n) (λq:Oi×Lo=>okC q.2/\q.1.To.length=f.Slots.length/\q.1.Keep.length=f.Code.length)):=by
   intro l a b hc hb;refine .cond (λe=>?_) λ_=>j5 hc hx hy
   have h0:0<f.Slots.length:=by
    simp_all
   exact(Oo hc (n:=(f.Slots.length:Int)) (by omega) (by omega)).bind λs hs=>(AfY hs.1).bind λt ht=>.chk (by omega) ((Hs.get (P:=λ_=>True) (by omega) (by omega) λ_ _=>trivial).bind λ_ _=>j5 ht.1 (by simp_all) hy)
  have j6:∀ b:Bool,Hs (SE f r y n x u b) (Rnd (λs:List Int×Int×List Int×List Bool×Int=>okC ⟨s.1,s.2.1⟩/\s.2.2.1.length=f.Slots.length/\s.2.2.2.1.length=f.Code.length/\0<=s.2.2.2.2/\s.2.2.2.2<4) (λs=>s.2.2.2.2.toNat) (‹List Int›,‹Int›,x,y,n) (λq:Oi×Lo=>okC q.2/\q.1.To.length=f.Slots.length/\q.1.Keep.length=f.Code.length)):=by
   intro b;refine .cond (λ_=>?_) λ_=>.beq (λ_=>.dec (λh0=>?_) λ_=>j5 hu.1 hx hy) λ_=>.beq (λ_=>.dec (λh0=>?_) λ_=>j9 false hu.1 (.inr rfl)) λ_=>j5 hu.1 hx hy
   ·refine(Hs.ix (P:=λ_=>True) hr.2.1 hr.2.2 λ_ _=>trivial).bind λz _=>.cond (λ_=>j7 true hu.1) λ_=>.cond (λ_=>j7 true hu.1) λ_=>?_
    exact(Oo hu.1 (by omega) (by omega)).bind λv hv=>j7 _ hv.1
   ·refine(Oo hu.1 (n:=(f.Slots.length:Int)) (by omega) (by omega)).bind λs hs=>(ApU hs.1 hs.2.1 hs.2.2 (by omega)).bind λt ht=>?_
    obtain⟨t0,t1,_⟩:=ht.2;refine .chk (by omega) ((Hs.get (P:=λ_=>True) (by omega) (by omega) λ_ _=>trivial).bind λv _=>?_)
    refine Hs.loop (λq=>∃ k:Nat,q.2=(k:Int)/\k<=f.Slots.length/\q.1.length=f.Slots.length) (λq=>f.Slots.length-q.2.toNat) ⟨0,rfl,aAE _,hx⟩ ?_
    rintro⟨z,_⟩ ⟨k,rfl,hk,hz⟩;replace hz:z.length=f.Slots.length:=hz;dsimp only;refine .dec (λhlt=>?_) λ_=>.lft (j5 ht.1 hz hy)
    have hlt:k<f.Slots.length:=by omega
    rw[NQ (by omega)]
    exact .chk (by omega) ((Hs.get (P:=λ_=>True) (by omega) (by omega) λ_ _=>trivial).bind λ_ _=>.beq (λ_=>.chk (by omega) ((Hs.get (P:=λ_=>True) (by omega) (by omega) λ_ _=>trivial).bind λ_ _=>.cnt ⟨⟨k+1,rfl,hlt,by simp_all⟩,by grind⟩)) λ_=>.cnt ⟨⟨k+1,rfl,hlt,hz⟩,by grind⟩)
   ·have h0:0<f.Slots.length:=by omega
    exact(Oo hu.1 (by omega) (by omega)).bind λv hv=>j9 _ hv.1 (.inl h0)
  exact .cond (λ_=>j6 _) λ_=>j6 _
 refine(Oo h (by omega) (by omega)).bind λr hr=>.cond (λ_=>?_) λ_=>j1 hr.1 (by simp_all) (by simp_all)
 refine Hs.loop (λq=>∃ k:Nat,q.2=(k:Int)/\k<=f.Slots.length/\q.1.length=f.Slots.length) (λq=>f.Slots.length-q.2.toNat) ⟨0,rfl,aAE _,by simp_all⟩ ?_
 rintro⟨x,_⟩ ⟨k,rfl,hk,hx⟩;replace hx:x.length=f.Slots.length:=hx;dsimp only;refine .dec (λhlt=>?_) λ_=>.lft ?_
 ·have hlt:k<f.Slots.length:=by omega
  rw[NQ (by omega)]
  exact .chk (by omega) ((Hs.get (P:=λ_=>True) (by omega) (by omega) λ_ _=>trivial).bind λ_ _=>.cnt ⟨⟨k+1,rfl,hlt,by simp_all⟩,by grind⟩)
 ·refine Hs.loop (λq=>∃ k:Nat,q.2=(k:Int)/\k<=f.Code.length/\q.1.length=f.Code.length) (λq=>f.Code.length-q.2.toNat) ⟨0,rfl,aAE _,by simp_all⟩ ?_
  rintro⟨y,_⟩ ⟨k,rfl,hk,hy⟩;replace hy:y.length=f.Code.length:=hy;dsimp only;refine .dec (λhlt=>?_) λ_=>.lft (j1 hr.1 hx hy)
  have hlt:k<f.Code.length:=by omega
  rw[NQ (by omega)]
  exact .chk (by omega) ((Hs.get (P:=λ_=>True) (by omega) (by omega) λ_ _=>trivial).bind λ_ _=>.cnt ⟨⟨k+1,rfl,hlt,by simp_all⟩,by grind⟩)
theorem AqC (h:okC c) {al:Int} (hL:AeJ p i f al) (hlast:TO f) (hc:YI p.Funcs.length f) (hp:p.Funcs.length<=1000):Hs (UA c p i al) λq=>okC q.2:=by
 have hr:=Xk hL.arg (k:=f.Code.length) (aAO _);have hbl:(PG p f al).Off.length<=40:=by
  have:=(AbC hL.slots (a:=16*PY p f f.Code.length) (by omega) (k:=f.Slots.length) (aAO _)).1
  have:=hL.slots.1
  grind [PG]
 have j1:∀ {l:List Int} {a:Int} (y z:Int) {x:List Int},okC ⟨l,a⟩->x.length<=40->Hs (Rb l a y z x) λq=>okC q.2:=by
  intro l a y z x hc hx;unfold Rb;refine .chk (by simp;omega) ((Oo hc (by omega) (by omega)).bind λr hr=>?_)
  refine Hs.loop (λs=>okC ⟨s.1,s.2.1⟩/\(s.2.2.1.length:Int)+s.2.2.2.2.2<=60/\0<=s.2.2.2.2.2) (λs=>s.2.2.2.2.2.toNat) ⟨hr.1,by grind,hr.2.1⟩ ?_
  rintro⟨l,a,x,y,z,n⟩ ⟨hc,hx,hn0⟩;replace hx:(x.length:Int)+n<=60:=hx;replace hn0:0<=n:=hn0;have w:IntKind.i64.wrap (n-1)=n-1:=wrap64 (by omega) (by omega)
  unfold Xl;dsimp only;refine .dec (λhp=>?_) λ_=>.lft (.pure hc)
  have hp:0<n:=hp;have fin:∀ {l':List Int} {a':Int} (x':List Int) (y' z':Int),okC ⟨l',a'⟩->x'.length<=x.length+1->Hs (cnt (l',a',x',y',z',IntKind.i64.wrap (n-1)):Option ((List Int×Int×List Int×Int×Int×Int)⊕(NT×Lo))) (Rnd (λs=>okC ⟨s.1,s.2.1⟩/\(s.2.2.1.length:Int)+s.2.2.2.2.2<=60/\0<=s.2.2.2.2.2) (λs=>s.2.2.2.2.2.toNat) (l,a,x,y,z,n) λq=>okC q.2):=by
   intro l' a' x' y' z' hc' hx';exact .cnt ⟨⟨hc',by grind,by grind⟩,by grind⟩
  have hm:1<=Ph 1 (x.length:Int)/\Ph 1 (x.length:Int)<=70:=by grind [Ph]
  refine(Oo hc hm.1 (by omega)).bind λr hr=>(Oo hr.1 (by omega) (by omega)).bind λu hu=>?_
  have kx:∀ {b:Bool},(b=true->r.1<(x.length:Int))->(b=true->r.1.toNat<x.length):=λhb e=>by simp_all
  have j5:∀ {l':List Int} {a':Int} (b:Bool),okC ⟨l',a'⟩->(b=true->r.1<(x.length:Int))->Hs (SC r x y z n l' a' b) (Rnd (λs=>okC ⟨s.1,s.2.1⟩/\(s.2.2.1.length:Int)+s.2.2.2.2.2<=60/\0<=s.2.2.2.2.2) (λs=>s.2.2.2.2.2.toNat) (l,a,x,y,z,n) λq=>okC q.2):=by
   intro l' a' b hc' hb;refine .cond (λe=>(AfY hc').bind λv hv=>.chk (by simp_all) ((Hs.get (P:=λ_=>True) (by omega) (by simp_all) λ_ _=>trivial).bind λ_ _=>fin _ _ _ hv.1 (by simp))) λ_=>fin _ _ _ hc' (by omega)
  have j4:∀ b:Bool,Hs (SB r x u y z n b) (Rnd (λs=>okC ⟨s.1,s.2.1⟩/\(s.2.2.1.length:Int)+s.2.2.2.2.2<=60/\0<=s.2.2.2.2.2) (λs=>s.2.2.2.2.2.toNat) (l,a,x,y,z,n) λq=>okC q.2):=by
   intro b;refine .cond (λ_=>.dec (λhlt=>?_) λ_=>fin _ _ _ hu.1 (by omega)) λ_=>.beq (λ_=>(Oo hu.1 (by omega) (by omega)).bind λv hv=>fin _ _ _ hv.1 (by omega)) λ_=>.beq (λ_=>.dec (λhlt=>(Oo hu.1 (by omega) (by omega)).bind λv hv=>j5 _ hv.1 λ_=>hlt) λ_=>j5 false hu.1 λe=>by cases e) λ_=>.beq (λ_=>?_) λ_=>fin _ _ _ hu.1 (by omega)
   ·refine(Oo hu.1 (n:=(x.length:Int)) (by omega) (by omega)).bind λv hv=>.chk (by omega) ((Hs.get (P:=λ_=>True) (by omega) (by omega) λ_ _=>trivial).bind λq _=>.chk (by omega) ((Hs.get (P:=λ_=>True) (by omega) (by omega) λ_ _=>trivial).bind λ_ _=>fin _ _ _ hv.1 (by simp)))
   ·refine(Oo hu.1 (by omega) (by omega)).bind λv hv=>.beq (λ_=>(AfY hv.1).bind λw hw=>fin _ _ _ hw.1 (by omega)) λ_=>.beq (λ_=>(AfY hv.1).bind λw hw=>fin _ _ _ hw.1 (by omega)) λ_=>.beq (λ_=>(Oo hv.1 (by omega) (by omega)).bind λw hw=>.chk (by simp;omega) (fin _ _ _ hw.1 (by simp))) λ_=>fin _ _ _ hv.1 (by omega)
  have j3:∀ b:Bool,Hs (RH r x u y z n b) (Rnd (λs=>okC ⟨s.1,s.2.1⟩/\(s.2.2.1.length:Int)+s.2.2.2.2.2<=60/\0<=s.2.2.2.2.2) (λs=>s.2.2.2.2.2.toNat) (l,a,x,y,z,n) λq=>okC q.2):=by
   intro b;refine .cond (λ_=>.dec (λhlt=>(Oo hu.1 (by omega) (by omega)).bind λv hv=>.chk (by omega) ((Hs.get (P:=λ_=>True) (by omega) (by omega) λ_ _=>trivial).bind λ_ _=>fin _ _ _ hv.1 (by simp))) λ_=>fin _ _ _ hu.1 (by omega)) λ_=>.cond (λ_=>j4 _) λ_=>j4 _
  grind
 unfold UA;rw[Ahm hL.hi hL.SI.len' hL.arg hL.slots hL.alok hL.al64,aA];refine(Oo h (by omega) (by omega)).bind λr hr=>.cond (λ_=>?_) λ_=>j1 _ _ hr.1 hbl
 refine(AdC hL.hi hL.SI hL.defs hL.ml hlast hc hp).bind λq _=>.cond (λe=>j1 _ _ hr.1 ?_) λ_=>j1 _ _ hr.1 hbl
 grind
theorem PF.set (h:PF p) {q:NI} (hi:ixO p.Funcs i=some f) (hq:GW p.Funcs.length q) (hp:q.Params=f.Params):PF ⟨p.Funcs.set i.toNat q⟩/\ixO (⟨p.Funcs.set i.toNat q⟩:NL).Funcs i=some q:=by
 obtain⟨i0,i1,hif⟩:=Xn hi;refine⟨⟨λg hg=>?_,by simpa using h.few,λg hg=>?_⟩,by grind [Py]⟩
 ·rw[List.getElem?_set]at hg;split at hg
  ·rename_i e;rw[if_pos (by omega)]at hg
   cases hg;rw[hp];exact h.zero f (by simp_all)
  ·exact h.zero g hg
 ·rw[List.length_set];rcases aAc hg with hm|rfl
  ·exact h.all g hm
  ·exact hq
theorem Aro (hf:OL f) (hd:QZ f) (r:Oi):Hs (QJ f r) λq=>q.2=0->∃ used nm pl,Afk f q.1 r used nm pl:=by
 obtain⟨e,he,h1,h2⟩:=ZH hf r
 by_cases e0:e=0
 ·exact(AmT hf hd (h2.1 e0)).mono λq hq _=>hq.2
 ·unfold QJ;rw[he,aA];exact .bne (λ_=>.pure λe=>(e0 e).elim) λe=>(e0 e).elim
theorem ApA (h:okC c) (hy:PF p) (hi:ixO p.Funcs i=some f):Hs (Vx c p i) λq=>okC q.2/\QB q.1.Live.Out/\QB q.1.LiveAfter.Out:=by
 obtain⟨i0,i1,hif⟩:=Xn hi;have hg:=hy.all f (aAB hif);have hfew:=hy.few;have hf:=hg.SI;have hop:=hy.opt hi;obtain⟨al,_,ea,hal⟩:=hop.align;refine(AdC hi hf hg.defs hg.Agf hg.last hop.calls (by omega)).bind λq hq=>(Oo h (by omega) (by omega)).bind λr hr=>.beq (λ_=>.pure ⟨hr.1,hq.2.1.1.len hf,hq.2.2⟩) λ_=>(Oo hr.1 (by omega) (by omega)).bind λu hu=>?_
 have j4:∀ {g:NI},GW p.Funcs.length g->g.Params=f.Params->∀ {x y:List (List Int)} (a:List Int) (b:List Bool) {l:List Int} {k:Int},okC ⟨l,k⟩->QB x->QB y->Hs (Sg p i g.Params g.Slots g.Code x a b q l k y) λq=>okC q.2/\QB q.1.Live.Out/\QB q.1.LiveAfter.Out:=by
  intro g hgg hgp x y a b l k hc hx hy';obtain⟨hps,hpi⟩:=hy.set hi hgg hgp;have hop2:=hps.opt hpi;refine(Oo hc (by omega) (by omega)).bind λv hv=>.beq (λ_=>?_) λ_=>.pure ⟨hv.1,hx,hy'⟩
  rw[Aho p _ (by omega) i0 i1,aA,ea,aA]
  exact(AqC hv.1 (hop2.lay hal) hgg.last hop2.calls (by simp;omega)).bind λw hw=>.pure ⟨hw,hx,hy'⟩
 have j3:∀ {g:NI},GW p.Funcs.length g->g.Params=f.Params->∀ {x:List (List Int)} (a:List Int) (b:List Bool) {l:List Int} {k:Int},okC ⟨l,k⟩->QB x->Hs (Rm p i x a b q l k g.Params g.Slots g.Code) λq=>okC q.2/\QB q.1.Live.Out/\QB q.1.LiveAfter.Out:=by
  intro g hgg hgp x a b l k hc hx;exact(Oo hc (by omega) (by omega)).bind λv hv=>.beq (λ_=>(ApV hv.1 hgg.SI).bind λw hw=>j4 hgg hgp a b hw.1 hx (Acv.len hgg.SI hw.2.1 hw.2.2)) λ_=>j4 hgg hgp a b hv.1 hx hq.2.2
 have j2:∀ {x:List (List Int)} (a:List Int) (b:List Bool) {l:List Int} {k:Int},okC ⟨l,k⟩->QB x->Hs (Rl p i x q l k a b) λq=>okC q.2/\QB q.1.Live.Out/\QB q.1.LiveAfter.Out:=by
  intro x a b l k hc hx;unfold Rl;rw[hi,aA];refine(Aro hf hg.defs ⟨a,b⟩).bind λg hgq=>.beq (λe=>?_) λ_=>j3 hg rfl a b hc hx
  obtain⟨used,nm,pl,hrw⟩:=hgq e;exact(Oo hc (by omega) (by omega)).bind λv hv=>.beq (λ_=>j3 (hrw.gw hg) hrw.par a b hv.1 hx) λ_=>j3 hg rfl a b hv.1 hx
 have j1:∀ {x:List (List Int)} {l:List Int} {k:Int},okC ⟨l,k⟩->QB x->Hs (Sf p i q l k x) λq=>okC q.2/\QB q.1.Live.Out/\QB q.1.LiveAfter.Out:=by
  intro x l k hc hx;exact(Oo hc (by omega) (by omega)).bind λv hv=>.beq (λ_=>(Arj hv.1 hi hf hg.defs hg.Agf hg.last hop.calls (by omega)).bind λw hw=>j2 _ _ hw.1 hx) λ_=>j2 _ _ hv.1 hx
 refine .beq (λ_=>?_) λ_=>j1 hu.1 (hq.2.1.1.len hf)
 rw[hi,aA];exact(ApV hu.1 hf).bind λw hw=>j1 hw.1 (Acv.len hf hw.2.1 hw.2.2)
def Acb (l:List Oc):Prop:=∀ x∈l,QB x.Live.Out/\QB x.LiveAfter.Out
theorem AoJ (h:okC c) (hy:PF p):Hs (UE c p) λq=>okC q.2/\Acb q.1:=by
 have hfew:=hy.few;refine Hs.loop (λs=>okC ⟨s.1,s.2.1⟩/\∃ k:Nat,s.2.2.2=(k:Int)/\k<=p.Funcs.length/\s.2.2.1.length=k/\Acb s.2.2.1) (λs=>p.Funcs.length-s.2.2.2.toNat) ⟨h,0,rfl,aAE _,rfl,λx hx=>by cases hx⟩ ?_
 rintro⟨l,a,x,_⟩ ⟨hc,k,rfl,hk,hxl,hx⟩;replace hxl:x.length=k:=hxl;dsimp only;refine .dec (λhlt=>?_) λ_=>.lft ?_
 ·have hi:ixO p.Funcs (k:Int)=some (p.Funcs[k]'(by omega)):=by simp_all
  refine(ApA hc hy hi).bind λq hq=>.chk (by simp;omega) ?_
  rw[NQ (by omega)]
  refine .cnt ⟨⟨hq.1,k+1,rfl,by omega,by simp[hxl],λz hz=>?_⟩,by grind⟩
  rcases List.mem_append.1 hz with hz|hz
  ·exact hx z hz
  simp_all
 ·refine(Oo hc (by omega) (by omega)).bind λr hr=>.beq (λ_=>?_) λ_=>.pure ⟨hr.1,hx⟩
  rw[wrap64 (by omega) (by omega)]
  refine(Oo hr.1 (by omega) (by omega)).bind λu hu=>.chk (by omega) (.chk (by omega) (.pure ⟨hu.1,λz hz=>hx z (List.mem_of_mem_take hz)⟩))
end Go.Proofs.YtmmchhpdaogopaaGreatDoor
