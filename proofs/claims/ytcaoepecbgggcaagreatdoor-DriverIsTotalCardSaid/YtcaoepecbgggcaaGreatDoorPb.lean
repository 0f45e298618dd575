/-
  Plain laws about the typed programs.
-/
import Derived.Test.YtcaoepecbgggcaaGreatDoorPa
open BitVec renaming ofInt->aAO,toNat_and->aAb
open Bool renaming cond_eq_ite->aAD,not_true->aAP
open Classical renaming byContradiction->aAL,propDecidable->aAd
open Int renaming toNat_natCast->aAE,mul_le_mul_of_nonneg_right->aAZ,dvd_of_emod_eq_zero->aAc
open List renaming getElem?_eq_getElem->aAA,mem_of_getElem?->aAB,getElem?_eq_some_iff->aAF,getElem?_of_mem->aAG,range->aAH,getElem_mem->aAJ,mem_or_eq_of_mem_set->aAQ,take_length->aAR,take_succ_eq_append_getElem->aAS,mem_singleton->aAU,pairwise_iff_getElem->aAW,mem_map->aAX,mem_iff_getElem?->aAY,getElem?_map->aAa,mem_append->aAf,nil_append->aAg,getElem?_set_self->aAh,take_of_length_le->aAi
open Nat renaming zero_le->aAC,not_lt_zero->aAK,le_refl->aAM,pow_le_pow_right->aAN,and_sub_one_eq_zero_iff_isPowerOfTwo->aAV,two_pow_pos->aAe
open Option renaming bind_some->aA,bind_eq_some_iff->aAI,elim_some->aAT,map_eq_some_iff->aAj
namespace Go.Proofs.YtcaoepecbgggcaaGreatDoor
open Go Go.Dw Go.Proofs
variable {sl:List NA} {ps to:List Int} {x:Av} {f:Nm} {k:Nat} {r:NF} {l:List (List Int)}
def Tt (a:Int):Prop:=0<=a/\a<8
inductive UA (sl:List NA) (np nf:Int) (T:Int->Prop):Av->Prop
 | store (a b:Int):0<=a->a<sl.length->Tt b->UA sl np nf T ⟨16,a,b,0,0⟩
 | load (a b:Int):Tt a->0<=b->b<sl.length->UA sl np nf T ⟨15,a,b,0,0⟩
 | move (a b:Int):ApO sl a b->0<=b->b<sl.length->UA sl np nf T ⟨17,a,b,0,0⟩
 | const (a w:Int):Tt a->UA sl np nf T ⟨0,a,0,0,w⟩
 | bin (op a b c:Int):2<=op->op<12->Tt a->Tt b->Tt c->UA sl np nf T ⟨op,a,b,c,0⟩
 | one (op a:Int):(op=13\/op=14)->Tt a->UA sl np nf T ⟨op,a,0,0,0⟩
 | two (op a b:Int):(op=1\/op=12)->Tt a->Tt b->UA sl np nf T ⟨op,a,b,0,0⟩
 | param (a b:Int):Tt a->0<=b->b<np->UA sl np nf T ⟨19,a,b,0,0⟩
 | arg (a b:Int):0<=a->a<8->Tt b->UA sl np nf T ⟨18,a,b,0,0⟩
 | call (j:Int):0<=j->j<nf->UA sl np nf T ⟨22,j,0,0,0⟩
 | jump (t:Int):T t->UA sl np nf T ⟨20,t,0,0,0⟩
 | branch (a t:Int):Tt a->T t->UA sl np nf T ⟨21,a,t,0,0⟩
 | ret:UA sl np nf T ⟨23,0,0,0,0⟩
 | trap (w:Int):UA sl np nf T ⟨24,0,0,0,w⟩
theorem Reg.w {a:Int} (h:Reg a):Tt a:=⟨h.1,by have:=h.2;omega⟩
theorem PU.w {np i:Int} {T:Int->Prop} (h:PU sl np i ps T x) (hi: -1<=i):UA sl np ps.length T x:=by
 cases h with
 | store a b h1 h2 h3=>exact .store a b h1 h2 h3.w
 | load a b h1 h2 h3=>exact .load a b h1.w h2 h3
 | move a b h1 h2 h3=>exact .move a b h1 h2 h3
 | const a w h1 h2=>exact .const a w h1.w
 | bin op a b c h1 h2 h3 h4 h5 h6=>exact .bin op a b c h1 h2 h3.w h4.w ⟨h5,h6⟩
 | out a h1=>exact .one 14 a (.inr rfl) h1.w
 | un op a h1 h2 =>
  rcases h1 with rfl|rfl|rfl
  ·exact .one 13 a (.inl rfl) h2.w
  ·exact .two 12 a 0 (.inr rfl) h2.w ⟨by omega,by omega⟩
  ·exact .two 1 a 0 (.inl rfl) h2.w ⟨by omega,by omega⟩
 | param a b h1 h2 h3=>exact .param a b h1.w h2 h3
 | arg a b h1 h2 h3=>exact .arg a b h1 (by omega) h3.w
 | call j h1 h2=>exact .call j (by omega) h2
 | jump q h1=>exact .jump q h1
 | branch a q h1 h2=>exact .branch a q h1.w h2
theorem Aen.w {np nf:Int} {T:Int->Prop} (h:Aen x):UA sl np nf T x:=by
 rcases h with rfl|⟨w,_,rfl⟩
 ·exact .ret
 ·exact .trap w
theorem UA.rn {sl':List NA} {np nf:Int} {T T':Int->Prop} (h:UA sl np nf T x) {pl:List Int} (hs:∀ s∈Ox x,0<=rnS to s/\rnS to s<sl'.length) (hz:x.Op=17->ApO sl' (rnS to x.A) (rnS to x.B)) (ht:∀ t,T t->T' ((pl[t.toNat]?).getD 0)) :
  UA sl' np nf T' (mvI pl (rnI to x)):=by
 cases h with
 | store a b h1 h2 h3 =>
  have:=hs a (by simp[Ox])
  exact .store _ _ this.1 this.2 h3
 | load a b h1 h2 h3 =>
  have:=hs b (by simp[Ox,Pl])
  exact .load _ _ h1 this.1 this.2
 | move a b h1 h2 h3 =>
  have:=hs b (by simp[Ox,Pl])
  exact .move _ _ (hz rfl) this.1 this.2
 | const a w h1=>exact .const a w h1
 | bin op a b c h1 h2 h3 h4 h5 =>
  have:mvI pl (rnI to ⟨op,a,b,c,0⟩)=⟨op,a,b,c,0⟩:=by grind [mvI,rnI]
  rw[this];exact .bin op a b c h1 h2 h3 h4 h5
 | one op a h1 h2 =>
  have:mvI pl (rnI to ⟨op,a,0,0,0⟩)=⟨op,a,0,0,0⟩:=by grind [mvI,rnI]
  rw[this];exact .one op a h1 h2
 | two op a b h1 h2 h3 =>
  have:mvI pl (rnI to ⟨op,a,b,0,0⟩)=⟨op,a,b,0,0⟩:=by grind [mvI,rnI]
  rw[this];exact .two op a b h1 h2 h3
 | param a b h1 h2 h3=>exact .param a b h1 h2 h3
 | arg a b h1 h2 h3=>exact .arg a b h1 h2 h3
 | call j h1 h2=>exact .call j h1 h2
 | jump q h1=>exact .jump _ (ht _ h1)
 | branch a q h1 h2=>exact .branch a _ h1 (ht _ h2)
 | ret=>exact .ret
 | trap w=>exact .trap w
structure GW (nf:Int) (f:Nm):Prop where
 par:0<=f.Params/\f.Params<=8
 slots:f.Slots.length<=40
 slot:∀ s∈f.Slots,AaC s
 len:1<=f.Code.length
 len':f.Code.length<=1024
 body:∀ x∈f.Code,UA f.Slots f.Params nf (λt=>0<=t/\t<f.Code.length) x
 last:SQ f
structure PG (p:Nq):Prop where
 zero:∀ f,p.Funcs[0]? =some f->f.Params=0
 few:1<=p.Funcs.length/\p.Funcs.length<=80
 all:∀ f∈p.Funcs,GW p.Funcs.length f
theorem Sc.gw {i most:Int} (h:Sc ps i most f) (hi: -1<=i) (hm:most<=200) (hps:AkH ps):GW ps.length f:=by
 have hp:=hps.1 _ (aAB h.par);refine⟨⟨hp.1,by omega⟩,by have:=h.slots;omega,λs hs=>(h.slot s hs).wide,h.len,by have:=h.len';omega,λx hx=>?_,h.AyG⟩
 obtain⟨k,hx⟩:=aAG hx;have hk:=(aAF.1 hx).1
 by_cases e:k+1<f.Code.length
 ·exact(h.body k x hx e).w hi
 ·exact(h.last x (by grind)).w
theorem AeJ.y {funcs most:Int} {p:Nq} (h:AeJ funcs most p) (hm:most<=200) (hfn:funcs<=79):PG p:=by
 obtain⟨ps,hps,hz,hp1,hp2,hfl,hall⟩:=h;refine⟨λf hf=>?_,by omega,λf hf=>?_⟩
 ·have:=(hall 0 f hf).par;simp_all
 ·obtain⟨j,hj⟩:=aAG hf;have:=(hall j f hj).gw (by omega) hm hps
  simp_all
section
variable {nf:Int} {f:Nm} (h:GW nf f)
 include h
theorem GW.AyT:Aai f.Slots:=⟨h.slots,λx hx=>(h.slot x hx).al⟩
theorem GW.defs:Qx f:=by
 intro x hx hop;have hb:=h.body x hx;cases hb with
 | store a b h1 h2 h3=>simp_all
 | move a b h1 h2 h3=>exact⟨h1.1,h1.2.1⟩
 | bin op a b c h1 h2=>grind
 | one op a h1=>grind
 | two op a b h1=>grind
 | _=>simp at hop
theorem GW.AhA:YR f:=by
 intro x hx hop;have hb:=h.body x hx;cases hb with
 | move a b h1 h2 h3 =>
  obtain⟨q0,q1,x,y,e1,e2,e3⟩:=h1
  grind [Pg]
 | bin op a b c h1 h2=>simp_all
 | one op a h1=>simp_all
 | two op a b h1=>simp_all
 | _=>simp at hop
theorem GW.calls:Adg nf.toNat f:=by
 intro x hx hop;have hb:=h.body x hx;cases hb<;>grind
theorem GW.Uk:NZ f:=by
 have hl:=h.len;have hl':=h.len';have hs:=h.slots;refine⟨hl,by omega,by omega,λk x hx j hj=>?_,λx hx v hv=>?_⟩
 ·have hk:=(aAF.1 hx).1;have hlast:k+1=f.Code.length->x.Op=20\/x.Op=23\/x.Op=24:=λe=>by
   have:=h.last
   grind [Nt,SQ]
  have hb:=h.body x (aAB hx);have hT:(x.Op=20->0<=x.A/\x.A<f.Code.length)/\(x.Op=21->0<=x.B/\x.B<f.Code.length):=by
   cases hb<;>grind
  grind [Ra]
 ·have hb:=h.body x hx;cases hb<;>grind [Pl]
end
theorem PG.args {p:Nq} (h:PG p) (hf:f∈p.Funcs):AaB p f:=by
 intro x hx;have hb:=(h.all f hf).body x hx;cases hb with
 | arg a b h1 h2 h3=>simp_all
 | call j h1 h2 =>
  refine⟨λe=>by simp at e,λ_=>⟨h1,?_⟩⟩
  have hg:p.Funcs[j.toNat]? =some (p.Funcs[j.toNat]'(by omega)):=aAA _
  exact⟨_,hg,(h.all _ (aAJ _)).par⟩
 | bin op a b c h1 h2=>grind
 | one op a h1=>grind
 | two op a b h1=>grind
 | _=>exact⟨λe=>by simp at e,λe=>by simp at e⟩
open Go Go.Dw Go.Proofs
theorem AvR {keep:List Bool} (h:k<keep.length):keep[k]? =some (Ob keep k):=by simp[Ob,h]
theorem Agf {keep:List Bool} (h:k<keep.length):kept keep (k+1)=kept keep k+(if Ob keep k=true then 1 else 0):=XK (AvR h)
theorem AvS {keep:List Bool} {j:Nat} (hj:j<keep.length) (hk:k<keep.length) (h1:Ob keep j=true) (h2:Ob keep k=true) (h:kept keep j=kept keep k):j=k:=by
 rcases Nat.lt_trichotomy j k with c|c|c
 ·have a:=AdB (keep:=keep) (j:=j+1) (k:=k) (by omega) (by omega)
  rw[Agf hj,if_pos h1]at a;omega
 ·exact c
 ·have a:=AdB (keep:=keep) (j:=k+1) (k:=j) (by omega) (by omega)
  rw[Agf hk,if_pos h2]at a;omega
structure Agw (f g:Nm) (r:NF) (used nm pl:List Int):Prop where
 rw:SS f r
 usd:Ol f.Slots.length used
 nms:∀ k:Nat,k<f.Code.length->Ob r.Keep k=true->∀ v∈Ox (rnI r.To (Nt f k)),v∈used
 nl:nm.length=r.To.length
 num:∀ (s:Nat) x,nm[s]? =some x->0<=x/\(NO r.To s∈used->used[x.toNat]? =some (NO r.To s))
 pll:pl.length=r.Keep.length
 plc:∀ j:Nat,j<r.Keep.length->pl[j]? =some (kept r.Keep j:Int)
 sl:g.Slots.length=used.length
 par:g.Params=f.Params
 code:g.Code=TH f r.Keep nm pl f.Code.length
 sls:Acl f used g.Slots
section
variable {f g:Nm} {r:NF} {used nm pl:List Int} (h:Agw f g r used nm pl)
 include h
theorem Agw.len:g.Code.length=kept r.Keep f.Code.length:=by
 rw[h.code];exact(VB (f:=f) (keep:=r.Keep) (to:=nm) (pl:=pl) _ (by have:=h.rw.2.1;omega)).1
theorem Agw.back {p:Nat} (hx:g.Code[p]? =some x):∃ j:Nat,j<f.Code.length/\Ob r.Keep j=true/\kept r.Keep j=p/\x=mvI pl (rnI nm (Nt f j)):=by
 rw[h.code]at hx;exact(VB (f:=f) (keep:=r.Keep) (to:=nm) (pl:=pl) _ (by have:=h.rw.2.1;omega)).2 p x hx
theorem Agw.at {j:Nat} (hj:j<f.Code.length) (hk:Ob r.Keep j=true):g.Code[kept r.Keep j]? =some (mvI pl (rnI nm (Nt f j))):=by
 have hkl:=h.rw.2.1;have h1:=Agf (keep:=r.Keep) (k:=j) (by omega)
 rw[if_pos hk]at h1;have h2:=AdB (keep:=r.Keep) (j:=j+1) (k:=f.Code.length) (by omega) (by omega)
 have hl:=h.len;have hg:g.Code[kept r.Keep j]? =some (g.Code[kept r.Keep j]'(by omega)):=aAA _
 obtain⟨j',a,b,c,d⟩:=h.back hg
 grind [AvS]
theorem Agw.nmS {s:Int} (h0:0<=s) (h1:s<f.Slots.length):rnS nm s=NO nm s/\0<=NO nm s/\(NO r.To s∈used->used[(NO nm s).toNat]? =some (NO r.To s)):=by
 have htl:=h.rw.1.1;have hnl:=h.nl;have hg:=QM (to:=nm) (s:=s) h0 (by omega)
 obtain⟨q1,q2⟩:=h.num s.toNat _ hg;rw[Int.toNat_of_nonneg h0]at q2;simp_all[rnS]
theorem Agw.slot {s:Int} (h0:0<=s) (h1:s<f.Slots.length) (hu:NO r.To s∈used):(NO nm s).toNat<g.Slots.length/\∃ y,g.Slots[(NO nm s).toNat]? =some y/\y.Size=Pg f s:=by
 obtain⟨_,q1,q2⟩:=h.nmS h0 h1;have q2:=q2 hu;have hl:=(aAF.1 q2).1;have hsl:=h.sl;refine⟨by omega,g.Slots[(NO nm s).toNat]'(by omega),aAA _,?_⟩
 obtain⟨u,x,e1,e2,e3,_⟩:=h.sls (NO nm s).toNat _ (aAA (by omega))
 rw[q2]at e1;obtain rfl:=Option.some.inj e1;have:=(h.rw.1.2 s.toNat (by have:=h.rw.1.1;omega)).2.2.1
 grind [ZP]
end
theorem Agw.gw {nf:Int} {g:Nm} {used nm pl:List Int} (h:Agw f g r used nm pl) (hg:GW nf f):GW nf g:=by
 have hf:=hg.Uk;have hd:=hg.defs;have hml:=hg.AhA;have hkl:=h.rw.2.1;have hlen:=h.len;have hl1:=hg.len;have hl2:=hg.len';have hsl:=hg.slots;have hk0:=Ahu hf hg.last h.rw (t:=0) (by omega)
 have hkl2:=AeE r.Keep f.Code.length;have hul:=AkI (l:=used) (a:=0) (n:=f.Slots.length) h.usd.1.1 λx hx=>⟨(h.usd.1.2 x hx).1,h.usd.2 x hx⟩
 have hgs:=h.sl;refine⟨by rw[h.par];exact hg.par,by omega,λy hy=>?_,by omega,by omega,λx hx=>?_,?_⟩
 ·obtain⟨j,hj⟩:=aAG hy;obtain⟨u,x,_,e2,e3,t,ht,e4⟩:=h.sls j y hj;have a:=hg.slot x (aAB e2);have b:=hg.slot t ht;exact⟨by rw[e3];exact a.1,by rw[e4];exact b.2⟩
 ·obtain⟨p,hx⟩:=aAG hx;obtain⟨j,hj,hk,hp,rfl⟩:=h.back hx;have hc:=(hf.at (j:=(j:Int)) (by omega) (by omega))
  have hnames:∀ s∈Ox (Nt f j),0<=s/\s<f.Slots.length/\NO r.To s∈used:=λs hs=>by
   obtain⟨a,b⟩:=Agh hf hd hc.2 hs;have:=h.nms j hj hk (rnS r.To s) ((Acx _ _ _).2 ⟨s,hs,rfl⟩);rw[(h.rw.1.rng a b).2.2]at this;simp_all
  have hin:∀ s∈Ox (Nt f j),0<=rnS nm s/\rnS nm s<g.Slots.length/\∃ y,g.Slots[(rnS nm s).toNat]? =some y/\y.Size=Pg f s:=λs hs=>by
   obtain⟨a,b,c⟩:=hnames s hs;obtain⟨e,q,_⟩:=h.nmS a b;obtain⟨e1,e2⟩:=h.slot a b c;simp_all
  rw[h.par];refine(hg.body _ hc.2).rn (λs hs=>⟨(hin s hs).1,(hin s hs).2.1⟩) (λh17=>?_) λt ht=>?_
  ·obtain⟨a1,a2,y,a3,a4⟩:=hin (Nt f j).A (by grind [Ox])
   obtain⟨_,_,z,b3,b4⟩:=hin (Nt f j).B (by grind [Ox,Pl])
   refine⟨a1,a2,y,z,a3,b3,?_⟩;rw[a4,b4];exact(hml _ hc.2 h17).2.2.2.2
  ·rw[h.plc t.toNat (by omega)]
   have:=Ahu hf hg.last h.rw (t:=t.toNat) (by omega)
   simp_all
 ·have hk:Ob r.Keep (f.Code.length-1)=true:=by
   cases e:Ob r.Keep (f.Code.length-1)
   ·have:=h.rw.2.2 _ (by omega) e
    have hlast:=hg.last
    grind [SQ]
   ·rfl
  have hat:=h.at (j:=f.Code.length-1) (by omega) hk
  have hs:=Agf (keep:=r.Keep) (k:=f.Code.length-1) (by omega)
  rw[if_pos hk,show f.Code.length-1+1=f.Code.length by omega]at hs
  have hlast:=hg.last
  grind [SQ,Nt,Aoy,AbW]
theorem AoA (hf:NZ f) (hd:Qx f) (hr:SS f r):Hs (Qv f r) λq=>q.2=0/\∃ used nm pl,Agw f q.1 r used nm pl :=
 (Aoz hf hd hr).mono λ_q ⟨h0,used,to,pl,u1,u2,n1,n2,p1,p2,sl,pr,cd,sa⟩=>⟨h0,used,to,pl,hr,u1,u2,n1,n2,p1,p2,sl,pr,cd,sa⟩
open Go Go.Dw Go.Proofs
theorem AwG (f:Nm) (to:List Int) (hsl:f.Slots.length<=500):Hs (Xj f to) λb=>b=true↔AeK f to:=by
 unfold Xj;refine .bne (λh=>.pure ⟨λh'=>(by cases h'),λh'=>(h (by rw[h'.1])).elim⟩) λh=>?_
 have hl:to.length=f.Slots.length:=by omega
 refine Hs.loop (λi=>∃ k:Nat,i=(k:Int)/\k<=to.length/\∀ s:Nat,s<k->0<=NO to s/\NO to s<to.length/\Pg f (NO to s)=Pg f s/\NO to (NO to s)=NO to s) (λi=>to.length-i.toNat) ⟨0,rfl,aAC _,λs hs=>absurd hs (aAK _)⟩ ?_
 rintro _ ⟨k,rfl,hk,hall⟩;unfold ZZ;refine .dec (λhlt=>?_) λhge=>.lft (.pure ⟨λ_=>⟨hl,λs hs=>hall s (by omega)⟩,λ_=>rfl⟩)
 have hlt:k<to.length:=by omega
 have hg:to[k]? =some (NO to k):=by have:=QM (to:=to) (s:=k) (by omega) (by omega);simp_all
 rw[Oy,hg,aA];have no:∀ {p:Prop},¬ p->(AeK f to->p)->Hs (lft (some false):Option (Int⊕Bool)) (Rnd (λi=>∃ k:Nat,i=(k:Int)/\k<=to.length/\∀ s:Nat,s<k->0<=NO to s/\NO to s<to.length/\Pg f (NO to s)=Pg f s/\NO to (NO to s)=NO to s) (λi=>to.length-i.toNat) (k:Int) λb=>b=true↔AeK f to) :=
  λhp hq=>.lft (.pure ⟨λh=>(by cases h),λh=>(hp (hq h)).elim⟩)
 refine .dec (λh0=>no (p:=0<=NO to k) (by omega) λh=>(h.2 k hlt).1) λh0=>?_
 refine .dec (λh1=>no (p:=NO to k<to.length) (by omega) λh=>(h.2 k hlt).2.1) λh1=>?_
 refine Hs.bind (Hs.ix (i:=NO to k) (P:=λx=>x.Size=Pg f (NO to k)) (by omega) (by omega) λx hx=>ZP hx) λa ha=>?_
 refine Hs.bind (Hs.ix (i:=(k:Int)) (P:=λx=>x.Size=Pg f k) (by omega) (by omega) λx hx=>ZP hx) λb hb=>?_
 rw[ha,hb];refine .bne (λh2=>no h2 λh=>(h.2 k hlt).2.2.1) λh2=>?_
 rw[Pa _ (by omega),QM (by omega) (by omega),aA]
 refine .bne (λh3=>no h3 λh=>(h.2 k hlt).2.2.2) λh3=>?_
 rw[Nw (by omega)]
 refine .cnt ⟨⟨k+1,rfl,hlt,λs hs=>?_⟩,by grind⟩
 grind
theorem AiE (hf:NZ f) (r:NF):Hs (Wb f r) λe=>(e=0\/e=12)/\(e=0↔SS f r):=by
 have hlen:=hf.len';refine(AwG f r.To hf.slots).bind λb hb=>.cond (λh=>.pure ⟨.inr rfl,λh=>by omega,λh'=>?_⟩) λh=>?_
 ·rw[hb.2 h'.1]at h;cases h
 have hv:AeK f r.To:=hb.1 (by simp_all)
 refine .bne (λh=>.pure ⟨.inr rfl,λh=>by omega,λh'=>(h (by rw[h'.2.1])).elim⟩) λh=>?_
 have hkl:r.Keep.length=f.Code.length:=by omega
 refine Hs.loop (λi=>∃ k:Nat,i=(k:Int)/\k<=f.Code.length/\∀ j:Nat,j<k->Ob r.Keep j=false->(Nt f j).Op=16\/(Nt f j).Op=17) (λi=>f.Code.length-i.toNat) ⟨0,rfl,aAC _,λs hs=>absurd hs (aAK _)⟩ ?_
 rintro _ ⟨k,rfl,hk,hall⟩;refine .dec (λhlt=>?_) λhge=>.lft (.pure ⟨.inl rfl,λ_=>⟨hv,hkl,λj hj=>hall j (by omega)⟩,λ_=>rfl⟩)
 have hlt:k<f.Code.length:=by omega
 have hx:=hf.at (j:=(k:Int)) (by omega) (by omega)
 rw[aAE]at hx;have hg:r.Keep[k]? =some (Ob r.Keep k):=by grind [Ob]
 have stp:(Ob r.Keep k=false->(Nt f k).Op=16\/(Nt f k).Op=17)->∀ j:Nat,j<k+1->Ob r.Keep j=false->(Nt f j).Op=16\/(Nt f j).Op=17:=by
  grind
 simp only[Oy,hx.1,hg,aA];rw[Nw (by omega)]
 refine .cond (λh=>?_) λh=>.cnt ⟨⟨k+1,rfl,hlt,stp λh'=>by simp_all⟩,by grind⟩
 have hkf:Ob r.Keep k=false:=by simp_all
 unfold XS;rw[Ahq,aA,aA]
 by_cases hd:(Nt f k).Op=16\/(Nt f k).Op=17
 ·rw[if_pos hd];exact .cnt ⟨⟨k+1,rfl,hlt,stp λ_=>hd⟩,by grind⟩
 ·rw[if_neg hd];exact .lft (.pure ⟨.inr rfl,λh=>by omega,λh=>(hd (h.2.2 k hlt hkf)).elim⟩)
attribute [local simp] Oa aAD
def Aki (v:Int):Nat->List Int->Int
 | _,[]=>-1
 | a,x::r=>if v=x then a else Aki v (a+1) r
theorem AvO (s:List Int) (v:Int) (hs:s.length<=9223372036854775807):Th s v=some (Aki v 0 s):=by
 unfold Th;refine SB s (λ(_:Nat) i=>i) (λa i=>a=i) (λa l=>some (Aki v a l)) (λ_ _=>⟨-1,by simp[Ty],by simp[Aki]⟩) (λa i x r ha hd hi hx=>?_) 0 rfl
 subst ha;have w:=Nw (show a<9223372036854775807 by omega)
 obtain⟨_,rfl⟩:=aAF.1 hx
 by_cases h:v=s[a]
 all_goals simp_all[Ty,Aki]
theorem Aqq (v:Int):∀ (a:Nat) (s:List Int),v∈s->∃ i:Nat,Aki v a s=((a+i:Nat):Int)/\s[i]? =some v
 | a,[],h=>by cases h
 | a,x::r,h=>by
  simp only[Aki]
  by_cases e:v=x
  ·rw[if_pos e];exact⟨0,rfl,by rw[e];rfl⟩
  ·obtain⟨i,h1,h2⟩:=Aqq v (a+1) r ((List.mem_cons.1 h).resolve_left e);exact⟨i+1,by omega,by simp_all⟩
theorem Axj (to:List Int) (s:Int):QE s to=some (rnS to s):=by
 unfold QE rnS
 by_cases h0:s<0
 ·grind
 ·rw[decide_eq_false h0,cond_false]
  by_cases h1:s>=(to.length:Int)
  ·grind
  ·rw[decide_eq_false h1,cond_false,if_pos (by omega),Pa _ (by omega),QM (by omega) (by omega)]
   rfl
theorem Axi (x:Av) (to:List Int):Xp x to=some (rnI to x):=by
 unfold Xp rnI;simp only[Axj,aA]
 grind
def VK (f:Nm) (keep:List Bool) (to:List Int) (k:Nat):List Av:=(aAH k).filterMap λj=>if Ob keep j=true then some (rnI to (Nt f (j:Nat)))else none
theorem AsR (f:Nm) (keep:List Bool) (to:List Int) (k:Nat):VK f keep to (k+1)=VK f keep to k++(if Ob keep k=true then[rnI to (Nt f (k:Nat))]else[]):=by
 grind [VK,List.range_succ]
theorem Akk (f:Nm) (keep:List Bool) (to:List Int) (k:Nat):(VK f keep to k).length<=k:=by
 grind [VK]
theorem Aup (f:Nm) (keep:List Bool) (to pl:List Int) (k:Nat):TH f keep to pl k=(VK f keep to k).map (mvI pl):=by
 unfold TH VK;rw[List.map_filterMap];simp_all
section
variable {f:Nm}
theorem Aqg (hf:NZ f) (hkl:r.Keep.length=f.Code.length) (to:List Int):XF f r to=some (VK f r.Keep to f.Code.length):=by
 have hlen:=hf.len';have key:Hs (XF f r to) λl=>l=VK f r.Keep to f.Code.length:=by
  refine Hs.loop (λs=>∃ k:Nat,s.2=(k:Int)/\k<=f.Code.length/\s.1=VK f r.Keep to k) (λs=>f.Code.length-s.2.toNat) ⟨0,rfl,aAC _,rfl⟩ ?_
  rintro⟨_,_⟩ ⟨k,rfl,hk,rfl⟩;refine .dec (λhlt=>?_) λhge=>.lft (.pure ?_)
  ·have hlt:k<f.Code.length:=by omega
   have hx:=hf.at (j:=(k:Int)) (by omega) (by omega)
   rw[aAE]at hx;have hg:r.Keep[k]? =some (Ob r.Keep k):=by grind [Ob]
   have hs:=AsR f r.Keep to k;have hl:=Akk f r.Keep to k;simp only[Oy,hx.1,aA];refine .dec (λ_=>?_) λh=>by omega
   rw[hg,aA];unfold Wx;rw[Axi,Nw (by omega)]
   refine .cond (λh=>?_) λh=>?_
   ·rw[if_pos h]at hs;exact .chk (by simp;omega) (.cnt ⟨⟨k+1,rfl,hlt,hs.symm⟩,by grind⟩)
   ·rw[if_neg (by simp_all),List.append_nil]at hs
    exact .cnt ⟨⟨k+1,rfl,hlt,hs.symm⟩,by grind⟩
  ·have hkk:k=f.Code.length:=by omega
   subst hkk;rfl
 obtain⟨l,h,rfl⟩:=key;exact h
theorem Amj {keep:List Bool}:x∈VK f keep to k↔∃ j:Nat,j<k/\Ob keep j=true/\x=rnI to (Nt f j):=by
 unfold VK
 grind
theorem Axl (hf:NZ f) (hd:Qx f) (hr:SS f r):Hs (Zr f r) λl=>ApN f r l/\Ol f.Slots.length l:=by
 have hlen:=hf.len';have hkl:=hr.2.1;unfold Zr;rw[Aqg hf hkl,aA];have hK:=Akk f r.Keep r.To f.Code.length;have hin:∀ x∈VK f r.Keep r.To f.Code.length,∀ v∈Ox x,0<=v/\v<f.Slots.length:=λx hx v hv=>by
  obtain⟨j,hj,_,rfl⟩:=Amj.1 hx;exact Abg hf hd hr.1 (hf.at (j:=(j:Int)) (by omega) (by omega)).2 v hv
 generalize hKe:VK f r.Keep r.To f.Code.length=K at hK hin;have nm:∀ x:Av,(Ox x).length<=2:=λx=>by
  grind [Ox,Pl]
 refine Hs.loop (λs=>∃ k:Nat,s.2=(k:Int)/\k<=K.length/\s.1.length<=2*k/\s.1=(K.take k).flatMap Ox) (λs=>K.length-s.2.toNat) ⟨0,rfl,aAC _,aAM _,by simp⟩ ?_
 rintro⟨l,_⟩ ⟨k,rfl,hk,hll,hl⟩;replace hll:l.length<=2*k:=hll;replace hl:l=(K.take k).flatMap Ox:=hl;refine .dec (λhlt=>?_) λhge=>.lft ?_
 ·have hlt:k<K.length:=by omega
  have hg:K[k]? =some K[k]:=aAA _;have htk:K.take (k+1)=K.take k++[K[k]]:=by simp_all
  generalize K[k]=x at hg htk;have hu:=Ase x;have hn:=nm x;have step:(K.take (k+1)).flatMap Ox=l++Ox x:=by simp_all
  refine .chk (by omega) ?_
  simp only[aAE,hg,aA,Aqi,Ahq,Nw (show k<9223372036854775807 by omega)]
  refine .chk (by omega) ?_
  by_cases hdy:x.Op=16\/x.Op=17
  ·rw[if_pos hdy];simp only[cond_true];have e:Ox x=Pl x++[x.A]:=by simp_all[Ox]
   rw[e]at step hn;refine .chk (by simp;omega) (.cnt ⟨⟨k+1,rfl,hlt,?_,?_⟩,by grind⟩)
   all_goals grind
  ·rw[if_neg hdy];have e:Ox x=Pl x:=by simp_all[Ox]
   rw[e]at step;refine .cnt ⟨⟨k+1,rfl,hlt,?_,step.symm⟩,by grind⟩
   simp;omega
 ·have hkk:k=K.length:=by omega
  subst hkk;rw[aAR]at hl;refine(ApT l (by omega)).bind λq hq=>.pure ?_
  have hm:∀ v,v∈l↔∃ j:Nat,j<f.Code.length/\Ob r.Keep j=true/\v∈Ox (rnI r.To (Nt f j)):=λv=>by
   rw[hl,List.mem_flatMap,<- hKe]
   grind [Amj]
  refine⟨hq.mono λv _ _=>hm v,hq.1,λv hv=>?_⟩
  have:=((hq.2 v).1 hv).2
  grind
theorem Awe (hl:to.length<=500) (s:Int):Hs (XO to s) λl=>l.length<=to.length/\Avl to s l:=by
 refine Hs.loop (λz=>∃ k:Nat,z.2=(k:Int)/\k<=to.length/\z.1.length<=k/\∀ t,t∈z.1↔∃ j:Nat,j<k/\t=(j:Int)/\NO to j=s) (λz=>to.length-z.2.toNat) ⟨0,rfl,aAC _,aAM _,λt=>⟨λh=>(by cases h),λ⟨j,h,_⟩=>absurd h (aAK _)⟩⟩ ?_
 rintro⟨l,_⟩ ⟨k,rfl,hk,hll,hm⟩;replace hll:l.length<=k:=hll;refine .dec (λhlt=>?_) λhge=>.lft (.pure ?_)
 ·have hlt:k<to.length:=by omega
  have hg:=QM (to:=to) (s:=(k:Int)) (by omega) (by omega)
  rw[aAE]at hg;simp only[Oy,hg,aA];rw[Nw (by omega)]
  refine .beq (λh=>.chk (by simp;omega) (.cnt ⟨⟨k+1,rfl,hlt,by simp;omega,λt=>?_⟩,by grind⟩)) λh=>.cnt ⟨⟨k+1,rfl,hlt,by grind,λt=>?_⟩,by grind⟩
  all_goals grind
 ·have hk:k=to.length:=by omega
  subst hk;exact⟨hll,hm⟩
theorem Aus (r:NF) (hl:r.Keep.length<=1000000):Hs (ZO r) (Aha r):=by
 refine Hs.loop (λs=>∃ k:Nat,s.2.1=(k:Int)/\k<=r.Keep.length/\s.2.2=(kept r.Keep k:Int)/\s.1.length=k/\∀ j:Nat,j<k->s.1[j]? =some (kept r.Keep j:Int)) (λs=>r.Keep.length-s.2.1.toNat) ⟨0,rfl,aAC _,rfl,rfl,λj hj=>absurd hj (aAK _)⟩ ?_
 rintro⟨l,_,n⟩ ⟨k,rfl,hk,hn,hll,hj⟩;subst hn;replace hll:l.length=k:=hll;refine .dec (λhlt=>?_) λhge=>.lft (.pure ?_)
 ·have hlt:k<r.Keep.length:=by simp_all
  have hg:r.Keep[k]? =some r.Keep[k]:=aAA _;generalize r.Keep[k]=b at hg;have hkl:=AeE r.Keep k;have hks:=XK hg;have hap:∀ j:Nat,j<k+1->(l++[(kept r.Keep k:Int)])[j]? =some (kept r.Keep j:Int):=by
   grind
  simp only[Oy,hg,aA];refine .chk (by simp;omega) ?_
  rw[Nw (show k<9223372036854775807 by omega),Nw (show kept r.Keep k<9223372036854775807 by omega)]
  refine .cond (λh=>?_) λh=>?_
  ·subst h;exact .cnt ⟨⟨k+1,rfl,hlt,by simp_all,by simp[hll],hap⟩,by grind⟩
  ·subst h;exact .cnt ⟨⟨k+1,rfl,hlt,by simp_all,by simp[hll],hap⟩,by grind⟩
 ·have hkk:k=r.Keep.length:=by grind
  subst hkk;exact⟨hll,hj⟩
theorem Awd (hf:NZ f) (hkl:r.Keep.length=f.Code.length) (to pl:List Int) (hpl:pl.length=r.Keep.length) (sl:List NA) :
  Hs (NB (λs=>AaU (VK f r.Keep to f.Code.length) pl f sl s.1 s.2) (VK f r.Keep to f.Code.length,0)) λq=>q=(⟨f.Params,sl,TH f r.Keep to pl f.Code.length⟩,0):=by
 have hlen:=hf.len';have hK:=Akk f r.Keep to f.Code.length;have hin:∀ x∈VK f r.Keep to f.Code.length,(x.Op=20->0<=x.A/\x.A<f.Code.length)/\(x.Op=21->0<=x.B/\x.B<f.Code.length):=λx hx=>by
  grind [Amj,AiG,AbW,AdI]
 rw[Aup];generalize VK f r.Keep to f.Code.length=K at hK hin;refine Hs.loop (λs=>∃ k:Nat,s.2=(k:Int)/\k<=K.length/\s.1=(K.take k).map (mvI pl)++K.drop k) (λs=>K.length-s.2.toNat) ⟨0,rfl,aAC _,by simp⟩ ?_
 rintro⟨_,_⟩ ⟨k,rfl,hk,rfl⟩;refine .dec (λhlt=>?_) λhge=>.lft (.pure ?_)
 ·have hlt:k<K.length:=by omega
  have hg:K[k]? =some K[k]:=aAA _;have htk:K.take (k+1)=K.take k++[K[k]]:=by simp_all
  have hdk:K.drop k=K[k]::K.drop (k+1):=List.drop_eq_getElem_cons hlt;have hxm:=aAJ hlt;generalize K[k]=x at hg htk hdk hxm;have hml:((K.take k).map (mvI pl)).length=k:=by simp;omega
  obtain⟨x1,x2⟩:=hin x hxm;have at_:((K.take k).map (mvI pl)++K.drop k)[k]? =some x:=by
   simp_all
  have fin:∀ y,y=mvI pl x->((K.take k).map (mvI pl)++K.drop k).set k y=(K.take (k+1)).map (mvI pl)++K.drop (k+1):=λy hy=>by
   simp_all
  refine .chk (by simp;omega) ?_
  simp only[aAE,at_,aA,Nw (show k<9223372036854775807 by omega)]
  refine .beq (λh=>?_) λh=>.beq (λh'=>?_) λh'=>.cnt ⟨⟨k+1,rfl,hlt,?_⟩,by simp only;omega⟩
  ·have t:=x1 h;refine .chk (by omega) ((Hs.get t.1 (by omega) λz hz=>hz).bind λz hz=>.cnt ⟨⟨k+1,rfl,hlt,fin _ ?_⟩,by simp only;omega⟩)
   simp_all[mvI]
  ·have t:=x2 h';refine .chk (by omega) ((Hs.get t.1 (by omega) λz hz=>hz).bind λz hz=>.cnt ⟨⟨k+1,rfl,hlt,fin _ ?_⟩,by simp only;omega⟩)
   simp_all[mvI]
  ·have:=fin x (by simp_all[mvI])
   grind
 ·have hkk:k=K.length:=by omega
  subst hkk;show((⟨f.Params,sl,_⟩:Nm),(0:Int))=_;simp_all
theorem Awc (hf:NZ f) (hd:Qx f) (hr:SS f r):Hs (Yr f r) (Abk f r):=by
 have hlen:=hf.len';have hsl:=hf.slots;have hkl:=hr.2.1;have htl:=hr.1.1;refine(AiE hf r).bind λe he=>.bne (λh=>(h (he.2.2 hr)).elim) λ_=>?_
 refine(Axl hf hd hr).bind λused ⟨hu0,hu1⟩=>?_
 have hul:=hu1.1.length_le;refine Hs.loop (λs=>∃ i:Nat,s.2=(i:Int)/\i<=used.length/\s.1.length=i/\Xd f r (used.take i) s.1) (λs=>used.length-s.2.toNat) ⟨0,rfl,aAC _,rfl,rfl,λj u y hj=>by simp at hj⟩ ?_
 rintro⟨out,_⟩ ⟨i,rfl,hi,ho,hsa⟩;replace ho:out.length=i:=ho;refine .dec (λhlt=>?_) λhge=>.lft ?_
 ·have hlt:i<used.length:=by omega
  have hgx:used[i]? =some used[i]:=aAA _;have hxm:=aAJ hlt;generalize used[i]=u at hgx hxm;have h0:=(hu1.1.2 u hxm).1;have h1:=hu1.2 u hxm;refine .chk (by omega) ?_
  simp only[aAE,hgx,aA];refine(Hs.ix (P:=λx=>f.Slots[u.toNat]? =some x) h0 h1 λx hx=>hx).bind λx hfx=>?_
  refine(Awe (by omega) u).bind λl ⟨hll,hm⟩=>?_
  have hl:∀ t∈l,0<=t/\t<f.Slots.length:=λt ht=>by
   obtain⟨j,q1,rfl,_⟩:=(hm t).1 ht;omega
  refine Hs.loop (λs=>∃ k:Nat,s.2=(k:Int)/\k<=l.length/\AaN f (l.take k) x.Align s.1) (λs=>l.length-s.2.toNat) ⟨0,rfl,aAC _,by grind [AaN.nil]⟩ ?_
  rintro⟨a,_⟩ ⟨k,rfl,hk,hx⟩;refine .dec (λhlt2=>?_) λhge2=>.lft (.chk (by simp;omega) ?_)
  ·have hlt2:k<l.length:=by omega
   have hg:l[k]? =some l[k]:=aAA _;have htk:l.take (k+1)=l.take k++[l[k]]:=by simp_all
   have ht:=hl _ (aAJ hlt2);generalize l[k]=t at hg htk ht;refine .chk (by omega) ?_
   rw[aAE,hg,aA];refine(Hs.ix (P:=λy=>alS f t=y.Align) ht.1 ht.2 λy hy=>by grind [alS]).bind λy hy=>?_
   rw[Nw (by omega),AnX,<- hy]
   refine .cnt ⟨⟨k+1,rfl,hlt2,?_⟩,by grind⟩
   rw[htk];exact hx.snoc t
  ·have hkk:k=l.length:=by omega
   subst hkk;rw[aAR]at hx;rw[Nw (by omega)]
   exact .cnt ⟨⟨i+1,rfl,hlt,by simp[ho],hsa.snoc ho (by omega) hgx hfx rfl hm hx⟩,by grind⟩
 have hii:i=used.length:=by omega
 subst hii;rw[aAR]at hsa;unfold Aqa YY;rw[Oa (by omega),aA]
 refine Hs.loop (λs=>∃ k:Nat,s.2=(k:Int)/\k<=r.To.length/\s.1.length=r.To.length/\(∀ (j:Nat) x,j<k->s.1[j]? =some x->NO r.To j∈used->0<=x/\used[x.toNat]? =some (NO r.To j))/\∀ j:Nat,k<=j->s.1[j]? =r.To[j]?) (λs=>r.To.length-s.2.toNat) ⟨0,rfl,aAC _,rfl,λj x hj=>absurd hj (aAK _),λj _=>rfl⟩ ?_
 rintro⟨to,_⟩ ⟨k,rfl,hk,h1,h2,h3⟩;replace h1:to.length=r.To.length:=h1;refine .dec (λhlt=>?_) λhge=>.lft ?_
 ·have hlt:k<r.To.length:=by omega
  have hg:=QM (to:=r.To) (s:=(k:Int)) (by omega) (by omega)
  rw[aAE,<- h3 k (aAM _)]at hg;refine .chk (by simp_all) ?_
  rw[aAE,hg,aA,AvO _ _ (by omega),aA]
  refine .chk (by simp_all) ?_
  rw[aA,Nw (by omega)]
  refine .cnt ⟨⟨k+1,rfl,hlt,by simp[h1],λj x hj hx hm=>?_,λj hj=>?_⟩,by simp only;omega⟩
  ·have hx:(to.set k (Aki (NO r.To k) 0 used))[j]? =some x:=hx
   by_cases e:j=k
   ·subst e;rw[aAh (by omega)]at hx
    cases hx;obtain⟨q,q1,q2⟩:=Aqq _ 0 _ hm;simp_all
   ·rw[List.getElem?_set_ne (λh=>e h.symm)]at hx
    exact h2 j x (by omega) hx hm
  grind
 ·have hkk:k=r.To.length:=by omega
  subst hkk;refine(Aus r (by omega)).bind λpl hp=>?_
  rw[Aqg hf hkl,aA];refine(Awd hf hkl to pl hp.1 out).mono λq hq=>?_
  subst hq;exact⟨rfl,rfl,used,to,pl,hu0,hsa,⟨h1,λs x hs hm=>h2 s x (by grind) hs hm⟩,hp,rfl⟩
theorem Asm (hf:NZ f) (hd:Qx f) (hr:SS f r):∃ q,Yr f r=some q/\Qv f r=some q/\Abk f r q:=by
 obtain⟨q,h1,h2⟩:=Awc hf hd hr;obtain⟨q',k1,k2⟩:=Awi hf hd hr;exact⟨q,h1,by rw[k1,k2.unique hf hd hr h2],h2⟩
end
open Go Go.Dw Go.Proofs
def ZX (f:Nm) (l:List (List Int)) (r:NF) (k:Nat) (y:Int):Prop :=
 ((Nt f k).Op=16\/(Nt f k).Op=17)/\¬ ((Nt f k).Op=17/\NO r.To (Nt f k).A=NO r.To (Nt f k).B)/\y∈NW l k/\(Ob r.Keep k=true↔y≠(Nt f k).A)/\NO r.To y=NO r.To (Nt f k).A
instance {f:Nm} {l:List (List Int)} {r:NF} {k:Nat} {y:Int}:Decidable (ZX f l r k y):=by unfold ZX;infer_instance
theorem ZX.mono {l':List (List Int)} {y:Int} (h:ZX f l' r k y) (hs:∀ v∈NW l' k,v∈NW l k):ZX f l r k y :=
 ⟨h.1,h.2.1,hs y h.2.2.1,h.2.2.2.1,h.2.2.2.2⟩
def Aqy (f:Nm) (l:List (List Int)) (r:NF) (k:Nat):Option Int:=(NW l k).find? λy=>decide (ZX f l r k y)
def AgZ (f:Nm) (l:List (List Int)) (r:NF) (q:Int×Int×Bool):Prop :=
 (∃ (k:Nat) (y:Int),k<f.Code.length/\Aqy f l r k=some y/\(∀ j<k,Aqy f l r j=none)/\q=((k:Int),y,true))\/((∀ j<f.Code.length,Aqy f l r j=none)/\q=(0,0,false))
theorem AgZ.unique {q p:Int×Int×Bool} (h:AgZ f l r q) (h':AgZ f l r p):q=p:=by
 rcases h with⟨k,y,hk,h1,h2,rfl⟩|⟨h1,rfl⟩<;>rcases h' with⟨k',y',hk',h1',h2',rfl⟩|⟨h1',rfl⟩
 all_goals grind
theorem AgZ.found {q:Int×Int×Bool} (h:AgZ f l r q):q.2.2=true↔∃ k y,k<f.Code.length/\ZX f l r k y:=by
 rcases h with⟨k,y,hk,h1,_,rfl⟩|⟨h1,rfl⟩
 ·exact⟨λ_=>⟨k,y,hk,by simpa using List.find?_some h1⟩,λ_=>rfl⟩
 ·refine⟨λh=>(by cases h),λ⟨k,y,hk,hy⟩=>?_⟩
  have:=List.find?_eq_none.1 (h1 k hk) y hy.2.2.1;simp_all
theorem Aqd (hf:NZ f) (hd:Qx f) {l:NS} (hl:RJ f l.Out) (hr:SS f r) (hk:k<f.Code.length) :
  Hs (QB (k:Int) f r l) λq=>q.2=true↔∃ y,ZX f l.Out r k y:=by
 have htl:=hr.1.1;have hx:=hf.at (j:=(k:Int)) (by omega) (by omega)
 have hrow:=hl.at (j:=(k:Int)) (by omega) (by omega)
 rw[aAE]at hx hrow;have hlo:=hrow.2.1.length_le;have hg:r.Keep[k]? =some (Ob r.Keep k):=by have:=hr.2.1;grind [Ob]
 have tg:∀ s:Int,0<=s->s<f.Slots.length->ixO r.To s=some (NO r.To s):=λs h0 h1=>by grind [Pa,QM]
 unfold QB;simp only[Oy,hx.1,aA,Ahq]
 by_cases hdef:(Nt f k).Op=16\/(Nt f k).Op=17
 ·rw[if_pos hdef];have hA:=hd _ hx.2 hdef;have inner:¬ ((Nt f k).Op=17/\NO r.To (Nt f k).A=NO r.To (Nt f k).B)->Hs (PF l (k:Int) r ((Nt f k).A,true)) λq=>q.2=true↔∃ y,ZX f l.Out r k y:=by
   intro hnm;unfold PF;rw[Oy,hrow.1,aA];refine Hs.loop (λi=>∃ j:Nat,i=(j:Int)/\j<=(NW l.Out k).length/\∀ y∈(NW l.Out k).take j,¬ ZX f l.Out r k y) (λi=>(NW l.Out k).length-i.toNat) ⟨0,rfl,aAC _,λy hy=>by simp at hy⟩ ?_
   rintro _ ⟨j,rfl,hj,hno⟩;refine .dec (λhlt=>?_) λhge=>.lft (.pure ⟨λh=>(by cases h),λ⟨y,hy⟩=>?_⟩)
   ·have hlt:j<(NW l.Out k).length:=by omega
    have hgx:(NW l.Out k)[j]? =some (NW l.Out k)[j]:=aAA _;have hxm:=aAJ hlt;have htk:(NW l.Out k).take (j+1)=(NW l.Out k).take j++[(NW l.Out k)[j]]:=by simp_all
    generalize(NW l.Out k)[j]=y at hgx hxm htk;have hy0:=(hrow.2.1.2 y hxm).1;have hyn:=hrow.2.2 y hxm;have stp:¬ ZX f l.Out r k y->∀ z∈(NW l.Out k).take (j+1),¬ ZX f l.Out r k z:=by
     grind
    simp only[Oy,hgx,hg,tg _ hy0 hyn,tg _ hA.1 hA.2,aA];rw[Nw (by omega)]
    have hky:(Ob r.Keep k==(y != (Nt f k).A))=true↔(Ob r.Keep k=true↔y≠(Nt f k).A):=by
     grind
    refine .cond (λh1=>.beq (λh2=>.lft (.pure ⟨λ_=>⟨y,hdef,hnm,hxm,hky.1 h1,h2⟩,λ_=>rfl⟩)) λh2=>?_) λh1=>?_
    ·exact .cnt ⟨⟨j+1,rfl,hlt,stp λh=>h2 h.2.2.2.2⟩,by grind⟩
    ·exact .cnt ⟨⟨j+1,rfl,hlt,stp λh=>by rw[hky.2 h.2.2.2.1]at h1;cases h1⟩,by grind⟩
   ·refine(hno y ?_ hy).elim;rw[aAi (by omega)]
    exact hy.2.2.1
  refine .beq (λh17=>?_) λh17=>inner λh=>h17 h.1
  have hB:=hf.uses _ hx.2 (Nt f k).B (by grind [Pl])
  rw[tg _ hA.1 hA.2,aA,tg _ hB.1 hB.2,aA];exact .beq (λh=>.pure ⟨λh=>(by cases h),λ⟨y,hy⟩=>(hy.2.1 ⟨h17,h⟩).elim⟩) λh=>inner λh'=>h h'.2
 ·rw[if_neg hdef];exact .pure ⟨λh=>(by cases h),λ⟨y,hy⟩=>(hdef hy.1).elim⟩
theorem Aro (hf:NZ f) (hd:Qx f) {l:NS} (hl:Acc f l.Out) (hr:SS f r):Hs (Xc f l r) λq=>q.2.2=true↔∃ k y,k<f.Code.length/\ZX f l.Out r k y:=by
 have hlen:=hf.len';refine(AlZ hf (hl.1.len hf)).bind λe he=>.bne (λh=>(h (he.2.2 hl)).elim) λ_=>?_
 refine(AiE hf r).bind λe he=>.bne (λh=>(h (he.2.2 hr)).elim) λ_=>?_
 refine Hs.loop (λi=>∃ k:Nat,i=(k:Int)/\k<=f.Code.length/\∀ j y,j<k->¬ ZX f l.Out r j y) (λi=>f.Code.length-i.toNat) ⟨0,rfl,aAC _,λs _ hs=>absurd hs (aAK _)⟩ ?_
 rintro _ ⟨k,rfl,hk,hall⟩;refine .dec (λhlt=>?_) λhge=>.lft (.pure ⟨λh=>(by cases h),λ⟨j,y,hj,hy⟩=>(hall j y (by omega) hy).elim⟩)
 have hlt:k<f.Code.length:=by omega
 refine(Aqd hf hd hl.1 hr hlt).bind λq hq=>.cond (λh=>?_) λh=>?_
 ·obtain⟨y,hy⟩:=hq.1 h;exact .lft (.pure ⟨λ_=>⟨k,y,hlt,hy⟩,λ_=>rfl⟩)
 ·rw[Nw (by omega)]
  refine .cnt ⟨⟨k+1,rfl,hlt,λj y hj hy=>?_⟩,by grind⟩
  grind
theorem AuW (hf:NZ f) (hd:Qx f) {l:NS} (hl:Qy l.Out) (r:NF) :
  Hs (XH f l r) λe=>(¬ Acc f l.Out/\e=11)\/(Acc f l.Out/\(¬ SS f r\/∃ k y,k<f.Code.length/\ZX f l.Out r k y)/\e=12)\/(Acc f l.Out/\SS f r/\(∀ k y,k<f.Code.length->¬ ZX f l.Out r k y)/\e=0):=by
 unfold XH;refine(AlZ hf hl).bind λe he=>.bne (λh=>.pure (.inl ⟨λh'=>h (he.2.2 h'),rfl⟩)) λh=>?_
 have ha:=he.2.1 h;refine(AiE hf r).bind λe he=>.bne (λh=>.pure (.inr (.inl ⟨ha,.inl λh'=>h (he.2.2 h'),rfl⟩))) λh=>?_
 have hr:=he.2.1 h;refine(Aro hf hd ha hr).bind λq hq=>.cond (λh=>.pure (.inr (.inl ⟨ha,.inr (hq.1 h),rfl⟩))) λh=>.pure (.inr (.inr ⟨ha,hr,λk y hk hy=>?_,rfl⟩))
 simp_all
end Go.Proofs.YtcaoepecbgggcaaGreatDoor
namespace Go.Dw
open Go
theorem Avn (x k w:Nat) (hx:x<2 ^ w) (hk:k<=w):x &&& (2 ^ w-1-(2 ^ k-1))=x / 2 ^ k*2 ^ k:=by
 have hle:2 ^ k<=2 ^ w:=aAN (by omega) hk
 have h0:0<2 ^ k:=aAe k;apply Nat.eq_of_testBit_eq
 grind [Nat.testBit_lt_two_pow,Nat.lt_of_lt_of_le,aAN]
theorem AxT (x:Int) (k:Nat) (hk:k<=24) (h0:0<=x) (h1:x<4611686018427387904) :
  IntKind.i64.wrap (((aAO IntKind.i64.bits x &&& ~~~ aAO IntKind.i64.bits ((2 ^ k-1:Nat):Int)).toNat:Nat):Int)=x-x % ((2 ^ k:Nat):Int):=by
 obtain⟨n,rfl⟩:∃ n:Nat,x=(n:Int):=⟨x.toNat,by omega⟩
 have hp:2 ^ k<=2 ^ 24:=aAN (by omega) hk
 have hp0:0<2 ^ k:=aAe k;have hn:n<2 ^ 64:=by omega
 have hb:IntKind.i64.bits=64:=rfl;rw[hb,aAb,BitVec.toNat_not];have e1:(aAO 64 (n:Int)).toNat=n:=by simp;omega
 have e2:(aAO 64 ((2 ^ k-1:Nat):Int)).toNat=2 ^ k-1:=by
  grind
 rw[e1,e2,Avn n k 64 hn (by omega)]
 have hm:=Nat.div_add_mod n (2 ^ k)
 grind [wrap64]
end Go.Dw
namespace Go.Proofs.YtcaoepecbgggcaaGreatDoor
open Go Go.Dw Go.Proofs
variable {a s:Int} {x:Av} {p:Nq} {i k:Nat} {f:Nm} {l g:List (List Int)} {r:List Int×Int} {fr:OA} {z:PX×Int} {α:Type} {c:Mk} {X:Option Int}
theorem Akb (n:Int):Ta n=some (decide (0<=n/\n<=2147483647)):=by
 rw[<- YW];rfl
theorem AoJ (a:NN):Vy a=some (decide (UH a)):=by
 rw[<- AmG]
 grind [Vy,Rm,Akb,YW]
theorem Aix {m:Nat} (hm:m<=24):Qq ((2 ^ m:Nat):Int)=some true:=by
 have hp:2 ^ m<=2 ^ 24:=aAN (by omega) hm
 have h0:0<2 ^ m:=aAe m;have hz:(2 ^ m) &&& (2 ^ m-1)=0:=by simp_all
 unfold Qq;generalize 2 ^ m=a at *;rw[decide_eq_true (show((a:Nat):Int)>=1 by omega),cond_true,decide_eq_true (show((a:Nat):Int)<=16777216 by omega),cond_true,wrap64 (n:=(a:Int)-1) (by omega) (by omega)]
 have hb:IntKind.i64.bits=64:=rfl;have e1:(aAO 64 (a:Int)).toNat=a:=by grind
 have e2:(aAO 64 ((a:Int)-1)).toNat=a-1:=by grind
 rw[hb,aAb,e1,e2,hz];rfl
theorem Arw {u v:Int} (ha:0<a) (hu:u % a=0) (hv:v % a=0) (h1:u-v<a) (h2:v-u<a):u=v:=by
 obtain⟨p,rfl⟩:=aAc hu;obtain⟨q,rfl⟩:=aAc hv;have key:∀ x y:Int,x<y->a*x+a<=a*y:=λx y h=>by
  have:=Int.mul_le_mul_of_nonneg_left (show x+1<=y by omega) (show 0<=a by omega)
  grind
 rcases Int.lt_trichotomy p q with h|h|h
 ·grind
 ·rw[h]
 ·have:=key q p h;omega
theorem Axk {n:Int} (h0:0<=n) (h1:n<=4000000000) (ha:QX a):Ady n a=some (upN n a):=by
 obtain⟨a1,a2⟩:=ha.rng;obtain⟨m,hm,rfl⟩:=ha;obtain⟨p1,p2,p3⟩:=Vm (n:=n) (a:=((2 ^ m:Nat):Int)) (by omega)
 unfold Ady;have w1:IntKind.i64.wrap (n+((2 ^ m:Nat):Int))=n+((2 ^ m:Nat):Int):=wrap64 (by omega) (by omega)
 have w2:IntKind.i64.wrap (n+((2 ^ m:Nat):Int)-1)=n+((2 ^ m:Nat):Int)-1:=wrap64 (by omega) (by omega)
 have w3:IntKind.i64.wrap (((2 ^ m:Nat):Int)-1)=((2 ^ m-1:Nat):Int):=by grind [wrap64]
 rw[w1,w2,w3,AxT _ m hm (by omega) (by omega)]
 have key:n+((2 ^ m:Nat):Int)-1-(n+((2 ^ m:Nat):Int)-1) % ((2 ^ m:Nat):Int)=upN n ((2 ^ m:Nat):Int):=by
  refine Arw (a:=((2 ^ m:Nat):Int)) (by omega) ?_ p3 (by omega) (by omega)
  simp_all
 rw[key]
theorem AtU {n:Int} (h0:0<=n) (h1:n<=1000000000) (ha:QX a):Abe n a=some (upN n a,0):=by
 have h2:=Axk h0 (by omega) ha
 obtain⟨a1,a2⟩:=ha.rng;obtain⟨p1,p2,p3⟩:=Vm (n:=n) (a:=a) (by omega)
 have hp:Qq a=some true:=by obtain⟨m,hm,rfl⟩:=ha;exact Aix hm
 unfold Abe;rw[Akb,aA,decide_eq_true (show 0<=n/\n<=2147483647 by omega)]
 simp only[aAP,cond_false,hp,aA];unfold AbC TG
 grind
theorem ArP {x y:Int} (hx:0<=x/\x<=1000000000) (hy:0<=y/\y<=1000000000):UT x y=some (x+y,0):=by
 grind [UT,Yf,TG,Akb,wrap64]
theorem AmX (a:NN) (n:Int):Sm a n=some (decide (InI a n)):=by
 rw[<- Aud]
 grind [Sm,Afe,AoJ,AmG]
theorem Arq (a b:NN):Xr a b=some (decide (Aib a b)):=by
 unfold Xr AcS;simp only[AoJ,aA]
 by_cases h1:UH a
 ·by_cases h2:UH b
  ·rw[h1.wrap,h2.wrap];simp only[h1,h2,decide_true,cond_true,Aib,true_and,Option.some.injEq];refine decide_eq_decide.2 ?_
   grind [OM,Tw]
  grind [Aib]
 grind [Aib]
theorem AqD {i:Int} (hi:ixO p.Funcs i=some f) (hl:f.Code.length<=10000) (h:AaB p f):Zm p i=some (16*PJ p f f.Code.length):=by
 have:Hs (Zm p i) λr=>r=16*PJ p f f.Code.length:=by
  unfold Zm;rw[hi,aA];refine Hs.loop (λq=>∃ k:Nat,q=((k:Int),PJ p f k)/\k<=f.Code.length) (λq=>f.Code.length-q.1.toNat) ⟨0,rfl,aAC _⟩ ?_
  rintro _ ⟨k,rfl,hk⟩;have hr:=XN h hk;refine .dec (λhlt=>?_) λhge=>.lft (.pure ?_)
  ·have hlt:k<f.Code.length:=by omega
   have e:ixO f.Code (k:Int)=some f.Code[k]:=by simp_all
   obtain⟨h1,h2⟩:=h _ (aAJ hlt);simp only[e,aA];rw[Nw (by omega)]
   refine .beq (λh18=>?_) λh18=>.beq (λh22=>?_) λh22=>?_
   ·rw[wrap64 (by omega) (by omega)]
    exact .cnt ⟨⟨k+1,by grind [We,VT],hlt⟩,by grind⟩
   ·obtain⟨a0,g,hg,hp⟩:=h2 h22;rw[Pa _ a0,hg,aA];exact .cnt ⟨⟨k+1,by grind [We,VT],hlt⟩,by grind⟩
   ·exact .cnt ⟨⟨k+1,by grind [We,VT],hlt⟩,by grind⟩
  ·have:k=f.Code.length:=by omega
   subst this;rw[wrap64 (by omega) (by omega)]
   exact rfl
 obtain⟨r,h,rfl⟩:=this;exact h
theorem Amp {i:Int} (hi:ixO p.Funcs i=some f) (hl:f.Code.length<=10000) (h:AaB p f) (hs:Aai f.Slots) {al:Int} (ha:QX al) (ha':al<=16777216):Tp p i al=some (QF p f al,0):=by
 have hr:=XN h (k:=f.Code.length) (aAM _);have hsl:=hs.1;have:Hs (Tp p i al) λr=>r=(QF p f al,0):=by
  unfold Tp;rw[AqD hi hl h,aA,hi,aA];unfold QF;have hr2:0<=16*PJ p f f.Code.length/\16*PJ p f f.Code.length<=128:=by omega
  generalize 16*PJ p f f.Code.length=a0 at *;refine Hs.loop (λq=>∃ k:Nat,q=((plK f.Slots a0 k).1,(k:Int),(plK f.Slots a0 k).2)/\k<=f.Slots.length) (λq=>f.Slots.length-q.2.1.toNat) ⟨0,rfl,aAC _⟩ ?_
  rintro _ ⟨k,rfl,hk⟩;obtain⟨q1,q2,q3⟩:=Acz hs (a:=a0) (by omega) hk
  dsimp only;refine .dec (λhlt=>?_) λhge=>.lft ?_
  ·have hlt:k<f.Slots.length:=by omega
   have e:ixO f.Slots (k:Int)=some f.Slots[k]:=by simp_all
   obtain⟨h1,h2,h3,h4⟩:=hs.2 _ (aAJ hlt);obtain⟨u1,u2,_⟩:=Vm (n:=(plK f.Slots a0 k).2) (a:=f.Slots[k].Align) (by have:=h1.rng;omega)
   simp only[e,aA];rw[AtU (by omega) (by omega) h1,aA]
   rw[ArP (by omega) (by omega),aA]
   refine .chk (by simp;omega) ?_
   rw[Nw (by omega)]
   exact .cnt ⟨⟨k+1,by grind [AcA,Afc],hlt⟩,by grind⟩
  ·have:k=f.Slots.length:=by omega
   subst this;obtain⟨u1,u2,_⟩:=Vm (n:=(plK f.Slots a0 f.Slots.length).2) (a:=al) (by have:=ha.rng;omega)
   unfold Aeu Yj;rw[AtU (by omega) (by omega) ha,aA]
   rw[ArP (by omega) (by omega),aA]
   exact .pure rfl
 obtain⟨r,h,rfl⟩:=this;exact h
section
variable {p:Nq} {i:Int} {f:Nm} {al:Int} (h:Aia p i f al)
 include h
theorem Aur (y:ND) (hl:y.Off.length=f.Slots.length) (hk:k<f.Slots.length):Hs (Sz ⟨p,i,al,f,y⟩ (k:Int)) λb=>b=true↔AeI f y k:=by
 have eo:y.Off[k]? =some (y.Off[k]'(by omega)):=aAA _
 have es:f.Slots[k]? =some f.Slots[k]:=aAA _;have hs:=(h.slots.2 _ (aAJ hk)).1.rng;generalize(y.Off[k]'(by omega))=o at eo
 generalize f.Slots[k]=s at es hs;have key:AeI f y k↔y.Args<=o/\o.tmod s.Align=0/\InI ⟨o,s.Size⟩ y.Size:=by
  grind [AeI]
 rw[key];unfold Sz;simp only[Oy,eo,aA];refine .dec (λh1=>?_) λh1=>.pure ⟨λh=>(by cases h),λh=>(h1 h.1).elim⟩
 simp only[es,aA];refine .chk (by omega) (.beq (λh2=>?_) λh2=>.pure ⟨λh=>(by cases h),λh=>(h2 h.2.1).elim⟩)
 unfold PS;simp only[Oy,eo,es,aA,AmX];exact .pure ⟨λh=>⟨h1,h2,of_decide_eq_true h⟩,λh=>decide_eq_true h.2.2⟩
theorem AsU (y:ND):Hs (Tc ⟨p,i,al,f,y⟩) λe=>(e=0\/e=13)/\(e=0↔Tj p f al y):=by
 have hal:=h.al16;have hsl:=h.slots.1;have no:∀ {Q:Prop},(Tj p f al y->False)->Hs (some (13:Int)) λe=>(e=0\/e=13)/\(e=0↔Tj p f al y):=λhn=>.pure ⟨.inr rfl,⟨λh=>(by cases h),λh=>(hn h).elim⟩⟩
 unfold Tc;rw[Amp h.hi h.Uk.len' h.arg h.slots h.alok h.al64,aA,AqD h.hi h.Uk.len' h.arg,aA];simp only[bne_self_eq_false,cond_false];refine .bne (λhA=>no (Q:=True) λhq=>hA hq.1) λhA=>.bne (λhL=>no (Q:=True) λhq=>hL (by rw[hq.2.1])) λhL=>?_
 have hL:y.Off.length=f.Slots.length:=by omega
 refine Hs.loop (λq=>∃ k:Nat,q=(k:Int)/\k<=f.Slots.length/\∀ j<k,AeI f y j) (λq=>f.Slots.length-q.toNat) ⟨0,rfl,aAC _,λj hj=>absurd hj (aAK _)⟩ ?_
 rintro _ ⟨k,rfl,hk,hall⟩;refine .dec (λhlt=>?_) λhge=>.lft ?_
 ·have hlt:k<f.Slots.length:=by simp_all
  refine(Aur h y hL hlt).bind λb hb=>.cond (λhb'=>.lft (no (Q:=True) λhq=>?_)) λhb'=>?_
  ·have:=hb.2 (hq.2.2.1 k hlt);simp_all
  ·rw[Nw (by omega)]
   refine .cnt ⟨⟨k+1,rfl,hlt,λj hj=>?_⟩,by grind⟩
   grind
 ·have hkk:k=f.Slots.length:=by grind
  subst hkk;refine .chk (by grind) (.bne (λh1=>no (Q:=True) λhq=>h1 hq.2.2.2.1) λh1=>.dec (λh2=>no (Q:=True) λhq=>?_) λh2=>.dec (λh3=>no (Q:=True) λhq=>?_) λh3=>.pure ⟨.inl rfl,⟨λ_=>⟨hA,hL,hall,h1,?_,?_⟩,λ_=>rfl⟩⟩)
  ·have:=hq.2.2.2.2.1;grind
  ·have:=hq.2.2.2.2.2;grind
  all_goals simp_all
end
open Go Go.Dw Go.Proofs
def VN (y:ND) (s:Int):Int:=(y.Off[s.toNat]?).getD 0
def WV (f:Nm) (l:List (List Int)) (y:ND) (k:Nat) (s:Int):Prop :=
 ((Nt f k).Op=16\/(Nt f k).Op=17)/\¬ ((Nt f k).Op=17/\VN y (Nt f k).A=VN y (Nt f k).B)/\s∈NW l k/\s≠(Nt f k).A/\Aib ⟨VN y s,Pg f s⟩ ⟨VN y (Nt f k).A,Pg f (Nt f k).A⟩
instance {f:Nm} {l:List (List Int)} {y:ND} {k:Nat} {s:Int}:Decidable (WV f l y k s):=by unfold WV;infer_instance
theorem WV.mono {l':List (List Int)} {y:ND} (h:WV f l' y k s) (hs:∀ v∈NW l' k,v∈NW l k):WV f l y k s :=
 ⟨h.1,h.2.1,hs s h.2.2.1,h.2.2.2⟩
def Vn (f:Nm) (l:List (List Int)) (y:ND) (k:Nat):Option Int:=(NW l k).find? λs=>decide (WV f l y k s)
def Aqo (o:Option Int):Int×Bool:=match o with|some y=>(y,true)|none=>(0,false)
theorem AvJ {l:List Int} {p:Int->Bool} {j:Nat} {y:Int} (h:l[j]? =some y) (hp:p y=true) (hn:∀ z∈l.take j,p z=false):l.find? p=some y:=by
 grind [List.getElem_cons_drop,List.take_append_drop]
theorem AjK {y:ND}:Vn f l y k=none↔∀ s,¬ WV f l y k s:=by
 unfold Vn;rw[List.find?_eq_none];exact⟨λh s hs=>by have:=h s hs.2.2.1;simp_all,λh s _=>by simp[h s]⟩
theorem ApY {y:ND} (h:Vn f l y k=some s):WV f l y k s:=by
 grind [Vn]
theorem AkL {y:ND} (hl:y.Off.length=f.Slots.length) (h0:0<=s) (h1:s<f.Slots.length):ixO y.Off s=some (VN y s):=by
 grind [Pa,VN]
theorem Asc (h0:0<=s) (h1:s<f.Slots.length):∃ x,ixO f.Slots s=some x/\x.Size=Pg f s:=by
 have e:f.Slots[s.toNat]? =some (f.Slots[s.toNat]'(by omega)):=aAA _
 grind [Pa,ZP]
def Acj (f:Nm) (l:List (List Int)) (y:ND) (q:Int×Int×Bool):Prop :=
 (∃ (k:Nat) (s:Int),k<f.Code.length/\Vn f l y k=some s/\(∀ j<k,Vn f l y j=none)/\q=((k:Int),s,true))\/((∀ j<f.Code.length,Vn f l y j=none)/\q=(0,0,false))
theorem Acj.unique {y:ND} {q p:Int×Int×Bool} (h:Acj f l y q) (h':Acj f l y p):q=p:=by
 rcases h with⟨k,s,hk,h1,h2,rfl⟩|⟨h1,rfl⟩<;>rcases h' with⟨k',s',hk',h1',h2',rfl⟩|⟨h1',rfl⟩
 all_goals grind
theorem Acj.found {y:ND} {q:Int×Int×Bool} (h:Acj f l y q):q.2.2=true↔∃ k s,k<f.Code.length/\WV f l y k s:=by
 rcases h with⟨k,s,hk,h1,h2,rfl⟩|⟨h1,rfl⟩
 all_goals grind [ApY,AjK]
def AeB (p:Nq) (f:Nm) (al:Int) (l:List (List Int)) (y:ND) (e:Int):Prop :=
 (¬ Tj p f al y/\e=13)\/(Tj p f al y/\¬ Acc f l/\e=11)\/(Tj p f al y/\Acc f l/\(∃ k s,k<f.Code.length/\WV f l y k s)/\e=13)\/(Tj p f al y/\Acc f l/\(∀ k s,k<f.Code.length->¬ WV f l y k s)/\e=0)
theorem AeB.unique {al:Int} {y:ND} {b:Int} (h:AeB p f al l y a) (h':AeB p f al l y b):a=b:=by
 rcases h with⟨h1,rfl⟩|⟨h1,h2,rfl⟩|⟨h1,h2,⟨k,s,hk,hc⟩,rfl⟩|⟨h1,h2,h3,rfl⟩<;>rcases h' with⟨k1,rfl⟩|⟨k1,k2,rfl⟩|⟨k1,k2,⟨k',s',hk',hc'⟩,rfl⟩|⟨k1,k2,k3,rfl⟩ <;>
  first|rfl|exact(h1 k1).elim|exact(k1 h1).elim|exact(h2 k2).elim|exact(k2 h2).elim|exact(k3 _ _ hk hc).elim|simp_all
section
variable {p:Nq} {i:Int} {f:Nm} {al:Int} (h:Aia p i f al)
 include h
theorem AlL {y:ND} (hl:y.Off.length=f.Slots.length) (h0:0<=s) (h1:s<f.Slots.length):PS ⟨p,i,al,f,y⟩ s=some ⟨VN y s,Pg f s⟩:=by
 have:=h
 grind [PS,Asc,AkL]
theorem Avv {y:ND} (hyl:y.Off.length=f.Slots.length) {l:NS} (hl:RJ f l.Out) (hk:k<f.Code.length) :
  Hs (Tb ⟨p,i,al,f,y⟩ l (k:Int)) λq=>q=Aqo (Vn f l.Out y k):=by
 have hx:=h.Uk.at (j:=(k:Int)) (by omega) (by omega)
 have hrow:=hl.at (j:=(k:Int)) (by omega) (by omega)
 rw[aAE]at hx hrow;have hlo:=hrow.2.1.length_le;have none':(∀ s,¬ WV f l.Out y k s)->Vn f l.Out y k=none:=AjK.2;unfold Tb;simp only[Oy,hx.1,aA,Ahq]
 by_cases hdef:(Nt f k).Op=16\/(Nt f k).Op=17
 ·rw[if_pos hdef];have hA:=h.defs _ hx.2 hdef;have inner:¬ ((Nt f k).Op=17/\VN y (Nt f k).A=VN y (Nt f k).B)->Hs (QV l (k:Int) ((Nt f k).A,true) ⟨p,i,al,f,y⟩) λq=>q=Aqo (Vn f l.Out y k):=by
   intro hnm;unfold QV;rw[Oy,hrow.1,aA];refine Hs.loop (λi=>∃ j:Nat,i=(j:Int)/\j<=(NW l.Out k).length/\∀ s∈(NW l.Out k).take j,¬ WV f l.Out y k s) (λi=>(NW l.Out k).length-i.toNat) ⟨0,rfl,aAC _,λy hy=>by simp at hy⟩ ?_
   rintro _ ⟨j,rfl,hj,hno⟩;refine .dec (λhlt=>?_) λhge=>.lft (.pure ?_)
   ·have hlt:j<(NW l.Out k).length:=by omega
    have hgx:(NW l.Out k)[j]? =some (NW l.Out k)[j]:=aAA _;have hxm:=aAJ hlt;have htk:(NW l.Out k).take (j+1)=(NW l.Out k).take j++[(NW l.Out k)[j]]:=by simp_all
    generalize(NW l.Out k)[j]=s at hgx hxm htk;have hs0:=(hrow.2.1.2 s hxm).1;have hsn:=hrow.2.2 s hxm;have stp:¬ WV f l.Out y k s->∀ z∈(NW l.Out k).take (j+1),¬ WV f l.Out y k z:=by
     grind
    simp only[Oy,hgx,aA,AlL h hyl hs0 hsn,AlL h hyl hA.1 hA.2,Arq];rw[Nw (by omega)]
    refine .bne (λh1=>.cond (λh2=>.lft (.pure ?_)) λh2=>?_) λh1=>?_
    ·have hL:WV f l.Out y k s:=⟨hdef,hnm,hxm,h1,of_decide_eq_true h2⟩;rw[Vn,AvJ hgx (by simp[hL]) λz hz=>by simp_all]
     rfl
    ·exact .cnt ⟨⟨j+1,rfl,hlt,stp λh=>by rw[decide_eq_true h.2.2.2.2]at h2;cases h2⟩,by grind⟩
    ·exact .cnt ⟨⟨j+1,rfl,hlt,stp λh=>h.2.2.2.1 h1⟩,by grind⟩
   ·rw[none' λs hs=>hno s (by rw[aAi (by omega)];exact hs.2.2.1) hs]
    rfl
  refine .beq (λh17=>?_) λh17=>inner λh=>h17 h.1
  have hB:=h.Uk.uses _ hx.2 (Nt f k).B (by grind [Pl])
  rw[AkL hyl hA.1 hA.2,aA,AkL hyl hB.1 hB.2,aA];refine .beq (λh=>.pure ?_) λh=>inner λh'=>h h'.2
  rw[none' λs hs=>hs.2.1 ⟨h17,h⟩]
  rfl
 ·rw[if_neg hdef];refine .pure ?_;rw[none' λs hs=>hdef hs.1]
  rfl
theorem AsT {y:ND} (hyl:y.Off.length=f.Slots.length) {l:NS} (hl:RJ f l.Out):Hs (UU ⟨p,i,al,f,y⟩ l) (Acj f l.Out y):=by
 have hlen:=h.Uk.len';refine Hs.loop (λi=>∃ k:Nat,i=(k:Int)/\k<=f.Code.length/\∀ j<k,Vn f l.Out y j=none) (λi=>f.Code.length-i.toNat) ⟨0,rfl,aAC _,λj hj=>absurd hj (aAK _)⟩ ?_
 rintro _ ⟨k,rfl,hk,hall⟩;refine .dec (λhlt=>?_) λhge=>.lft (.pure (Or.inr ⟨λj hj=>hall j (by grind),rfl⟩))
 have hlt:k<f.Code.length:=by simp_all
 refine(Avv h hyl hl hlt).bind λq hq=>?_
 subst hq;cases hlk:Vn f l.Out y k with
 | some s=>exact .lft (.pure (Or.inl ⟨k,s,hlt,hlk,hall,rfl⟩))
 | none =>
  simp only[Aqo,cond_false];rw[Nw (by omega)]
  refine .cnt ⟨⟨k+1,rfl,hlt,λj hj=>?_⟩,by grind⟩
  grind
theorem Awl (y:ND) {l:NS} (hl:Qy l.Out):Hs (UW ⟨p,i,al,f,y⟩ l) λe=>(¬ Tj p f al y/\e=13)\/(Tj p f al y/\¬ Acc f l.Out/\e=11)\/(Tj p f al y/\Acc f l.Out/\e=0):=by
 refine(AsU h y).bind λe he=>.bne (λhne=>.pure (.inl ⟨λhs=>hne (he.2.2 hs),?_⟩)) λh0=>?_
 ·omega
 refine(AlZ h.Uk hl).bind λc hc=>.bne (λhne=>.pure (.inr (.inl ⟨he.2.1 h0,λha=>hne (hc.2.2 ha),rfl⟩))) λhc0=>.pure (.inr (.inr ⟨he.2.1 h0,hc.2.1 hc0,rfl⟩))
theorem Anh (y:ND) {l:NS} (hl:Qy l.Out):Hs (Xt p i al l y) (AeB p f al l.Out y):=by
 unfold Xt;rw[h.hi,aA];refine(Awl h y hl).bind λe he=>.bne (λhne=>.pure ?_) λh0=>?_
 ·rcases he with⟨h1,h2⟩|⟨h1,h2,h3⟩|⟨_,_,h3⟩
  ·exact .inl ⟨h1,h2⟩
  ·exact .inr (.inl ⟨h1,h2,h3⟩)
  omega
 obtain⟨hs,ha⟩:Tj p f al y/\Acc f l.Out:=by
  simp_all
 refine(AsT h hs.2.1 ha.1).bind λq hq=>.cond (λhb=>.pure (.inr (.inr (.inl ⟨hs,ha,hq.found.1 hb,rfl⟩)))) λhb=>.pure (.inr (.inr (.inr ⟨hs,ha,λk s hk hc=>?_,rfl⟩)))
 rw[hq.found.2 ⟨k,s,hk,hc⟩]at hb;cases hb
end
open Go Go.Dw Go.Proofs
theorem Awu:∀ k:Fin 17,WA ((k:Nat):Int)=Td ((k:Nat):Int)/\(Td ((k:Nat):Int)).isSome=true:=by decide +kernel
theorem AkD (n:Int):∃ b,WA n=some b/\Td n=some b:=by
 by_cases h:1<=n/\n<=16
 ·have:=Awu ⟨n.toNat,by omega⟩
  grind [Option.isSome_iff_exists]
 ·refine⟨false,?_,?_⟩
  ·grind [WA]
  ·unfold Td;have e1:(n==1)=false:=by simp;omega
   have e2:(n==2)=false:=by simp;omega
   have e3:(n==4)=false:=by simp;omega
   have e4:(n==8)=false:=by simp;omega
   have e5:(n==16)=false:=by simp;omega
   grind
def Pw (n:Int):Prop:=∃ i:Nat,i<=24/\n=(2 ^ i:Nat)
theorem AkA (n:Int) (j:Nat) (hj:j<=24):RQ n ((2 ^ j:Nat):Int)=if n=(2 ^ j:Nat)then some (.inr true)else some (.inl ((2 ^ (j+1):Nat):Int)):=by
 have h1:2 ^ j<=2 ^ 24:=aAN (by decide) hj
 have h2:(2 ^ j:Nat)<=16777216:=by omega
 have w:IntKind.i64.wrap (((2 ^ j:Nat):Int)*2)=((2 ^ (j+1):Nat):Int):=by
  grind [wrap64]
 unfold RQ;have hd:decide (((2 ^ j:Nat):Int)<=16777216)=true:=by grind
 simp_all
theorem AuB (n:Int):∀ (d j:Nat),j+d<=24->n=(2 ^ (j+d):Nat)->NB (λs=>RQ n s) ((2 ^ j:Nat):Int)=some true:=by
 intro d
 induction d with
 | zero =>
  intro j hj hn;rw[Pm];rw[AkA n j (by omega),if_pos (by omega)]
 | succ d ih =>
  intro j hj hn;rw[Pm];rw[AkA n j (by omega),if_neg]
  ·grind
  ·have:2 ^ j<2 ^ (j+(d+1)):=Nat.pow_lt_pow_right (by decide) (by omega)
   omega
theorem AiF (n:Int) (h:¬ Pw n):∀ (d j:Nat),j+d=25->NB (λs=>RQ n s) ((2 ^ j:Nat):Int)=some false:=by
 intro d
 induction d with
 | zero =>
  simp_all[Pm,RQ]
 | succ d ih =>
  intro j hj;rw[Pm];rw[AkA n j (by omega),if_neg (λe=>h ⟨j,by omega,e⟩)]
  grind
theorem Axz (h:2 ^ i<=16777216):i<=24:=by
 by_cases hi:i<=24
 ·exact hi
 ·have:2 ^ 25<=2 ^ i:=aAN (by decide) (by omega)
  omega
theorem AiB (n:Int):∃ b,Qq n=some b/\QP n=some b:=by
 have hr:QP n=NB (λs=>RQ n s) ((2 ^ 0:Nat):Int):=rfl
 by_cases h:1<=n/\n<=16777216
 ·obtain⟨m,rfl⟩:∃ m:Nat,n=m:=⟨n.toNat,by omega⟩
  have e1:Qq (m:Int)=some (decide (m &&& (m-1)=0)):=by
   unfold Qq;have h1:((m:Int)>=1):=h.1;have h2:((m:Int)<=16777216):=h.2;have w:IntKind.i64.wrap ((m:Int)-1)=((m-1:Nat):Int):=by grind [wrap64]
   have t1:(aAO IntKind.i64.bits (m:Int)).toNat=m:=by
    show(aAO 64 (m:Int)).toNat=m
    grind
   have t2:(aAO IntKind.i64.bits ((m-1:Nat):Int)).toNat=m-1:=by
    grind
   have hle:m &&& (m-1)<=m:=Nat.and_le_left;have w2:IntKind.i64.wrap ((m &&& (m-1):Nat):Int)=((m &&& (m-1):Nat):Int):=wrap64 (by omega) (by omega)
   rw[decide_eq_true h1,cond_true,decide_eq_true h2,cond_true,w,aAb,t1,t2,w2];congr 1
   grind
  by_cases hp:m &&& (m-1)=0
  ·obtain⟨i,hi⟩:=(aAV (show m≠0 by omega)).1 hp
   refine⟨true,by simp_all,?_⟩
   exact AuB _ i 0 (by have:=Axz (i:=i) (by omega);omega) (by simp_all)
  ·refine⟨false,by simp_all,?_⟩
   refine AiF _ (λ⟨i,_,hi⟩=>hp ?_) 25 0 (by omega)
   exact(aAV (show m≠0 by omega)).2 ⟨i,by omega⟩
 ·refine⟨false,?_,?_⟩
  ·grind [Qq]
  ·rw[hr];refine AiF _ (λ⟨i,hi24,hi⟩=>h ?_) 25 0 (by omega)
   have h1:2 ^ i<=2 ^ 24:=aAN (by decide) hi24
   grind
noncomputable def YN (x:NA):Bool:=(Td x.Size).getD false&&(QP x.Align).getD false
theorem AtT (x:NA):TF x=some (!YN x):=by
 obtain⟨a,a1,a2⟩:=AkD x.Size;obtain⟨b,b1,b2⟩:=AiB x.Align
 grind [TF,YN]
def AjA (s:List NA) (e:Int):Prop:=(512<s.length/\e=3)\/(s.length<=512/\(∀ x∈s,YN x=true)/\e=0)\/(s.length<=512/\(∃ x∈s,YN x=false)/\e=5)
theorem AjA.one {s:List NA} {b:Int} (h:AjA s a) (k:AjA s b):a=b:=by
 rcases h with⟨h1,h2⟩|⟨h1,h2,h3⟩|⟨h1,⟨x,h2,h3⟩,h4⟩<;>rcases k with⟨k1,k2⟩|⟨k1,k2,k3⟩|⟨k1,⟨y,k2,k3⟩,k4⟩<;>first
  | omega
  | (simp_all)
  | simp_all
theorem Aqj (s:List NA):Hs (Uj s) (AjA s):=by
 refine .dec (λh=>.pure (.inl ⟨by omega,rfl⟩)) λh=>?_
 have hl:s.length<=512:=by omega
 have key:Hs (NB (λst=>Pv s st) 0) λr=>(r= -1/\∀ x∈s,YN x=true)\/(0<=r/\∃ x∈s,YN x=false):=by
  refine Hs.loop (λi=>0<=i/\i<=s.length/\∀ (j:Nat) x,(j:Int)<i->s[j]? =some x->YN x=true) (λi=>s.length-i.toNat) ⟨by omega,by omega,λj x h=>by omega⟩ ?_
  rintro i ⟨h0,h1,h2⟩;refine .dec (λhlt=>?_) λhlt=>?_
  ·refine(Hs.ix h0 hlt λx hx=>hx).bind λx hx=>?_
   rw[AtT,aA];refine .cond (λhb=>.lft (.pure (.inr ⟨h0,x,aAB hx,by simp_all⟩))) λhb=>?_
   have w:IntKind.i64.wrap (i+1)=i+1:=wrap64 (by omega) (by omega)
   rw[w];refine .cnt ⟨⟨by omega,by omega,λj y hj hy=>?_⟩,by grind⟩
   grind
  ·refine .lft (.pure (.inl ⟨rfl,λx hx=>?_⟩))
   grind [aAY]
 refine Hs.bind (P:=λb=>(b=false/\∀ x∈s,YN x=true)\/(b=true/\∃ x∈s,YN x=false)) (key.bind λr hr=>.pure ?_) λb hb=>?_
 ·grind
 ·rcases hb with⟨rfl,h⟩|⟨rfl,h⟩
  ·exact .pure (.inr (.inl ⟨hl,h,rfl⟩))
  ·exact .pure (.inr (.inr ⟨hl,h,rfl⟩))
theorem AoU (s:List NA):Hs (Vj s) (AjA s):=by
 refine .dec (λh=>.pure (.inl ⟨by omega,rfl⟩)) λh=>?_
 have hl:s.length<=512:=by omega
 refine Hs.loop (λi=>0<=i/\i<=s.length/\∀ (j:Nat) x,(j:Int)<i->s[j]? =some x->YN x=true) (λi=>s.length-i.toNat) ⟨by omega,by omega,λj x h=>by omega⟩ ?_
 rintro i ⟨h0,h1,h2⟩;refine .dec (λhlt=>?_) λhlt=>?_
 ·refine(Hs.ix h0 hlt λx hx=>hx).bind λx hx=>?_
  obtain⟨a,a1,a2⟩:=AkD x.Size;obtain⟨b,b1,b2⟩:=AiB x.Align;have hg:YN x=(a&&b):=by grind [YN]
  rw[a2,aA];have hx':ixO s i=some x:=by grind [Pa]
  cases a
  ·exact .lft (.pure (.inr (.inr ⟨hl,⟨x,aAB hx,hg⟩,rfl⟩)))
  ·rw[hx',aA,b2,aA];cases b
   ·exact .lft (.pure (.inr (.inr ⟨hl,⟨x,aAB hx,hg⟩,rfl⟩)))
   ·simp only[aAP,cond_false];have w:IntKind.i64.wrap (i+1)=i+1:=wrap64 (by omega) (by omega)
    rw[w];refine .cnt ⟨⟨by omega,by omega,λj y hj hy=>?_⟩,by grind⟩
    grind
 ·refine .lft (.pure (.inr (.inl ⟨hl,λx hx=>?_,rfl⟩)))
  grind [aAY]
theorem Anv (s:List NA):∃ e,Uj s=some e/\Vj s=some e/\(e=0->s.length<=512):=by
 obtain⟨a,a1,a2⟩:=Aqj s;obtain⟨b,b1,b2⟩:=AoU s;obtain rfl:=a2.one b2;exact⟨a,a1,b1,λh=>by rcases a2 with h1|h1|h1<;>omega⟩
def Aks (s:List NA):Int:=s.foldl (λa x=>OM a x.Align) 16
theorem AmM (s:List NA):∃ a,Xq s=some a/\TW s=some a:=by
 obtain⟨e,h1,h2,h3⟩:=Anv s;unfold Xq TW;rw[h1,h2,aA,aA]
 by_cases he:e=0
 ·subst he;have hl:=h3 rfl;simp only[beq_self_eq_true,cond_true,bne_self_eq_false,cond_false];have p1:Hs (NB (λq=>AbB s q.1 q.2) (0,16)) λa=>a=Aks s:=by
   refine Hs.loop (λq=>∃ k:Nat,q.1=(k:Int)/\k<=s.length/\q.2=Aks (s.take k)) (λq=>s.length-q.1.toNat) ⟨0,rfl,aAC _,rfl⟩ ?_
   rintro⟨_,_⟩ ⟨k,rfl,hk,rfl⟩;refine .dec (λhlt=>?_) λhge=>.lft (.pure ?_)
   ·have hlt:k<s.length:=by omega
    rw[Oy,aAA hlt,aA,Nw (by omega)]
    refine .cnt ⟨⟨k+1,rfl,hlt,?_⟩,by grind⟩
    grind [Aks,aAS]
   ·have hkk:k=s.length:=by omega
    subst hkk;show Aks _=_;simp_all
  have p2:Hs (NB (λq=>ZD s q.1 q.2) (16,0)) λa=>a=Aks s:=by
   refine Hs.loop (λq=>∃ k:Nat,q.2=(k:Int)/\k<=s.length/\q.1=Aks (s.take k)) (λq=>s.length-q.2.toNat) ⟨0,rfl,aAC _,rfl⟩ ?_
   rintro⟨_,_⟩ ⟨k,rfl,hk,rfl⟩;refine .dec (λhlt=>?_) λhge=>.lft (.pure ?_)
   ·have hlt:k<s.length:=by omega
    rw[Oy,aAA hlt,aA,Nw (by omega)]
    refine .cnt ⟨⟨k+1,rfl,hlt,?_⟩,by grind⟩
    grind [Aks,aAS]
   ·have hkk:k=s.length:=by omega
    subst hkk;show Aks _=_;simp_all
  obtain⟨a,q1,rfl⟩:=p1;obtain⟨b,q2,rfl⟩:=p2;simp_all
 grind
theorem Ary (p:Nq) (hp:p.Funcs.length<=1000000):∃ a,SF p=some a/\Sk p=some a:=by
 have step:∀ k≤p.Funcs.length,∃ a:Int,∀ b:Int,True:=λ_ _=>⟨0,λ_=>trivial⟩
 let al:Nm->Int:=λf=>Classical.choose (AmM f.Slots)
 have hal:∀ f:Nm,Xq f.Slots=some (al f)/\TW f.Slots=some (al f):=λf=>Classical.choose_spec (AmM f.Slots)
 let A:List Nm->Int:=λl=>l.foldl (λa f=>OM a (al f)) 16
 have hA:∀ k (hk:k<p.Funcs.length),A (p.Funcs.take (k+1))=OM (A (p.Funcs.take k)) (al p.Funcs[k]):=λk hk=>by
  grind [aAS]
 have p1:Hs (SF p) λa=>a=A p.Funcs:=by
  refine Hs.loop (λq=>∃ k:Nat,q.2=(k:Int)/\k<=p.Funcs.length/\q.1=A (p.Funcs.take k)) (λq=>p.Funcs.length-q.2.toNat) ⟨0,rfl,aAC _,rfl⟩ ?_
  rintro⟨_,_⟩ ⟨k,rfl,hk,rfl⟩;refine .dec (λhlt=>?_) λhge=>.lft (.pure ?_)
  ·have hlt:k<p.Funcs.length:=by omega
   rw[Oy,aAA hlt,aA,(hal _).1,aA,Nw (by omega)]
   exact .cnt ⟨⟨k+1,rfl,hlt,(hA k hlt).symm⟩,by grind⟩
  ·have hkk:k=p.Funcs.length:=by omega
   subst hkk;show A _=_;simp_all
 have p2:Hs (Sk p) λa=>a=A p.Funcs:=by
  refine Hs.loop (λq=>∃ k:Nat,q.2=(k:Int)/\k<=p.Funcs.length/\q.1=A (p.Funcs.take k)) (λq=>p.Funcs.length-q.2.toNat) ⟨0,rfl,aAC _,rfl⟩ ?_
  rintro⟨_,_⟩ ⟨k,rfl,hk,rfl⟩;refine .dec (λhlt=>?_) λhge=>.lft (.pure ?_)
  ·have hlt:k<p.Funcs.length:=by omega
   rw[Oy,aAA hlt,aA,(hal _).2,aA,Nw (by omega)]
   exact .cnt ⟨⟨k+1,rfl,hlt,(hA k hlt).symm⟩,by grind⟩
  ·have hkk:k=p.Funcs.length:=by omega
   subst hkk;show A _=_;simp_all
 obtain⟨a,q1,rfl⟩:=p1;obtain⟨b,q2,rfl⟩:=p2;simp_all
theorem ArY (p:Nq) {i:Int} (f:Nm) (hp:p.Funcs.length<=1000000) (h0:0<=i) (h1:i<p.Funcs.length):Tn p i f=some ⟨p.Funcs.set i.toNat f⟩:=by
 unfold Tn ApZ YY
 grind [Oa]
theorem AqN (p:Nq) {i:Int} (f:Nm) (hp:p.Funcs.length<=1000000) (h0:0<=i) (h1:i<p.Funcs.length):XZ p i f=some ⟨p.Funcs.set i.toNat f⟩:=by
 grind [XZ,AaI,Oa]
structure AlU (p:Nq) (i:Int) (f:Nm):Prop where
 hi:ixO p.Funcs i=some f
 arg:AaB p f
 so:∀ x∈f.Slots,AaC x
 sl:f.Slots.length<=40
 Uk:NZ f
 defs:Qx f
 ml:YR f
 last:SQ f
 calls:Adg p.Funcs.length f
 pl:p.Funcs.length<=1000
 all:∀ g∈p.Funcs,Aai g.Slots
theorem PG.opt (h:PG p) {i:Int} (hi:ixO p.Funcs i=some f):AlU p i f:=by
 obtain⟨i0,i1,hif⟩:=WK hi;have hm:=aAB hif;have hg:=h.all f hm;have hl:=h.few;exact⟨hi,h.args hm,hg.slot,hg.slots,hg.Uk,hg.defs,hg.AhA,hg.last,by have:=hg.calls;simp_all,by omega,λg hgm=>(h.all g hgm).AyT⟩
section
variable {p:Nq} {i:Int} {f:Nm} (h:AlU p i f)
 include h
theorem AlU.align:∃ al,SF p=some al/\Sk p=some al/\QX al/\16<=al/\al<=16777216:=by
 obtain⟨al,eal,eal'⟩:=Ary p (by have:=h.pl;omega)
 obtain⟨a,e,ha⟩:=Awb (B:=16777216) (by omega) h.pl λg hg=>⟨by have:=(h.all g hg).1;omega,λx hx=>⟨((h.all g hg).2 x hx).1,((h.all g hg).2 x hx).2.1⟩⟩
 simp_all
theorem AlU.lay {al:Int} (ha:QX al/\16<=al/\al<=16777216):Aia p i f al:=⟨h.hi,h.arg,⟨h.sl,λx hx=>(h.so x hx).al⟩,ha.1,ha.2.1,ha.2.2,h.Uk,h.defs,h.ml⟩
theorem AlU.next {r:NF} (hr:SS f r) {q:Nm} (ha:Qv f r=some (q,0)) (hx:Abk f r (q,0)) {al:Int} (hal:QX al/\16<=al/\al<=16777216):Aia ⟨p.Funcs.set i.toNat q⟩ i q al/\q.Params=f.Params/\Adg p.Funcs.length q/\(∀ x∈q.Slots,AaC x):=by
 obtain⟨i0,i1,hif⟩:=WK h.hi;have hf:=h.Uk;obtain⟨qf,qd,qc⟩:NZ q/\Qx q/\Adg p.Funcs.length q:=by
  obtain⟨q',e,_,h1,h2,h3⟩:=Are hf h.defs h.last h.calls hr;simp_all
 have hml:=hx.AxZ hf h.defs h.ml hr;obtain⟨_,hqp,used,to',pl,hu,hsx,hn,hpl,hcode⟩:=id hx;have hslot:=Xd.Azk h.so hr.1.1 hsx;have hul:q.Slots.length<=f.Slots.length:=by
  rw[hsx.len];have:=AkI (l:=used) (a:=0) (n:=(f.Slots.length:Int)) hu.1.1 λv hv=>by
   obtain⟨_,j,hj,hk,hv'⟩:=(hu.2 v).1 hv;exact Abg hf h.defs hr.1 (hf.at (j:=(j:Int)) (by omega) (by omega)).2 v hv'
  omega
 have harg:AaB ⟨p.Funcs.set i.toNat q⟩ q:=by
  intro y hy;rw[hcode]at hy;obtain⟨pn,hp⟩:=aAG hy;obtain⟨j,h1,_,_,rfl⟩:=(VB (f:=f) (keep:=r.Keep) (to:=to') (pl:=pl) _ (by rw[hr.2.1];omega)).2 pn y hp
  have hm:=(hf.at (j:=(j:Int)) (by omega) (by omega)).2
  rw[Aoy,AbW];refine⟨λe=>?_,λe=>?_⟩
  ·rw[Arf (.inl e)];exact(h.arg _ hm).1 e
  ·rw[Arf (.inr e)];obtain⟨a0,gg,hgg,hpp⟩:=(h.arg _ hm).2 e
   grind
 have hset:ixO (⟨p.Funcs.set i.toNat q⟩:Nq).Funcs i=some q:=by
  grind [Pa]
 have hsl:Aai q.Slots:=⟨by have:=h.sl;omega,λx hx=>(hslot x hx).al⟩
 exact⟨⟨hset,harg,hsl,hal.1,hal.2.1,hal.2.2,qf,qd,hml⟩,hqp,qc,hslot⟩
end
open Go Go.Dw Go.Proofs
attribute [local simp] Oa aAD
inductive AaO (n size params frames:Int):Av->Prop
 | load (a o s:Int):Tt a->s∈([1,2,4,8,16]:List Int)->0<=o->o+s<=size+16*params->AaO n size params frames ⟨15,a,o,s,0⟩
 | store (o b s:Int):Tt b->s∈([1,2,4,8,16]:List Int)->0<=o->o+s<=size->AaO n size params frames ⟨16,o,b,s,0⟩
 | move (o o' s:Int):s∈([1,2,4,8,16]:List Int)->0<=o->o+s<=size->0<=o'->o'+s<=size->AaO n size params frames ⟨17,o,o',s,0⟩
 | const (a w:Int):Tt a->AaO n size params frames ⟨0,a,0,0,w⟩
 | bin (op a b c:Int):2<=op->op<12->Tt a->Tt b->Tt c->AaO n size params frames ⟨op,a,b,c,0⟩
 | one (op a:Int):(op=13\/op=14)->Tt a->AaO n size params frames ⟨op,a,0,0,0⟩
 | two (op a b:Int):(op=1\/op=12)->Tt a->Tt b->AaO n size params frames ⟨op,a,b,0,0⟩
 | call (j:Int):0<=j->j<frames->AaO n size params frames ⟨22,j,0,0,0⟩
 | jump (t:Int):0<=t->t<n->AaO n size params frames ⟨20,t,0,0,0⟩
 | branch (a t:Int):Tt a->0<=t->t<n->AaO n size params frames ⟨21,a,t,0,0⟩
 | ret:AaO n size params frames ⟨23,0,0,0,0⟩
 | trap (w:Int):AaO n size params frames ⟨24,0,0,0,w⟩
theorem QG (n l:Int):Rl n l=some (decide (0<=n/\n<l)):=by
 grind [Rl]
theorem Wa:∀ {s:List Int},s.length<=1000->(∀ x∈s,0<=x/\x<8)->Pd s=some false:=by
 intro s hl hs;unfold Pd;have hh:Hs (Pt s) λr=>r= -1:=by
  unfold Pt;refine Hs.loop (λi=>∃ k:Nat,i=(k:Int)/\k<=s.length) (λi=>s.length-i.toNat) ⟨0,rfl,aAC _⟩ λi ⟨k,hi,hk⟩=>?_
  subst hi;unfold QT;refine .dec (λhlt=>?_) λhlt=>.lft (.pure rfl)
  refine(Hs.ix (l:=s) (i:=(k:Int)) (by omega) hlt λz hz=>hz).bind λx hx=>?_
  have hr:=hs x (aAB hx);have hb:Ul x=some false:=by grind [Ul,QG]
  rw[hb,aA];refine .cond (λe=>absurd e (by simp)) λe=>.cnt ⟨⟨k+1,Nw (by omega),by omega⟩,?_⟩
  grind [Nw]
 obtain⟨r,h1,rfl⟩:=hh;rw[h1];rfl
theorem AkO (h:s∈([1,2,4,8,16]:List Int)):WA s=some true/\1<=s/\s<=16:=by
 simp only[List.mem_cons,List.not_mem_nil,or_false]at h;rcases h with rfl|rfl|rfl|rfl|rfl<;>exact⟨by decide +kernel,by decide,by decide⟩
section
variable {f:OL} {n size params:Int} (hn:(f.Frame.Code.length:Int)=n) (hs:f.Frame.Size=size) (hp:f.Frame.Params=params) (hs0:0<=size) (hs1:size<=2147483519) (hp0:0<=params) (hp1:params<=8)
 include hn hs hp hs0 hs1 hp0 hp1
theorem Azf (h:AaO n size params f.frames x):OR f x=some 0:=by
 have hw:IntKind.i64.wrap (f.Frame.Size+IntKind.i64.wrap (16*f.Frame.Params))=size+16*params:=by
  grind [wrap64]
 have ins:∀ {o s k:Int},0<=o->1<=s->o+s<=k->k<=2147483647->Sm ⟨o,s⟩ k=some true:=by
  intro o s k h0 h1 h2 h3;rw[AmX];congr 1;rw[decide_eq_true_eq]
  grind [InI,UH]
 cases h with
 | load a o s ha hsz h0 h1 =>
  obtain⟨z1,z2,z3⟩:=AkO hsz;obtain⟨a0,a1⟩:=ha;have hr:=Wa (s:=[a]) (by simp) (by simp;omega)
  have hi:=ins h0 z2 h1 (by omega)
  simp[OR,QG,OH,Qu,Ph,Pb,ON,Qk,PA,OP,OT,OG,hr,OD,z1,OE,QZ,Qt,hw,hi,Ot]
 | store o b s hb hsz h0 h1 =>
  obtain⟨z1,z2,z3⟩:=AkO hsz;obtain⟨a0,a1⟩:=hb;have hr:=Wa (s:=[b]) (by simp) (by simp;omega)
  have hi:=ins h0 z2 h1 (by omega)
  simp[OR,QG,OH,Qu,Ph,Pb,ON,Qk,PA,OP,OT,OG,hr,OD,z1,OE,QZ,Qt,hs,hi,Ot]
 | move o o' s hsz h0 h1 h2 h3 =>
  obtain⟨z1,z2,z3⟩:=AkO hsz;have hr:=Wa (s:=[]) (by simp) (by simp)
  have hi:=ins h0 z2 h1 (by omega)
  have hi':=ins (k:=size+16*params) h2 z2 (by omega) (by omega)
  have hw2:=hw;rw[hs]at hw2;simp[OR,QG,OH,Qu,Ph,Pb,ON,Qk,PA,OP,OT,OG,hr,OD,z1,OE,QZ,Qt,hw2,hs,hi,hi',Ot]
 | const a w ha =>
  obtain⟨a0,a1⟩:=ha;have hr:=Wa (s:=[a]) (by simp) (by simp;omega)
  simp[OR,QG,OH,Qu,Ph,Pb,PC,ON,Qk,PA,OP,OT,OG,hr,OD,OE,QZ,Qt,Ot]
 | bin op a b c h0 h1 ha hb hc =>
  obtain⟨a0,a1⟩:=ha;obtain⟨b0,b1⟩:=hb;obtain⟨c0,c1⟩:=hc;have hr:=Wa (s:=[a,b,c]) (by simp) (by simp;omega)
  have ho:op=2\/op=3\/op=4\/op=5\/op=6\/op=7\/op=8\/op=9\/op=10\/op=11:=by omega
  rcases ho with rfl|rfl|rfl|rfl|rfl|rfl|rfl|rfl|rfl|rfl<;>simp[OR,QG,OH,Qu,Ph,Pb,ON,Qk,PA,OP,hr,OD,OE,QZ,Qt,Ot]
 | one op a ho ha =>
  obtain⟨a0,a1⟩:=ha;have hr:=Wa (s:=[a]) (by simp) (by simp;omega)
  rcases ho with rfl|rfl<;>simp[OR,QG,OH,Qu,Ph,Pb,PC,ON,Qk,PA,OP,OT,OG,hr,OD,OE,QZ,Qt,Ot]
 | two op a b ho ha hb =>
  obtain⟨a0,a1⟩:=ha;obtain⟨b0,b1⟩:=hb;have hr:=Wa (s:=[a,b]) (by simp) (by simp;omega)
  rcases ho with rfl|rfl<;>simp[OR,QG,OH,Qu,Ph,Pb,PC,ON,Qk,PA,OP,OT,OG,hr,OD,OE,QZ,Qt,Ot]
 | call j h0 h1 =>
  have hr:=Wa (s:=[]) (by simp) (by simp)
  simp[OR,QG,OH,Qu,Ph,Pb,PC,ON,Qk,PA,OP,OT,OG,hr,OD,OE,QZ,Qt,Ot,h0,h1]
 | jump t h0 h1 =>
  have hr:=Wa (s:=[]) (by simp) (by simp)
  simp[OR,QG,OH,Qu,Ph,Pb,PC,ON,Qk,PA,OP,OT,OG,hr,OD,OE,QZ,Qt,Ot,h0,h1,hn]
 | branch a t ha h0 h1 =>
  obtain⟨a0,a1⟩:=ha;have hr:=Wa (s:=[a]) (by simp) (by simp;omega)
  simp[OR,QG,OH,Qu,Ph,Pb,PC,ON,Qk,PA,OP,OT,OG,hr,OD,OE,QZ,Qt,Ot,h0,h1,hn]
 | ret =>
  have hr:=Wa (s:=[]) (by simp) (by simp)
  simp[OR,QG,OH,Qu,Ph,Pb,PC,ON,Qk,PA,OP,OT,OG,hr,OD,OE,QZ,Qt,Ot]
 | trap w =>
  have hr:=Wa (s:=[]) (by simp) (by simp)
  simp[OR,QG,OH,Qu,Ph,Pb,PC,ON,Qk,PA,OP,OT,OG,hr,OD,OE,QZ,Qt,Ot]
end
open Go Go.Dw Go.Proofs
attribute [local simp] Oa aAD
structure Avk (frames:List OA) (al:Int) (fr:OA):Prop where
 par:0<=fr.Params/\fr.Params<=8
 size:0<=fr.Size/\fr.Size<=2147483519
 al_:fr.Size.tmod al=0
 len:1<=fr.Code.length/\fr.Code.length<=1024
 code:∀ x∈fr.Code,AaO fr.Code.length fr.Size fr.Params frames.length x
 last:∀ x,fr.Code[fr.Code.length-1]? =some x->PD x.Op=some true
 call:∀ x∈fr.Code,x.Op=22->∃ g,ixO frames x.A=some g/\0<=g.Params/\g.Params<=8/\16*g.Params<=fr.Size
section
variable {t:PI} (hal:Qq t.Align=some true) (h16:16<=t.Align) (hl:1<=t.Frames.length/\t.Frames.length<=80) (hfr:∀ fr∈t.Frames,Avk t.Frames t.Align fr)
 include hal h16 hl hfr
theorem Aum (hi:t.Frames[i]? =some fr):AeF t (i:Int)=some (⟨fr,t.Align,t.Frames.length⟩,true):=by
 have _:=hl;have h:=hfr fr (aAB hi);have hil:=(aAF.1 hi).1;have hp:=h.par;have hs:=h.size;unfold AeF;rw[QG,decide_eq_true (by omega),aA]
 rw[Pa _ (by omega),aAE,hi,aA,hal,aA,cond_true,QG,decide_eq_true (by omega),aA,cond_true,QG,decide_eq_true (by omega),aA,cond_true,Oa (by omega),h.al_]
 rfl
theorem Auk (hi:t.Frames[i]? =some fr):Wp t (i:Int)=some 0:=by
 have h:=hfr fr (aAB hi);have hlen:=h.len;unfold Wp;rw[Aum hal h16 hl hfr hi,aA];simp only[aAP,cond_false];rw[decide_eq_false (by omega),cond_false]
 have hh:Hs (NB (λs=>Wq (⟨fr,t.Align,t.Frames.length⟩,true) s) 0) λr=>r=0:=by
  refine Hs.loop (λi=>∃ k:Nat,i=(k:Int)/\k<=fr.Code.length) (λi=>fr.Code.length-i.toNat) ⟨0,rfl,aAC _⟩ λi ⟨k,hi,hk⟩=>?_
  subst hi;unfold Wq;dsimp only;refine .dec (λhlt=>?_) λhlt=>.lft ?_
  ·refine(Hs.ix (l:=fr.Code) (i:=(k:Int)) (by omega) hlt λz hz=>hz).bind λx hx=>?_
   simp only[aAE]at hx;rw[Azf (f:=⟨fr,t.Align,t.Frames.length⟩) rfl rfl rfl h.size.1 h.size.2 h.par.1 h.par.2 (h.code x (aAB hx)),aA];refine .bne (λe=>absurd rfl e) λe=>.cnt ⟨⟨k+1,Nw (by omega),by omega⟩,?_⟩
   grind [Nw]
  ·refine .beq (λe=>by omega) λe=>?_
   obtain⟨x,hx⟩:∃ x,fr.Code[fr.Code.length-1]? =some x:=⟨fr.Code[fr.Code.length-1]'(by omega),aAA (by omega)⟩
   rw[wrap64 (by omega) (by omega),Pa _ (by omega),show((fr.Code.length:Int)-1).toNat=fr.Code.length-1 by omega,hx,aA,h.last x hx,aA]
   exact .pure rfl
 obtain⟨r,h1,rfl⟩:=hh;exact h1
theorem Aui (h:Avk t.Frames t.Align fr):VA ⟨fr,t.Align,t.Frames.length⟩ t=some true:=by
 have _:=hal;have _:=h16;have _:=hl;have _:=hfr;have hlen:=h.len;unfold VA OY;have hh:Hs (OK fr.Code t ⟨fr,t.Align,t.Frames.length⟩) λr=>r= -1:=by
  unfold OK;refine Hs.loop (λi=>∃ k:Nat,i=(k:Int)/\k<=fr.Code.length) (λi=>fr.Code.length-i.toNat) ⟨0,rfl,aAC _⟩ λi ⟨k,hi,hk⟩=>?_
  subst hi;unfold PN;refine .dec (λhlt=>?_) λhlt=>.lft (.pure rfl)
  refine(Hs.ix (l:=fr.Code) (i:=(k:Int)) (by omega) hlt λz hz=>hz).bind λx hx=>?_
  simp only[aAE]at hx;have hb:RA x t ⟨fr,t.Align,t.Frames.length⟩=some false:=by
   unfold RA
   by_cases e:x.Op=22
   ·obtain⟨g,hg,g0,g1,g2⟩:=h.call x (aAB hx) e;rw[show(x.Op==22)=true by simp[e],cond_true,hg,aA,wrap64 (by omega) (by omega)]
    simp_all
   simp_all
  rw[hb,aA];refine .cond (λe=>absurd e (by simp)) λe=>.cnt ⟨⟨k+1,Nw (by omega),by omega⟩,?_⟩
  grind [Nw]
 obtain⟨r,h1,rfl⟩:=hh;rw[h1];rfl
theorem Auj (h0:∀ fr,t.Frames[0]? =some fr->fr.Params=0):ZC t=some 0:=by
 obtain⟨x,hx⟩:∃ x,t.Frames[0]? =some x:=⟨t.Frames[0]'(by omega),aAA (by omega)⟩
 unfold ZC;rw[decide_eq_false (by omega),cond_false,show((t.Frames.length:Int)==0)=false by grind,cond_false,hal,aA]
 rw[decide_eq_false (by omega)]
 unfold Yi;rw[cond_false,Pa _ (by omega)]
 simp only[Int.toNat_zero,hx,aA,h0 x hx,bne_self_eq_false,cond_false];have hh:Hs (AaE t) λr=>r=0:=by
  refine Hs.loop (λi=>∃ k:Nat,i=(k:Int)/\k<=t.Frames.length) (λi=>t.Frames.length-i.toNat) ⟨0,rfl,aAC _⟩ λi ⟨k,hi,hk⟩=>?_
  subst hi;refine .dec (λhlt=>?_) λhlt=>.lft ?_
  ·obtain⟨x,hx⟩:∃ x,t.Frames[k]? =some x:=⟨t.Frames[k]'(by omega),aAA (by omega)⟩
   rw[Auk hal h16 hl hfr hx,aA];refine .bne (λe=>absurd rfl e) λe=>.cnt ⟨⟨k+1,Nw (by omega),by omega⟩,?_⟩
   grind [Nw]
  ·refine Hs.loop (λi=>∃ k:Nat,i=(k:Int)/\k<=t.Frames.length) (λi=>t.Frames.length-i.toNat) ⟨0,rfl,aAC _⟩ λi ⟨k,hi,hk⟩=>?_
   subst hi;unfold AdS;refine .dec (λhlt=>?_) λhlt=>.lft (.pure rfl)
   obtain⟨x,hx⟩:∃ x,t.Frames[k]? =some x:=⟨t.Frames[k]'(by omega),aAA (by omega)⟩
   rw[Aum hal h16 hl hfr hx,aA];simp only;rw[Aui hal h16 hl hfr (hfr x (aAB hx)),aA];refine .cond (λe=>absurd e (by simp)) λe=>.cnt ⟨⟨k+1,Nw (by omega),by omega⟩,?_⟩
   grind [Nw]
 obtain⟨r,h1,rfl⟩:=hh;exact h1
end
open Go Go.Dw Go.Proofs
attribute [local simp] Oa aAD
def Pk (f:Nm) (y:ND) (x:Av):Av :=
 if x.Op=15 then⟨15,x.A,VN y x.B,Pg f x.B,0⟩
 else if x.Op=16 then⟨16,VN y x.A,x.B,Pg f x.A,0⟩
 else if x.Op=17 then⟨17,VN y x.A,VN y x.B,Pg f x.A,0⟩
 else if x.Op=18 then⟨16,16*x.A,x.B,16,0⟩
 else if x.Op=19 then⟨15,x.A,y.Size+16*x.B,16,0⟩
 else x
theorem Asn (p:Nq) (n:Int) (x:Av):n<=VT p n x:=by
 unfold VT;split
 ·simp_all[Ahz]
 ·split
  all_goals simp_all[Ahz]
theorem AfS {p:Nq} {f:Nm}:∀ {m k:Nat},k<=m->m<=f.Code.length->PJ p f k<=PJ p f m
 | 0,k,h,_=>by simp_all
 | m+1,k,h,hm=>by
  by_cases e:k=m+1
  ·simp_all
  ·have h1:=AfS (p:=p) (f:=f) (m:=m) (k:=k) (by omega) (by omega)
   have h2:=Asn p (PJ p f m) (f.Code[m]'(by omega))
   grind [We]
theorem ArK (hx:x∈f.Code):(x.Op=18->x.A+1<=PJ p f f.Code.length)/\(x.Op=22->∀ g,p.Funcs[x.A.toNat]? =some g->g.Params<=PJ p f f.Code.length):=by
 obtain⟨k,hk⟩:=aAG hx;obtain⟨hkl,he⟩:=aAF.1 hk;have hm:=AfS (p:=p) (f:=f) (m:=f.Code.length) (k:=k+1) (by omega) (aAM _)
 rw[We hkl,he]at hm;unfold VT at hm;constructor
 ·intro h;have:=(Ahz (PJ p f k) (x.A+1)).2;omega
 ·intro h g hg;rw[if_neg (by omega),if_pos h,hg]at hm
  have:=(Ahz (PJ p f k) g.Params).2
  grind
section
variable {nf:Int} {p:Nq} {f:Nm} {al:Int} {y:ND} (hg:GW nf f) (hy:Tj p f al y) (hs:y.Size<=1100000000)
 include hg hy hs
theorem Aww (h0:0<=s) (h1:s<f.Slots.length):ixO y.Off s=some (VN y s)/\(∃ z,ixO f.Slots s=some z/\z.Size=Pg f s)/\Pg f s∈([1,2,4,8,16]:List Int)/\0<=VN y s/\VN y s+Pg f s<=y.Size:=by
 have _:=hs;obtain⟨_,hl,hpl,_⟩:=hy;obtain⟨o,z,e1,e2,e3,e4,e5⟩:=hpl s.toNat (by omega)
 have ho:VN y s=o:=by grind [VN]
 obtain⟨z',e6,e7⟩:=Asc (f:=f) h0 h1;rw[Pa _ h0,e2]at e6;cases e6;have hz:=hg.slot z (aAB e2);unfold InI UH at e5;simp only at e5;refine⟨AkL hl h0 h1,⟨z,by grind [Pa],e7⟩,?_,by omega,by omega⟩
 rw[<- e7];exact hz.1
theorem Auf (hx:x∈f.Code):Pn f y x=some (Pk f y x)/\(0<=x.Op/\x.Op<25)/\AaO f.Code.length y.Size f.Params nf (Pk f y x)/\((Pk f y x).Op=22->x.Op=22/\(Pk f y x).A=x.A)/\(∀ b,PD x.Op=some b->PD (Pk f y x).Op=some b):=by
 have sl:=fun{s:Int}=>Aww hg hy hs (s:=s)
 obtain⟨ha,_,_,_,hA,_⟩:=id hy;have hat:=(ArK (p:=p) hx).1;have hpar:=hg.par;have hreg16:(16:Int)∈([1,2,4,8,16]:List Int):=by decide
 have hmx:=hg.AhA x hx;cases hg.body x hx with
 | store a b h1 h2 h3 =>
  obtain⟨s1,⟨z,s2,s3⟩,s4,s5,s6⟩:=sl h1 h2;refine⟨by grind [Pn,Pk],by simp,.store _ _ _ h3 s4 s5 s6,by simp[Pk],by grind [Pk]⟩
 | load a b h1 h2 h3 =>
  obtain⟨s1,⟨z,s2,s3⟩,s4,s5,s6⟩:=sl h2 h3;refine⟨by grind [Pn,Pk],by simp,.load _ _ _ h1 s4 s5 (by grind),by simp[Pk],by grind [Pk]⟩
 | move a b h1 h2 h3 =>
  obtain⟨a0,a1,b0,b1,hsz⟩:=hmx rfl;obtain⟨s1,⟨z,s2,s3⟩,s4,s5,s6⟩:=sl a0 a1;obtain⟨t1,_,t4,t5,t6⟩:=sl b0 b1;refine⟨by grind [Pn,Pk],by simp,.move _ _ _ s4 s5 s6 t5 (by simp_all),by simp[Pk],by grind [Pk]⟩
 | const a w h1=>exact⟨by simp[Pn,Pk],by simp,.const _ _ h1,by simp[Pk],by simp[Pk]⟩
 | bin op a b c h1 h2 h3 h4 h5 =>
  have e:∀ n:Int,12<=n->¬ op=n:=λn h=>by omega
  refine⟨by simp[Pn,Pk,e],by grind,?_,by simp[Pk,e],by simp[Pk,e]⟩
  have:Pk f y ⟨op,a,b,c,0⟩=⟨op,a,b,c,0⟩:=by simp[Pk,e]
  rw[this];exact .bin _ _ _ _ h1 h2 h3 h4 h5
 | one op a h1 h2 =>
  rcases h1 with rfl|rfl
  ·exact⟨by simp[Pn,Pk],by simp,.one _ _ (by simp) h2,by simp[Pk],by simp[Pk]⟩
  ·exact⟨by simp[Pn,Pk],by simp,.one _ _ (by simp) h2,by simp[Pk],by simp[Pk]⟩
 | two op a b h1 h2 h3 =>
  rcases h1 with rfl|rfl
  ·exact⟨by simp[Pn,Pk],by simp,.two _ _ _ (by simp) h2 h3,by simp[Pk],by simp[Pk]⟩
  ·exact⟨by simp[Pn,Pk],by simp,.two _ _ _ (by simp) h2 h3,by simp[Pk],by simp[Pk]⟩
 | param a b h1 h2 h3 =>
  have w1:IntKind.i64.wrap (16*b)=16*b:=wrap64 (by omega) (by omega)
  have hy0:0<=y.Size:=by
   have:0<=PJ p f f.Code.length:=by have:=AfS (p:=p) (f:=f) (m:=f.Code.length) (k:=0) (aAC _) (aAM _);grind [PJ]
   omega
  have w2:IntKind.i64.wrap (y.Size+16*b)=y.Size+16*b:=wrap64 (by omega) (by omega)
  exact⟨by simp_all[Pn,Pk],by simp,.load _ _ _ h1 hreg16 (by grind) (by grind),by simp[Pk],by simp[Pk,PD]⟩
 | arg a b h1 h2 h3 =>
  have w1:IntKind.i64.wrap (16*a)=16*a:=wrap64 (by omega) (by omega)
  have:=hat rfl;simp only at this;exact⟨by grind [Pn,Pk],by simp,.store _ _ _ h3 hreg16 (by grind) (by grind),by simp[Pk],by simp[Pk,PD]⟩
 | call j h1 h2=>exact⟨by simp[Pn,Pk],by simp,.call _ h1 h2,by simp[Pk],by simp[Pk]⟩
 | jump t h1=>exact⟨by simp[Pn,Pk],by simp,.jump _ h1.1 h1.2,by simp[Pk],by simp[Pk]⟩
 | branch a t h1 h2=>exact⟨by simp[Pn,Pk],by simp,.branch _ _ h1 h2.1 h2.2,by simp[Pk],by simp[Pk]⟩
 | ret=>exact⟨by simp[Pn,Pk],by simp,.ret,by simp[Pk],by simp[Pk]⟩
 | trap w=>exact⟨by simp[Pn,Pk],by simp,.trap _,by simp[Pk],by simp[Pk]⟩
end
open Go Go.Dw Go.Proofs
structure ChY (p:Nq) (i:Int) (f:Nm) (al:Int) (r:Nm×ND×Int×Int):Prop where
 err:r.2.2.2=0
 gok:GW p.Funcs.length r.1
 arg:AaB ⟨p.Funcs.set i.toNat r.1⟩ r.1
 par:r.1.Params=f.Params
 shape:Tj ⟨p.Funcs.set i.toNat r.1⟩ r.1 al r.2.1
 size:r.2.1.Size<=(QF p f al).Size
theorem ArX (h:NZ f):¬ Acc f []:=λha=>by
 have:=ha.1.1;have:=h.len
 grind
theorem AeB.shape {al:Int} {y:ND} (h:AeB p f al l y 0):Tj p f al y/\Acc f l:=by
 rcases h with⟨_,h⟩|⟨_,_,h⟩|⟨_,_,_,h⟩|⟨h1,h2,_⟩
 all_goals simp_all
section
variable {p:Nq} {i:Int} {f:Nm} (h:AlU p i f) (hg:GW p.Funcs.length f)
 include h hg
theorem Asv {al:Int} (ea:SF p=some al) (hal:QX al/\16<=al/\al<=16777216) (x:NQ) (hx1:Qy x.Live.Out) (hx2:Qy x.LiveAfter.Out):∃ r,RG p i x=some r/\ChY p i f al r/\r.1.Code.length<=f.Code.length/\(x.Live.Out=[]->r=(f,QF p f al,0,0)):=by
 obtain⟨i0,i1,hif⟩:=WK h.hi;have hL:=h.lay hal;have eb:=Amp h.hi h.Uk.len' h.arg hL.slots hal.1 hal.2.2;obtain⟨e,ev,hv⟩:=AuW h.Uk h.defs hx1 x.Rename;obtain⟨c,ec,hc⟩:=Anh hL x.Layout hx1;have hset:(⟨p.Funcs.set i.toNat f⟩:Nq)=p:=by
  have:p.Funcs.set i.toNat f=p.Funcs:=by
   apply List.ext_getElem?
   grind
  rw[this]
 have old:∀ (y:ND) (n:Int),Tj p f al y->ChY p i f al (f,y,n,0):=λy n hy=>⟨rfl,hg,by simp only[hset];exact h.arg,rfl,by simp_all,hy.2.2.2.2.2⟩
 have j1:∃ r,TD p i al x f (QF p f al,0)=some r/\ChY p i f al r/\r.1.Code.length<=f.Code.length/\(x.Live.Out=[]->r=(f,QF p f al,0,0)):=by
  unfold TD;rw[ec,aA]
  by_cases h0:c=0
  ·subst h0;exact⟨_,rfl,old _ _ hc.shape.1,aAM _,λhn=>absurd (hn▸hc.shape.2) (ArX h.Uk)⟩
  ·rw[show(c==0)=false by simp[h0]]
   exact⟨_,rfl,old _ _ (Aso hL.bas),aAM _,λ_=>rfl⟩
 unfold RG;simp only[ea,eb,h.hi,aA,bne_self_eq_false,cond_false,ev]
 by_cases he:e=0
 ·subst he;simp only[beq_self_eq_true,cond_true];obtain⟨hacc,hr⟩:Acc f x.Live.Out/\SS f x.Rename:=by
   simp_all
  have hne:x.Live.Out=[]->False:=λhn=>absurd (hn▸hacc) (ArX h.Uk)
  obtain⟨⟨q,qe⟩,ep,er,hx⟩:=Asm h.Uk h.defs hr;have qe0:qe=0:=hx.1;subst qe0;simp only[ep,aA,ArY p q (show p.Funcs.length<=1000000 by have:=h.pl;omega) i0 (by omega)]
  obtain⟨hL2,hqp,_⟩:=h.next hr er hx hal;obtain⟨d,h1,h2⟩:=Anh hL2 x.Layout hx2;obtain⟨hgq,hql⟩:GW p.Funcs.length q/\q.Code.length<=f.Code.length:=by
   obtain⟨q',e1,_,used,nm,pl,hw⟩:=AoA h.Uk h.defs hr;rw[er]at e1;cases e1;have h1:=hw.len;have h2:=AeE x.Rename.Keep f.Code.length;refine⟨hw.gw hg,?_⟩;simp_all
  have j2:∀ b:Bool,(b=true->ChY p i f al (q,x.Layout,2,0))->∃ r,Sq (q,0) x p i al f (QF p f al,0) b=some r/\ChY p i f al r/\r.1.Code.length<=f.Code.length/\(x.Live.Out=[]->r=(f,QF p f al,0,0)):=by
   grind [Sq]
  simp only[beq_self_eq_true,cond_true]
  by_cases hs:x.Layout.Size<=(QF p f al).Size
  ·rw[decide_eq_true hs,cond_true,h1,aA]
   by_cases hd:d=0
   ·subst hd;exact j2 _ λ_=>⟨rfl,hgq,hL2.arg,hqp,h2.shape.1,hs⟩
   ·rw[show(d==0)=false by simp[hd]]
    simp_all
  simp_all[decide_eq_false]
 grind
end
open Go Go.Dw Go.Proofs
def Way (g:List (List Int)):Nat->Int->Int->Prop
 | 0,i,k=>i=k
 | n+1,i,k=>∃ j,Way g n i j/\k∈g.getD j.toNat []
theorem SR.way {order done:List Int} (h:SR g order done):∀ (n:Nat) (i k:Int),Way g (n+1) i k->∀ b:Nat,order[b]? =some i->∃ a,a<b/\order[a]? =some k
 | 0,i,k,⟨j,e,hk⟩,b,hb=>by
  cases e;obtain⟨a,ha⟩:=aAG (h.top b i hb k hk)
  grind
 | n+1,i,k,⟨j,hw,hk⟩,b,hb=>by
  obtain⟨c,hc,hj⟩:=h.way n i j hw b hb;obtain⟨a,ha⟩:=aAG (h.top c j hj k hk)
  grind
theorem SR.acyclic {order done:List Int} (h:SR g order done) (hl:order.length=g.length) (hi:i<g.length) (n:Nat):¬ Way g (n+1) i i:=by
 intro hw;obtain⟨b,hb⟩:=h.full hl hi;obtain⟨a,hab,ha⟩:=h.way n i i hw b hb;obtain⟨h1,e1⟩:=aAF.1 ha;obtain⟨h2,e2⟩:=aAF.1 hb;have:=aAW.1 h.nodup a b h1 h2 hab;omega
theorem AsC (S:Int->Prop) (hr:∀ v,S v->0<=v/\v<g.length) (hn:∀ v,S v->∃ u∈g.getD v.toNat [],S u) {v:Int} (hv:S v):∃ (i:Nat) (n:Nat),i<g.length/\n<g.length/\Way g (n+1) i i:=by
 obtain⟨nx,hnx⟩:∃ nx:Int->Int,∀ v,S v->nx v∈g.getD v.toNat []/\S (nx v):=by
  refine⟨λv=>Classical.epsilon λu=>u∈g.getD v.toNat []/\S u,λv hv=>?_⟩
  obtain⟨u,h1,h2⟩:=hn v hv;exact Classical.epsilon_spec (p:=λu=>u∈g.getD v.toNat []/\S u) ⟨u,h1,h2⟩
 obtain⟨f,hf0,hf⟩:∃ f:Nat->Int,f 0=v/\∀ n,f (n+1)=nx (f n):=⟨λn=>n.rec v λ_ x=>nx x,rfl,λ_=>rfl⟩
 have hS:∀ n,S (f n):=by
  intro n
  induction n<;>simp_all
 have hw:∀ a d,Way g d (f a) (f (a+d)):=by
  intro a d
  induction d with
  | zero=>rfl
  | succ d ih=>exact⟨_,ih,by grind⟩
 have hnot:¬ ((aAH (g.length+1)).map f).Nodup:=by
  intro hd
  have:=(Aes g.length _ hd λx hx=>by
   grind).1
  grind
 have hex:∃ a b:Nat,a<b/\b<=g.length/\f a=f b:=by
  apply aAL;intro hne;refine hnot (aAW.2 λa b ha hb hab=>?_)
  simp only[List.length_map,List.length_range]at ha hb;simp only[List.getElem_map,List.getElem_range];exact λe=>hne ⟨a,b,hab,by omega,e⟩
 obtain⟨a,b,hab,hbl,e⟩:=hex;have h1:=hw a (b-a);rw[show a+(b-a)=b by omega,<- e]at h1
 have h2:=hr _ (hS a);refine⟨(f a).toNat,b-a-1,by omega,by omega,?_⟩
 rw[show((f a).toNat:Int)=f a by omega,show b-a-1+1=b-a by omega]
 exact h1
theorem AqC {g:List (List Int)} {done:List Int}:∀ (d k:Nat),nxY g done d k<0->∀ j,k<=j->j<k+d->¬ (¬ (j:Int)∈done/\∀ v∈g.getD j [],v∈done)
 | 0,_,_=>λj h1 h2=>by omega
 | d+1,k,h=>λj h1 h2=>by
  unfold nxY at h;split at h
  ·omega
  ·rename_i hn
   by_cases e:j=k
   ·simp_all
   ·exact AqC d (k+1) h j (by omega) (by omega)
theorem AoQ:∀ {l m:List Int},l.Nodup->(∀ x∈l,x∈m)->l.length<=m.length
 | [],_,_,_=>aAC _
 | x::l,m,hd,hs=>by
  have hx:x∈m:=hs x (by simp)
  have hd':=List.nodup_cons.1 hd;have:=AoQ (m:=m.erase x) hd'.2 λy hy=>(List.mem_erase_of_ne (λe=>hd'.1 (by simp_all))).2 (hs y (by simp[hy]))
  grind
theorem AlN (hg:GrY g) (he:SN g=some ([],8)):∃ (i:Nat) (n:Nat),i<g.length/\n<g.length/\Way g (n+1) i i:=by
 have hh:Hs (SN g) λr=>r.2=8->∃ (i:Nat) (n:Nat),i<g.length/\n<g.length/\Way g (n+1) i i:=by
  refine Hs.loop (λs:List Int×List Int=>SR g s.1 s.2/\s.1.length<=g.length) (λs=>g.length-s.1.length) ⟨SR.nil g,aAC _⟩ λs ⟨hs,hsl⟩=>?_
  refine⟨Adc g s.1 s.2,AoY hg hs,?_⟩;cases hst:Adc g s.1 s.2 with
  | inl s' =>
   obtain⟨h1,h2,h3⟩:=AqZ hg hs hst;exact⟨⟨h1,by omega⟩,by grind⟩
  | inr r =>
   unfold Adc at hst;split at hst
   ·split at hst
    ·rename_i hneg;intro _;have hno:∀ j:Nat,j<g.length->(j:Int)∉s.2->∃ v∈g.getD j [],v∉s.2:=by
      intro j hj hd;apply aAL;intro hall;have hc:∀ v∈g.getD j [],v∈s.2:=λv hv=>aAL λhn=>hall ⟨v,hv,hn⟩
      exact AqC (g.length) 0 hneg j (aAC _) (by omega) ⟨hd,hc⟩
     have hex:∃ j:Nat,j<g.length/\(j:Int)∉s.2:=by
      apply aAL;intro hall;have hin:∀ x∈(aAH g.length).map (λn:Nat=>(n:Int)),x∈s.1:=by
       intro x hx;obtain⟨k,hk,rfl⟩:=aAX.1 hx;have hk:=List.mem_range.1 hk;exact(hs.mem _).1 (aAL λhn=>hall ⟨k,hk,hn⟩)
      have hnd:((aAH g.length).map (λn:Nat=>(n:Int))).Nodup:=by
       grind [aAW]
      have:=AoQ hnd hin
      grind
     obtain⟨j,hj,hjd⟩:=hex;refine AsC (λv=>(0<=v/\v<g.length)/\v∉s.2) (λv hv=>hv.1) (λv hv=>?_) (v:=(j:Int)) ⟨by omega,hjd⟩
     have e:((v.toNat:Nat):Int)=v:=by omega
     obtain⟨u,hu,hud⟩:=hno v.toNat (by omega) (by simp_all)
     have hrow:g[v.toNat]? =some (g[v.toNat]'(by omega)):=aAA _
     have hg1:g.getD v.toNat []=g[v.toNat]'(by omega):=by simp_all
     have h2:=(hg.at_ hrow);refine⟨u,hu,⟨(h2.1.2 u (hg1▸hu)).1,h2.2 u (hg1▸hu)⟩,hud⟩
    ·cases hst
   ·cases hst;intro e;cases e
 obtain⟨r,h1,h2⟩:=hh;simp_all
theorem Auh {b a' b':Int} (h1:a'<=a) (h2:b'<=b):OM a' b'<=OM a b:=by
 grind [OM]
theorem AmZ {f f':Nat->Option Int} (hf:∀ i x,f i=some x->∃ x',f' i=some x'/\x'<=x):∀ {s:List Int} {b b' m:Int},b'<=b->s.foldlM (λa j=>(f j.toNat).map (OM a)) b=some m->∃ m',s.foldlM (λa j=>(f' j.toNat).map (OM a)) b'=some m'/\m'<=m
 | [],b,b',m,hb,h=>by simp_all
 | x::s,b,b',m,hb,h=>by
  simp only[List.foldlM_cons,Option.bind_eq_bind,aAI]at h;obtain⟨c,hc,h⟩:=h;obtain⟨y,hy,rfl⟩:=aAj.1 hc;obtain⟨y',hy',hle⟩:=hf _ _ hy;obtain⟨m',h1,h2⟩:=AmZ hf (Auh hb hle) h;simp_all
def LeW (w' w:List Int):Prop:=w'.length=w.length/\∀ (i:Nat) x,w[i]? =some x->∃ x',w'[i]? =some x'/\0<=x'/\x'<=x
theorem ArM {g:List (List Int)} {w w':List Int} (hw:LeW w' w):∀ (n i:Nat) (x:Int),bF g w n i=some x->∃ x',bF g w' n i=some x'/\x'<=x
 | 0,_,_,h=>by cases h
 | n+1,i,x,h=>by
  unfold bF at h;simp only[aAI]at h;obtain⟨s,hs,y,hy,m,hm,h⟩:=h;obtain⟨y',hy',y0,y1⟩:=hw.2 i y hy;obtain⟨m',hm',h2⟩:=AmZ (ArM hw n) (Int.le_refl 0) hm;split at h
  ·cases h;refine⟨y'+m',?_,by omega⟩
   unfold bF
   grind
  ·cases h
theorem YB.mono {w w':List Int} {o r':List Int×Int} (h:YB g w o r) (h':YB g w' o r') (h0:r.2=0) (hw:LeW w' w):r'.2=0:=by
 rcases h with⟨_,rfl⟩|⟨⟨hz,hwt⟩,⟨h2,rfl⟩|⟨h2,⟨_,rfl⟩|⟨h3,h4,h5⟩⟩⟩
 ·omega
 ·omega
 ·omega
 have hwt':WtY g w':=⟨hw.1.trans hwt.1,λx hx=>by
  obtain⟨k,hk⟩:=aAG hx;have hkl:=(aAF.1 hk).1;have hk2:w[k]? =some (w[k]'(by have:=hw.1;omega)):=aAA _
  obtain⟨x',e1,e2,e3⟩:=hw.2 k _ hk2;rw[hk]at e1;cases e1;have:=hwt.2 _ (aAB hk2)
  omega⟩
 rcases h' with⟨g1,_⟩|⟨_,⟨g2,_⟩|⟨_,⟨⟨i,hi,hn⟩,_⟩|⟨g3,_⟩⟩⟩
 all_goals grind [ArM,vB]
attribute [local simp] Oa aAD
def zB:PX:=⟨⟨0,[]⟩,0,[],[]⟩
theorem Aos (p:Nq) (l:List NQ) (g:List (List Int)) (hn:p.Funcs.length<=1000) {e:Int} (he:e≠0):RX p l g e=some (zB,e):=by
 have hh:Hs (RX p l g e) λr=>r=(zB,e):=by
  have hb:(e==0)=false:=by simp[he]
  refine Hs.loop (λz=>z.1=e/\z.2.1=[]/\z.2.2.1=[]/\∃ k:Nat,z.2.2.2=(k:Int)/\k<=p.Funcs.length) (λz=>p.Funcs.length-z.2.2.2.toNat) ⟨rfl,rfl,rfl,0,rfl,aAC _⟩ ?_
  rintro⟨x7,x8,x9,x10⟩ ⟨h7,h8,h9,k,hk,hkl⟩;subst h7;subst h8;subst h9;subst hk;dsimp only;have nx:k<p.Funcs.length->Hs (cnt (R:=PX×Int) (x7,([]:List OA),([]:List Int),IntKind.i64.wrap ((k:Int)+1))) (Rnd (λz:Int×List OA×List Int×Int=>z.1=x7/\z.2.1=[]/\z.2.2.1=[]/\∃ k:Nat,z.2.2.2=(k:Int)/\k<=p.Funcs.length) (λz=>p.Funcs.length-z.2.2.2.toNat) (x7,[],[],(k:Int)) λr:PX×Int=>r=(zB,x7)):=by
   intro hlt;refine .cnt ⟨⟨rfl,rfl,rfl,k+1,Nw (by omega),by omega⟩,?_⟩
   grind [Nw]
  refine .dec (λhlt=>?_) λhlt=>.lft ?_
  ·refine .dec (λhl=>?_) λhl=>?_
   ·refine(Hs.ix (l:=l) (i:=(k:Int)) (by omega) hl λz hz=>hz).bind λx _=>?_
    rw[hb,cond_false];exact nx (by omega)
   ·rw[hb,cond_false];exact nx (by omega)
  ·rw[hb,cond_false];unfold Us;rw[show(x7 != 0)=true by simp[he],cond_true]
   exact .pure rfl
 obtain⟨r,h1,rfl⟩:=hh;exact h1
section
variable {p:Nq} (h:PG p)
 include h
theorem PG.at (hf:p.Funcs[i]? =some f):AlU p i f:=h.opt (by simp_all)
theorem PG.gw (hf:p.Funcs[i]? =some f):GW p.Funcs.length f:=h.all f (aAB hf)
theorem PG.calls:CallsIn p:=by
 intro f hf;obtain⟨i,hi⟩:=aAG hf;exact(h.at hi).calls
theorem PG.short:∀ f∈p.Funcs,f.Code.length<=1000000:=by
 intro f hf;have:=(h.all f hf).len';omega
theorem PG.gr:GrY (cgR p):=Ayi (by have:=h.few;omega) h.calls
theorem PG.align:∃ al,SF p=some al/\Sk p=some al/\QX al/\16<=al/\al<=16777216:=by
 have:=h.few;exact(h.at (aAA (show 0<p.Funcs.length by omega))).align
theorem PG.Azi {al:Int} (ea:SF p=some al) (hal:QX al/\16<=al/\al<=16777216) (l:List NQ) (g:List (List Int)) (hr:Wf g (p.Funcs.map (λf=>(QF p f al).Size))=some r) (hz:TC p l g r.2=some z) :
  Rs p l g 0=some z:=by
 have hf:=h.few;have hh:Hs (Rs p l g 0) λx=>x=z:=by
  unfold Rs;refine Hs.loop (λz=>∃ k:Nat,z.2=(k:Int)/\k<=p.Funcs.length/\z.1=(p.Funcs.take k).map (λf=>(QF p f al).Size)) (λz=>p.Funcs.length-z.2.toNat) ⟨0,rfl,aAC _,rfl⟩ ?_
  rintro⟨out,k4⟩ ⟨k,hk,hkl,ho⟩;simp only at hk ho;subst hk;refine .dec (λhlt=>?_) λhlt=>.lft ?_
  ·obtain⟨f,hx⟩:∃ f,p.Funcs[k]? =some f:=⟨p.Funcs[k]'(by omega),aAA (by omega)⟩
   have hO:=h.at hx;rw[ea,aA,Amp hO.hi hO.Uk.len' hO.arg (hO.lay hal).slots hal.1 hal.2.2,aA];refine .bne (λe=>absurd rfl e) λ_=>.chk (by grind) (.cnt ⟨⟨k+1,Nw (by omega),by omega,?_⟩,?_⟩)
   ·simp_all[ZQ]
   grind [Nw]
  ·have:k=p.Funcs.length:=by omega
   rw[this,aAR]at ho;rw[ho,hr,aA,hz];exact .pure rfl
 obtain⟨r,h1,rfl⟩:=hh;exact h1
end
open Go Go.Dw Go.Proofs
def win (n l:Int):Bool:=decide (0<=n/\n<l)
theorem WB (n l:Int):Rt n l=some (win n l):=by
 grind [Rt,win]
theorem Ov (n l:Int):PM n l=some (win n l):=WB n l
theorem OC (n:Int):PO n=some (win n 8):=WB n 8
theorem Art (e:RF) (x:Av) (p:Nq) (f:Nm):NB (λs=>QJ e x p f s) 0 =
  if e.a=0/\x.A≠0 then some 2 else if e.b=0/\x.B≠0 then some 2 else if e.c=0/\x.C≠0 then some 2 else if e.imm=false/\x.Imm≠0 then some 2 else QL p f e x:=by
 have step:∀ (i:Nat) (k n:Int),i<3->((Qd.mk e.a e.b e.c).toList)[i]? =some k->((Qd.mk x.A x.B x.C).toList)[i]? =some n->QJ e x p f (i:Int)=if k=0/\n≠0 then some (.inr 2)else some (.inl ((i+1:Nat):Int)):=by
  intro i k n hi h1 h2;have w:IntKind.i64.wrap ((i:Int)+1)=((i+1:Nat):Int):=Nw (by omega)
  unfold QJ;rw[decide_eq_true (show(i:Int)<3 by omega),cond_true,Oa (by omega),aAE,h1,aA,w]
  by_cases hk:k=0
  ·have hk':(k==0)=true:=by simp_all
   rw[hk',cond_true,Oa (by omega),h2,aA]
   simp_all
  ·have:(k==0)=false:=by simp_all
   rw[this,cond_false,if_neg (λh=>hk h.1),ArO]
 have s0:=step 0 e.a x.A (by omega) rfl rfl
 have s1:=step 1 e.b x.B (by omega) rfl rfl
 have s2:=step 2 e.c x.C (by omega) rfl rfl
 have s3:QJ e x p f 3=lft (if e.imm=false/\x.Imm≠0 then some 2 else QL p f e x):=by
  grind [QJ]
 have s0:QJ e x p f 0=if e.a=0/\x.A≠0 then some (.inr 2)else some (.inl ((0+1:Nat):Int)):=s0
 rw[Pm,s0]
 by_cases c0:e.a=0/\x.A≠0
 ·simp_all
 rw[if_neg c0,if_neg c0];dsimp only;rw[Pm,s1]
 by_cases c1:e.b=0/\x.B≠0
 ·simp_all
 rw[if_neg c1,if_neg c1];dsimp only;rw[Pm,s2]
 by_cases c2:e.c=0/\x.C≠0
 ·simp_all
 rw[if_neg c2,if_neg c2];dsimp only;rw[Pm,show((2+1:Nat):Int)=3 from rfl,s3]
 generalize(if e.imm=false/\x.Imm≠0 then some 2 else QL p f e x)=m
 cases m<;>rfl
def QC (L:Oq) (w k n:Int):Option Int:=if win n (L.toList.getD k.toNat 0)then some w else if k≠6 then none else some 6
theorem Aru (e:RF) (x:Av) (L:Oq) (f:Nm) (ha:0<=e.a/\e.a<7) (hb:0<=e.b/\e.b<7) (hc:0<=e.c/\e.c<7):NB (λs=>QK e x L f s.1 s.2) (0,0) =
  (QC L 0 e.a x.A).elim (some 4) λw1=>(QC L w1 e.b x.B).elim (some 4) λw2=>(QC L w2 e.c x.C).elim (some 4) λw3=>if x.Op=17 then(ixO f.Slots x.A).bind λs=>(ixO f.Slots x.B).bind λs'=>if s.Size≠s'.Size then some 5 else some w3 else some w3:=by
 have step:∀ (i:Nat) (w k n:Int),i<3->0<=k/\k<7->((Qd.mk e.a e.b e.c).toList)[i]? =some k->((Qd.mk x.A x.B x.C).toList)[i]? =some n ->
   QK e x L f w (i:Int)=match QC L w k n with|none=>some (.inr 4)|some w'=>some (.inl (w',((i+1:Nat):Int))):=by
  intro i w k n hi hk h1 h2;have ww:IntKind.i64.wrap ((i:Int)+1)=((i+1:Nat):Int):=Nw (by omega)
  have hg:L.toList[k.toNat]? =some (L.toList.getD k.toNat 0):=by
   have hl:k.toNat<L.toList.length:=by show k.toNat<7;omega
   simp_all
  unfold QK QC;rw[decide_eq_true (show(i:Int)<3 by omega),cond_true,Oa (by omega),aAE,h1,aA,Oa (by omega),h2,aA,Oa hk,hg,aA,WB,aA,ww]
  cases win n (L.toList.getD k.toNat 0)
  ·by_cases h6:k=6
   ·simp_all
   ·have:(k != 6)=true:=by simp_all
    simp only[cond_false,this,cond_true,AvV,ne_eq,h6,not_false_eq_true,if_true,Bool.false_eq_true,if_false]
  ·simp
 have s0:=λw=>step 0 w e.a x.A (by omega) ha rfl rfl
 have s1:=λw=>step 1 w e.b x.B (by omega) hb rfl rfl
 have s2:=λw=>step 2 w e.c x.C (by omega) hc rfl rfl
 have s3:∀ w,QK e x L f w 3=lft (if x.Op=17 then(ixO f.Slots x.A).bind λs=>(ixO f.Slots x.B).bind λs'=>if s.Size≠s'.Size then some 5 else some w else some w):=by
  intro w;unfold QK
  grind
 rw[Pm];have s0:QK e x L f 0 0=match QC L 0 e.a x.A with|none=>some (.inr 4)|some w'=>some (.inl (w',((0+1:Nat):Int))):=s0 0
 rw[s0];cases QC L 0 e.a x.A with
 | none=>rfl
 | some w1 =>
  simp only[aAT];rw[Pm];rw[s1];cases QC L w1 e.b x.B with
  | none=>rfl
  | some w2 =>
   simp only[aAT];rw[Pm];rw[s2];cases QC L w2 e.c x.C with
   | none=>rfl
   | some w3 =>
    simp only[aAT];rw[Pm];rw[show((2+1:Nat):Int)=3 from rfl,s3]
    generalize(if x.Op=17 then(ixO f.Slots x.A).bind λs=>(ixO f.Slots x.B).bind λs'=>if s.Size≠s'.Size then some 5 else some w3 else some w3)=m
    cases m<;>rfl
theorem Aqr (p:Nq) (f:Nm) (x:Av) (hk:x.Op=k) (hlt:k<25) {q:Int×Int×Int×Bool} (hq:Ro[k]? =some q) (h1:0<=q.1/\q.1<7) (h2:0<=q.2.1/\q.2.1<7) (h3:0<=q.2.2.1/\q.2.2.1<7):RD p f x =
  if q.1=0/\x.A≠0 then some 2 else if q.2.1=0/\x.B≠0 then some 2 else if q.2.2.1=0/\x.C≠0 then some 2 else if q.2.2.2=false/\x.Imm≠0 then some 2 else
   (QC (Oq.mk 1 8 (f.Slots.length:Int) (p.Funcs.length:Int) 8 f.Params (f.Code.length:Int)) 0 q.1 x.A).elim (some 4) λw1=>(QC (Oq.mk 1 8 (f.Slots.length:Int) (p.Funcs.length:Int) 8 f.Params (f.Code.length:Int)) w1 q.2.1 x.B).elim (some 4) λw2=>(QC (Oq.mk 1 8 (f.Slots.length:Int) (p.Funcs.length:Int) 8 f.Params (f.Code.length:Int)) w2 q.2.2.1 x.C).elim (some 4) λw3=>if x.Op=17 then(ixO f.Slots x.A).bind λs=>(ixO f.Slots x.B).bind λs'=>if s.Size≠s'.Size then some 5 else some w3 else some w3:=by
 unfold RD;have hw:win x.Op 25=true:=by grind [win]
 rw[WB,aA,hw];simp only[aAP,cond_false];rw[Oa (by omega),show x.Op.toNat=k by omega,aAa,hq,Option.map_some,aA,Art]
 simp_all[QL,Ve,Aru]
theorem AyN (p:Nq) (f:Nm) (i k:Int) (x:Av) (hi:ixO p.Funcs i=some f) (_hk:ixO f.Code k=some x) (hwi:win i p.Funcs.length=true) (hwk:win k f.Code.length=true):RB p i k=Sb p i k:=by
 simp_all[RB,Ov]
theorem Qo (c:Prop) [Decidable c] (w:Int) (X:Option Int) (Y:Int->Option Int):(if c then some w else none).elim X Y=if c then Y w else X:=by grind
theorem Aqh (c:Prop) [Decidable c] (w v:Int) (X:Option Int) (Y:Int->Option Int):(if c then some w else some v).elim X Y=if c then Y w else Y v:=by grind
theorem TR (n:Int):win n 1=true↔n=0:=by grind [win]
set_option maxHeartbeats 4000000 in
theorem AsP (p:Nq) (f:Nm) (i k:Int) (x:Av) (hi:ixO p.Funcs i=some f) (hk:ixO f.Code k=some x) (hwi:win i p.Funcs.length=true) (hwk:win k f.Code.length=true):RD p f x=RB p i k:=by
 rw[AyN p f i k x hi hk hwi hwk];unfold Sb;rw[hi,aA,hk,aA,Ov,aA]
 by_cases hop:0<=x.Op/\x.Op<25
 ·have hw:win x.Op 25=true:=by unfold win;simpa using hop
  rw[hw];simp only[aAP,cond_false];obtain⟨op,A,B,C,I⟩:=x;dsimp only at hop hw ⊢;have h25:op=0\/op=1\/op=2\/op=3\/op=4\/op=5\/op=6\/op=7\/op=8\/op=9\/op=10\/op=11\/op=12\/op=13\/op=14\/op=15\/op=16\/op=17\/op=18\/op=19\/op=20\/op=21\/op=22\/op=23\/op=24:=by omega
  have one:∀ kk:Nat,op=kk->kk<25->∀ q,Ro[kk]? =some q->0<=q.1/\q.1<7->0<=q.2.1/\q.2.1<7->0<=q.2.2.1/\q.2.2.1<7->_:=λkk e hl q hq h1 h2 h3=>Aqr p f ⟨op,A,B,C,I⟩ (k:=kk) e hl hq h1 h2 h3
  rcases h25 with rfl|rfl|rfl|rfl|rfl|rfl|rfl|rfl|rfl|rfl|rfl|rfl|rfl|rfl|rfl|rfl|rfl|rfl|rfl|rfl|rfl|rfl|rfl|rfl|rfl
  ·rw[one 0 rfl (by decide) _ rfl (by decide) (by decide) (by decide)]
   clear one hw hop hi hk hwi hwk
   (simp[QC,Oq.toList,Od,NK,NI,NR,NC,NP,Oe,NT,NV,NJ,OC,Ov,aAD,Qo,TR])
   all_goals ((repeat' split)<;>simp_all)
  ·rw[one 1 rfl (by decide) _ rfl (by decide) (by decide) (by decide)]
   clear one hw hop hi hk hwi hwk
   (simp[QC,Oq.toList,Od,NK,NI,NR,NC,NP,Oe,NT,NV,NJ,OC,Ov,aAD,Qo,TR])
   all_goals ((repeat' split)<;>simp_all)
  ·rw[one 2 rfl (by decide) _ rfl (by decide) (by decide) (by decide)]
   clear one hw hop hi hk hwi hwk
   (simp[QC,Oq.toList,Od,NK,NI,NR,NC,NP,Oe,NT,NV,NJ,OC,Ov,aAD,Qo])
   all_goals ((repeat' split)<;>simp_all)
  ·rw[one 3 rfl (by decide) _ rfl (by decide) (by decide) (by decide)]
   clear one hw hop hi hk hwi hwk
   (simp[QC,Oq.toList,Od,NK,NI,NR,NC,NP,Oe,NT,NV,NJ,OC,Ov,aAD,Qo])
   all_goals ((repeat' split)<;>simp_all)
  ·rw[one 4 rfl (by decide) _ rfl (by decide) (by decide) (by decide)]
   clear one hw hop hi hk hwi hwk
   (simp[QC,Oq.toList,Od,NK,NI,NR,NC,NP,Oe,NT,NV,NJ,OC,Ov,aAD,Qo])
   all_goals ((repeat' split)<;>simp_all)
  ·rw[one 5 rfl (by decide) _ rfl (by decide) (by decide) (by decide)]
   clear one hw hop hi hk hwi hwk
   (simp[QC,Oq.toList,Od,NK,NI,NR,NC,NP,Oe,NT,NV,NJ,OC,Ov,aAD,Qo])
   all_goals ((repeat' split)<;>simp_all)
  ·rw[one 6 rfl (by decide) _ rfl (by decide) (by decide) (by decide)]
   clear one hw hop hi hk hwi hwk
   (simp[QC,Oq.toList,Od,NK,NI,NR,NC,NP,Oe,NT,NV,NJ,OC,Ov,aAD,Qo])
   all_goals ((repeat' split)<;>simp_all)
  ·rw[one 7 rfl (by decide) _ rfl (by decide) (by decide) (by decide)]
   clear one hw hop hi hk hwi hwk
   (simp[QC,Oq.toList,Od,NK,NI,NR,NC,NP,Oe,NT,NV,NJ,OC,Ov,aAD,Qo])
   all_goals ((repeat' split)<;>simp_all)
  ·rw[one 8 rfl (by decide) _ rfl (by decide) (by decide) (by decide)]
   clear one hw hop hi hk hwi hwk
   (simp[QC,Oq.toList,Od,NK,NI,NR,NC,NP,Oe,NT,NV,NJ,OC,Ov,aAD,Qo])
   all_goals ((repeat' split)<;>simp_all)
  ·rw[one 9 rfl (by decide) _ rfl (by decide) (by decide) (by decide)]
   clear one hw hop hi hk hwi hwk
   (simp[QC,Oq.toList,Od,NK,NI,NR,NC,NP,Oe,NT,NV,NJ,OC,Ov,aAD,Qo])
   all_goals ((repeat' split)<;>simp_all)
  ·rw[one 10 rfl (by decide) _ rfl (by decide) (by decide) (by decide)]
   clear one hw hop hi hk hwi hwk
   (simp[QC,Oq.toList,Od,NK,NI,NR,NC,NP,Oe,NT,NV,NJ,OC,Ov,aAD,Qo])
   all_goals ((repeat' split)<;>simp_all)
  ·rw[one 11 rfl (by decide) _ rfl (by decide) (by decide) (by decide)]
   clear one hw hop hi hk hwi hwk
   (simp[QC,Oq.toList,Od,NK,NI,NR,NC,NP,Oe,NT,NV,NJ,OC,Ov,aAD,Qo])
   all_goals ((repeat' split)<;>simp_all)
  ·rw[one 12 rfl (by decide) _ rfl (by decide) (by decide) (by decide)]
   clear one hw hop hi hk hwi hwk
   (simp[QC,Oq.toList,Od,NK,NI,NR,NC,NP,Oe,NT,NV,NJ,OC,Ov,aAD,Qo,TR])
   all_goals ((repeat' split)<;>simp_all)
  ·rw[one 13 rfl (by decide) _ rfl (by decide) (by decide) (by decide)]
   clear one hw hop hi hk hwi hwk
   (simp[QC,Oq.toList,Od,NK,NI,NR,NC,NP,Oe,NT,NV,NJ,OC,Ov,aAD,Qo,TR])
   all_goals ((repeat' split)<;>simp_all)
  ·rw[one 14 rfl (by decide) _ rfl (by decide) (by decide) (by decide)]
   clear one hw hop hi hk hwi hwk
   (simp[QC,Oq.toList,Od,NK,NI,NR,NC,NP,Oe,NT,NV,NJ,OC,Ov,aAD,Qo,TR])
   all_goals ((repeat' split)<;>simp_all)
  ·rw[one 15 rfl (by decide) _ rfl (by decide) (by decide) (by decide)]
   clear one hw hop hi hk hwi hwk
   (simp[QC,Oq.toList,Od,NK,NI,NR,NC,NP,Oe,NT,NV,NJ,OC,Ov,aAD,Qo,TR])
   all_goals ((repeat' split)<;>simp_all)
  ·rw[one 16 rfl (by decide) _ rfl (by decide) (by decide) (by decide)]
   clear one hw hop hi hk hwi hwk
   (simp[QC,Oq.toList,Od,NK,NI,NR,NC,NP,Oe,NT,NV,NJ,OC,Ov,aAD,Qo,TR])
   all_goals ((repeat' split)<;>simp_all)
  ·rw[one 17 rfl (by decide) _ rfl (by decide) (by decide) (by decide)]
   clear one hw hop hi hk hwi hwk
   (simp[QC,Oq.toList,Od,NK,NI,NR,NC,NP,Oe,NT,NV,NJ,OC,Ov,aAD,Qo,TR])
   all_goals ((repeat' split)<;>simp_all)
  ·rw[one 18 rfl (by decide) _ rfl (by decide) (by decide) (by decide)]
   clear one hw hop hi hk hwi hwk
   (simp[QC,Oq.toList,Od,NK,NI,NR,NC,NP,Oe,NT,NV,NJ,OC,Ov,aAD,Qo,TR])
   all_goals ((repeat' split)<;>simp_all)
  ·rw[one 19 rfl (by decide) _ rfl (by decide) (by decide) (by decide)]
   clear one hw hop hi hk hwi hwk
   (simp[QC,Oq.toList,Od,NK,NI,NR,NC,NP,Oe,NT,NV,NJ,OC,Ov,aAD,Qo,TR])
   all_goals ((repeat' split)<;>simp_all)
  ·rw[one 20 rfl (by decide) _ rfl (by decide) (by decide) (by decide)]
   clear one hw hop hi hk hwi hwk
   (simp[QC,Oq.toList,Od,NK,NI,NR,NC,NP,Oe,NT,NV,NJ,OC,Ov,aAD,Qo,Aqh,TR])
   all_goals ((repeat' split)<;>simp_all)
  ·rw[one 21 rfl (by decide) _ rfl (by decide) (by decide) (by decide)]
   clear one hw hop hi hk hwi hwk
   (simp[QC,Oq.toList,Od,NK,NI,NR,NC,NP,Oe,NT,NV,NJ,OC,Ov,aAD,Qo,Aqh,TR])
   all_goals ((repeat' split)<;>simp_all)
  ·rw[one 22 rfl (by decide) _ rfl (by decide) (by decide) (by decide)]
   clear one hw hop hi hk hwi hwk
   (simp[QC,Oq.toList,Od,NK,NI,NR,NC,NP,Oe,NT,NV,NJ,OC,Ov,aAD,Qo,TR])
   all_goals ((repeat' split)<;>simp_all)
  ·rw[one 23 rfl (by decide) _ rfl (by decide) (by decide) (by decide)]
   clear one hw hop hi hk hwi hwk
   (simp[QC,Oq.toList,Od,NK,NI,NR,NC,NP,Oe,NT,NV,NJ,OC,Ov,aAD,Qo,TR])
   all_goals ((repeat' split)<;>simp_all)
  ·rw[one 24 rfl (by decide) _ rfl (by decide) (by decide) (by decide)]
   clear one hw hop hi hk hwi hwk
   (simp[QC,Oq.toList,Od,NK,NI,NR,NC,NP,Oe,NT,NV,NJ,OC,Ov,aAD,Qo,TR])
   all_goals ((repeat' split)<;>simp_all)
 ·have hw:win x.Op 25=false:=by unfold win;simpa using hop
  rw[hw];unfold RD;rw[WB,aA,hw];rfl
theorem AuX {n:Int} {l:List α} (h:win n l.length=true):∃ x,ixO l n=some x:=by
 simp_all[win,Pa]
theorem AsQ (p:Nq) (f:Nm) (x:Av):∃ e,RD p f x=some e:=by
 by_cases hop:0<=x.Op/\x.Op<25
 ·obtain⟨q,hq⟩:∃ q,Ro[x.Op.toNat]? =some q:=⟨_,aAA (by show x.Op.toNat<25;omega)⟩
  have hall:∀ q∈Ro,(0<=q.1/\q.1<7)/\(0<=q.2.1/\q.2.1<7)/\(0<=q.2.2.1/\q.2.2.1<7):=by decide
  obtain⟨h1,h2,h3⟩:=hall q (aAB hq);have key:=Aqr p f x (k:=x.Op.toNat) (by omega) (by omega) hq h1 h2 h3
  rw[key];split
  ·simp_all
  split
  ·simp_all
  split
  ·simp_all
  split
  ·simp_all
  generalize hL:Oq.mk 1 8 (f.Slots.length:Int) (p.Funcs.length:Int) 8 f.Params (f.Code.length:Int)=L;cases g1:QC L 0 q.1 x.A with
  | none=>simp_all
  | some w1 =>
   simp only[aAT];cases g2:QC L w1 q.2.1 x.B with
   | none=>simp_all
   | some w2 =>
    simp only[aAT];cases g3:QC L w2 q.2.2.1 x.C with
    | none=>simp_all
    | some w3 =>
     simp only[aAT]
     by_cases h17:x.Op=17
     ·rw[h17]at hq;have hq:q=(2,2,0,false):=(Option.some.inj hq).symm;subst hq;subst hL;have hA:win x.A f.Slots.length=true:=by
       grind [QC,Oq.toList]
      have hB:win x.B f.Slots.length=true:=by
       grind [QC,Oq.toList]
      obtain⟨s,hs⟩:=AuX hA;obtain⟨s',hs'⟩:=AuX hB
      grind
     simp_all
 ·refine⟨4,?_⟩
  grind [win,RD,WB]
theorem AtM (p:Nq) (f:Nm) (i:Int) (hi:ixO p.Funcs i=some f) (hw:win i p.Funcs.length=true) (hl:f.Code.length<=16777216):∀ (d k:Nat),k+d=f.Code.length ->
  ∃ e,NB (λs=>Ss f p s) (k:Int)=some e/\NB (λs=>Qr f p i s) (k:Int)=some e:=by
 intro d
 induction d with
 | zero =>
  intro k hk;obtain rfl:k=f.Code.length:=by omega
  have hd:decide ((f.Code.length:Int)<(f.Code.length:Int))=false:=by simp
  rw[Pm,Pm];unfold Ss Qr;rw[hd,cond_false,cond_false]
  by_cases h0:f.Code.length=0
  ·simp_all
  ·have:((f.Code.length:Int)==0)=false:=by simp_all
   have w:IntKind.i64.wrap ((f.Code.length:Int)-1)=((f.Code.length-1:Nat):Int):=by grind [wrap64]
   rw[this,cond_false,w,Oy,aAA (show f.Code.length-1<f.Code.length by omega),aA,show PD=Sr from rfl]
   obtain⟨b,hb⟩:∃ b,Sr f.Code[f.Code.length-1].Op=some b:=by
    unfold Sr;cases (f.Code[f.Code.length-1].Op==20)<;>cases (f.Code[f.Code.length-1].Op==23)<;>exact⟨_,rfl⟩
   rw[aA,hb,aA];cases b
   all_goals simp_all
 | succ d ih =>
  intro k hk;have hlt:k<f.Code.length:=by omega
  have hd:decide ((k:Int)<(f.Code.length:Int))=true:=by simp_all
  have hx:ixO f.Code (k:Int)=some (f.Code[k]'hlt):=by simp_all
  obtain⟨e,he⟩:=AsQ p f (f.Code[k]'hlt);have he':=AsP p f i (k:Int) _ hi hx hw (by simp_all[win])
  have w:IntKind.i64.wrap ((k:Int)+1)=((k+1:Nat):Int):=Nw (by omega)
  have s1:Ss f p (k:Int)=if e≠0 then some (.inr e)else some (.inl ((k+1:Nat):Int)):=by
   simp_all[Ss]
  have s2:Qr f p i (k:Int)=if e≠0 then some (.inr e)else some (.inl ((k+1:Nat):Int)):=by
   simp_all[Qr]
  rw[Pm,Pm,s1,s2]
  by_cases h0:e=0
  ·rw[if_neg (by omega)]
   exact ih (k+1) (by omega)
  simp_all
theorem AtX (p:Nq) (f:Nm) (i:Int) (hi:ixO p.Funcs i=some f) (hw:win i p.Funcs.length=true):∃ e,UE p i=some e/\RY p i=some e/\(e=0->f.Code.length<=1024/\f.Slots.length<=512):=by
 unfold UE RY;rw[WB,Ov,aA,aA,hw];simp only[aAP,cond_false,hi,aA]
 by_cases hc:(f.Code.length:Int)>1024
 ·simp_all
 rw[decide_eq_false hc,cond_false,cond_false];obtain⟨e,e1,e2,e3⟩:=Anv f.Slots;rw[e1,e2,aA,aA]
 by_cases h0:e=0
 ·have:(e != 0)=false:=by simp_all
  rw[this,cond_false,cond_false,WB,aA];obtain⟨r,r1,r2⟩:=AtM p f i hi hw (by omega) f.Code.length 0 (by omega)
  by_cases hp:0<=f.Params/\f.Params<9
  ·have h1:win f.Params 9=true:=by grind [win]
   have h2:¬ f.Params<0:=by omega
   have h3:¬ f.Params>8:=by omega
   rw[h1,decide_eq_false h2,decide_eq_false h3];refine⟨r,?_,?_,λ_=>⟨by omega,e3 h0⟩⟩
   ·exact r1
   ·exact r2
  grind [win]
 grind
def Small (p:Nq):Prop:=p.Funcs.length<=80/\p.Funcs≠[]/\∀ f∈p.Funcs,f.Code.length<=1024/\f.Slots.length<=512
theorem Ast (p:Nq) (hl:p.Funcs.length<=80):∀ (d k:Nat),k+d=p.Funcs.length->∃ e,NB (λs=>VD p s) (k:Int)=some e/\NB (λs=>SC p s) (k:Int)=some e/\(e=0->∀ (j:Nat) f,k<=j->p.Funcs[j]? =some f->f.Code.length<=1024/\f.Slots.length<=512):=by
 intro d
 induction d with
 | zero =>
  intro k hk;obtain rfl:k=p.Funcs.length:=by omega
  have hd:decide ((p.Funcs.length:Int)<(p.Funcs.length:Int))=false:=by simp
  simp_all[Pm,VD,SC]
 | succ d ih =>
  intro k hk;have hlt:k<p.Funcs.length:=by omega
  have hd:decide ((k:Int)<(p.Funcs.length:Int))=true:=by simp_all
  have hx:ixO p.Funcs (k:Int)=some (p.Funcs[k]'hlt):=by simp_all
  obtain⟨e,e1,e2,e3⟩:=AtX p _ (k:Int) hx (by simp_all[win])
  have w:IntKind.i64.wrap ((k:Int)+1)=((k+1:Nat):Int):=Nw (by omega)
  have s1:VD p (k:Int)=if e≠0 then some (.inr e)else some (.inl ((k+1:Nat):Int)):=by
   simp_all[VD]
  have s2:SC p (k:Int)=if e≠0 then some (.inr e)else some (.inl ((k+1:Nat):Int)):=by
   simp_all[SC]
  rw[Pm,Pm,s1,s2]
  by_cases h0:e=0
  ·rw[if_neg (by omega)]
   obtain⟨r,r1,r2,r3⟩:=ih (k+1) (by omega)
   refine⟨r,r1,r2,λhr j f hj hf=>?_⟩
   grind
  simp_all
theorem Asu (p:Nq):∃ e,Wy p=some e/\WN p=some e/\(e=0->Small p):=by
 unfold Wy WN
 by_cases hc:(p.Funcs.length:Int)>80
 ·simp_all
 rw[decide_eq_false hc,cond_false,cond_false]
 by_cases h0:p.Funcs.length=0
 ·simp_all
 have h0':((p.Funcs.length:Int)==0)=false:=by simp_all
 have hx:ixO p.Funcs 0=some (p.Funcs[0]'(by omega)):=by simp_all
 rw[h0',cond_false,cond_false,hx,aA,aA]
 by_cases hp:(p.Funcs[0]'(by omega)).Params=0
 ·have:((p.Funcs[0]'(by omega)).Params != 0)=false:=by simp_all
  rw[this,cond_false,cond_false];obtain⟨e,e1,e2,e3⟩:=Ast p (by omega) p.Funcs.length 0 (by omega)
  refine⟨e,e1,e2,λh=>⟨by omega,λe=>by simp_all,λf hf=>?_⟩⟩
  grind [aAY]
 ·have:((p.Funcs[0]'(by omega)).Params != 0)=true:=by simp_all
  rw[this];simp_all
def Wu (l:List NQ) (i:Nat):NQ:=(l[i]?).getD ⟨⟨[]⟩,⟨[],[]⟩,⟨[]⟩,⟨0,0,[]⟩⟩
def frY (p:Nq) (R:Nat->Nm×ND×Int×Int) (i:Nat):OA:=⟨((p.Funcs[i]?).map Nm.Params).getD 0,(R i).2.1.Size,(R i).1.Code.map (Pk (R i).1 (R i).2.1)⟩
section
variable {p:Nq} (h:PG p) {al:Int} (hal:QX al/\16<=al/\al<=16777216)
 include h hal
theorem PG.params (hf:p.Funcs[i]? =some f):0<=f.Params/\f.Params<=8:=by
 have _:=hal;exact(h.gw hf).par
theorem PG.small (hf:p.Funcs[i]? =some f):(QF p f al).Size<=1000000000:=(AjC ((h.at hf).lay hal).bas).2.2.2.2.2
theorem PG.AyB {R:Nat->Nm×ND×Int×Int} (hR:∀ (i:Nat) f,p.Funcs[i]? =some f->ChY p i f al (R i)) (hf:p.Funcs[i]? =some f):Avk ((aAH p.Funcs.length).map (frY p R)) al (frY p R i):=by
 have hc:=hR i f hf;have hp:=h.params hal hf;have hb:=h.small hal hf;have hg:=hc.gok;have hsz:=hc.size;obtain⟨s1,s2,s3,s4,s5,s6⟩:=id hc.shape;have hpar:(frY p R i).Params=f.Params:=by grind [frY]
 have hA0:0<=PJ ⟨p.Funcs.set (i:Int).toNat (R i).1⟩ (R i).1 (R i).1.Code.length:=by
  have:=AfS (p:=⟨p.Funcs.set (i:Int).toNat (R i).1⟩) (f:=(R i).1) (m:=(R i).1.Code.length) (k:=0) (aAC _) (aAM _)
  grind [PJ]
 have low:=λx hx=>Auf hg hc.shape (by omega) (x:=x) hx
 have hcl:(frY p R i).Code.length=(R i).1.Code.length:=by simp[frY]
 have hsize:(frY p R i).Size=(R i).2.1.Size:=rfl;refine⟨by omega,by omega,s4,by have:=hg.len;have:=hg.len';omega,λx hx=>?_,λx hx=>?_,λx hx hop=>?_⟩
 ·obtain⟨x0,hx0,rfl⟩:=aAX.1 hx;have:=(low x0 hx0).2.2.1;rw[hcl,hpar,hsize,<- hc.par];simp_all
 ·rw[hcl]at hx;have hln:=hg.len;have hk:(R i).1.Code[(R i).1.Code.length-1]? =some (Nt (R i).1 ((R i).1.Code.length-1:Nat)):=by
   grind [Nt]
  have hx':(frY p R i).Code[(R i).1.Code.length-1]? =some (Pk (R i).1 (R i).2.1 (Nt (R i).1 ((R i).1.Code.length-1:Nat))):=by
   grind [frY]
  rw[hx']at hx;cases hx;refine(low _ (aAB hk)).2.2.2.2 true ?_;rcases hg.last with e|e|e<;>rw[e]<;>simp[PD]
 ·obtain⟨x0,hx0,rfl⟩:=aAX.1 hx;obtain⟨e1,e2⟩:=(low x0 hx0).2.2.2.1 hop;obtain⟨a0,g,hg1,g0,g1⟩:=(hc.arg x0 hx0).2 e1;have hge:=(ArK hx0).2 e1 g hg1;rw[e2];simp only at hg1;have hAl:x0.A.toNat<p.Funcs.length:=by
   grind
  have hpg:((p.Funcs[x0.A.toNat]?).map Nm.Params).getD 0=g.Params:=by
   have hsp:=ArH (p:=p) (i:=(i:Int)) (f:=f) (q:=(R i).1) (by simp_all) hc.par x0.A.toNat
   simp_all
  grind [frY,Pa]
end
open Go Go.Dw Go.Proofs
structure ApE (p:Nq) (al:Int) (o r:List Int×Int):Prop where
 ea:SF p=some al
 hal:QX al/\16<=al/\al<=16777216
 ord:SN (cgR p)=some o
 ho:o=([],8)\/(o.2=0/\o.1.length=(cgR p).length/\∃ done,SR (cgR p) o.1 done)
 b1:Wf (cgR p) (p.Funcs.map λf=>(QF p f al).Size)=some r
 out:YB (cgR p) (p.Funcs.map λf=>(QF p f al).Size) o r
theorem ArJ (hg:GrY g) (w:List Int):∃ o r,SN g=some o/\Wf g w=some r/\YB g w o r/\(o=([],8)\/(o.2=0/\o.1.length=g.length/\∃ done,SR g o.1 done)):=by
 obtain⟨o,e1,e3⟩:=AoR hg;obtain⟨r,h1,h2⟩:=Aty hg (w:=w) e1;simp_all
theorem PG.AwL (h:PG p):∃ al o r,ApE p al o r:=by
 obtain⟨al,ea,_,hal⟩:=h.align;obtain⟨o,r,c1,b1,oW,ho⟩:=ArJ h.gr (p.Funcs.map λf=>(QF p f al).Size)
 exact⟨al,o,r,ea,hal,c1,ho,b1,oW⟩
def ChD (p:Nq) (al:Int) (l:List NQ) (R:Nat->Nm×ND×Int×Int):Prop:=∀ (i:Nat) f,p.Funcs[i]? =some f->RG p i (Wu l i)=some (R i)/\ChY p i f al (R i)/\(R i).1.Code.length<=f.Code.length/\((Wu l i).Live.Out=[]->R i=(f,QF p f al,0,0))
inductive AgY (p:Nq) (l:List NQ) (al:Int) (o r:List Int×Int):PX×Int->Prop
 | cyc:o=([],8)->AgY p l al o r (zB,o.2)
 | over:o.2=0->r.2≠0->AgY p l al o r (zB,r.2)
 | ok (R:Nat->Nm×ND×Int×Int) (rT:List Int×Int) (x0:Int):o.2=0->r.2=0->ChD p al l R->YB (cgR p) (((aAH p.Funcs.length).map (frY p R)).map (·.Size)) o rT->rT.2=0->rT.1[0]? =some x0 ->
  AnB (cgR p) (((aAH p.Funcs.length).map (frY p R)).map (·.Size)) rT.1->AgY p l al o r (⟨⟨al,(aAH p.Funcs.length).map (frY p R)⟩,x0,rT.1,(aAH p.Funcs.length).map λi=>(R i).2.2.1⟩,0)
theorem Auc (n:Int):∀ l,AnO n l=UB n l
 | []=>rfl
 | x::r=>by unfold AnO UB;rw[Auc n r]
theorem Avu (l:List Av):YX l=UI l:=by
 grind [AnD,Rb,Auc,YX,UI]
theorem PG.cg (h:PG p):AnI p=some (cgR p):=by
 have hc:=h.calls;unfold AnI;rw[@Oa _ _ (aAd _) _ ⟨h.few,λf hf=>⟨⟨(h.all f hf).len,(h.all f hf).len'⟩,hc f hf⟩⟩]
 grind [cgR,Avu]
theorem AnB.broken {w c:List Int} (h:AnB g w c):AeD g w c=some (0,false):=by
 unfold AeD;rw[@Oa _ _ (aAd _) _ ⟨h.size,h.row,h.wt,h.cl,h.ge⟩]
theorem ArF {t:PI} (hn:t.Frames.length<=1000000):Ye t=some (t.Frames.map (·.Size)):=by
 have hh:Hs (Ye t) λr=>r=t.Frames.map (·.Size):=by
  refine Hs.loop (λz=>∃ k:Nat,z.2=(k:Int)/\k<=t.Frames.length/\z.1=(t.Frames.take k).map (·.Size)) (λz=>t.Frames.length-z.2.toNat) ⟨0,rfl,aAC _,rfl⟩ ?_
  rintro⟨w,_⟩ ⟨k,rfl,hk,hw⟩;replace hw:w=(t.Frames.take k).map (·.Size):=hw;refine .dec (λhlt=>?_) λ_=>.lft (.pure ?_)
  ·have hx:t.Frames[k]? =some (t.Frames[k]'(by omega)):=aAA _
   rw[Oy,hx,aA,Nw (by omega)]
   refine .chk (by grind) (.cnt ⟨⟨k+1,rfl,by omega,?_⟩,by grind⟩)
   rw[hw,ZQ hx,List.map_append];rfl
  ·have:k=t.Frames.length:=by omega
   subst this;rw[aAR]at hw;exact hw
 obtain⟨r,h1,rfl⟩:=hh;exact h1
theorem AlO (f:Nat->α) (k:Nat):(aAH (k+1)).map f=(aAH k).map f++[f k]:=by grind [List.range_succ]
section
variable {p:Nq} (h:PG p) {al:Int} (hal:QX al/\16<=al/\al<=16777216)
 include h hal
theorem PG.Ama (ea:SF p=some al) (l:List NQ) (hl:∀ x∈l,Qy x.Live.Out/\Qy x.LiveAfter.Out):∃ R:Nat->Nm×ND×Int×Int,ChD p al l R:=by
 have key:∀ i:Nat,∃ r:Nm×ND×Int×Int,∀ f,p.Funcs[i]? =some f->RG p i (Wu l i)=some r/\ChY p i f al r/\r.1.Code.length<=f.Code.length/\((Wu l i).Live.Out=[]->r=(f,QF p f al,0,0)):=by
  intro i;cases hf:p.Funcs[i]? with
  | none=>simp_all
  | some f =>
   have hx:Qy (Wu l i).Live.Out/\Qy (Wu l i).LiveAfter.Out:=by
    unfold Wu;cases hx:l[i]? with
    | none=>exact⟨⟨by simp,by simp⟩,⟨by simp,by simp⟩⟩
    | some x=>grind
   obtain⟨r,h1⟩:=Asv (h.at hf) (h.gw hf) ea hal (Wu l i) hx.1 hx.2;simp_all
 exact Classical.axiomOfChoice key
variable {l:List NQ} {R:Nat->Nm×ND×Int×Int} (hR:ChD p al l R)
 include hR
theorem PG.Azr (hk:k<p.Funcs.length):RG p k (Wu l k)=some (R k)/\(R k).2.2.2=0/\Tn p k (R k).1=some ⟨p.Funcs.set k (R k).1⟩/\WL ⟨p.Funcs.set k (R k).1⟩ k (R k).2.1=some (frY p R k):=by
 have hf:p.Funcs[k]? =some p.Funcs[k]:=aAA hk;obtain⟨h1,h3,_⟩:=hR k _ hf;have hfew:=h.few;have hsm:=h.small hal hf;have hg:=h3.gok;have hsz:=h3.size;have hx:=λx hx=>Auf hg h3.shape (by omega) (x:=x) hx
 have hfs:(⟨p.Funcs.set k (R k).1⟩:Nq).Funcs[k]? =some (R k).1:=aAh (by omega)
 have hl:=hg.len';have e1:=AvM hfs (by omega) (y:=(R k).2.1) (T:=Pk (R k).1 (R k).2.1) (λx hm=>(hx x hm).1) (λx hm=>(hx x hm).2.1)
 have o1:=ArY p (R k).1 (i:=(k:Int)) (by omega) (by omega) (by omega)
 rw[aAE]at o1;refine⟨h1,h3.err,o1,?_⟩;rw[e1,h3.par]
 grind [frY]
theorem PG.Aze (hz:Wo p l g 0 ((aAH p.Funcs.length).map (frY p R)) ((aAH p.Funcs.length).map (λi=>(R i).2.2.1)) (p.Funcs.length:Int)=lft (some z)):RX p l g 0=some z:=by
 have hfew:=h.few;have hh:Hs (RX p l g 0) λr=>r=z:=by
  refine Hs.loop (λs=>∃ k:Nat,s=(0,(aAH k).map (frY p R),(aAH k).map (λi=>(R i).2.2.1),(k:Int))/\k<=p.Funcs.length) (λs=>p.Funcs.length-s.2.2.2.toNat) ⟨0,rfl,aAC _⟩ ?_
  rintro _ ⟨k,rfl,hkl⟩
  by_cases hlt:k<p.Funcs.length
  ·obtain⟨c1,c3,o1,f1⟩:=h.Azr hal hR hlt;have l1:((aAH k).map (frY p R)).length+([frY p R k]:List OA).length<=16777216:=by simp;omega
   have l2:((aAH k).map (λi=>(R i).2.2.1)).length+([(R k).2.2.1]:List Int).length<=16777216:=by simp;omega
   have nx:Hs (cnt (R:=PX×Int) ((0:Int),(aAH k).map (frY p R)++[frY p R k],(aAH k).map (λi=>(R i).2.2.1)++[(R k).2.2.1],IntKind.i64.wrap ((k:Int)+1))) (Rnd (λs:Int×List OA×List Int×Int=>∃ k:Nat,s=(0,(aAH k).map (frY p R),(aAH k).map (λi=>(R i).2.2.1),(k:Int))/\k<=p.Funcs.length) (λs=>p.Funcs.length-s.2.2.2.toNat) ((0:Int),(aAH k).map (frY p R),(aAH k).map (λi=>(R i).2.2.1),(k:Int)) λr:PX×Int=>r=z):=by
    rw[Nw (by omega),<- AlO,<- AlO (λi=>(R i).2.2.1)]
    exact .cnt ⟨⟨k+1,rfl,hlt⟩,by grind⟩
   unfold Wo;dsimp only;rw[decide_eq_true (show(k:Int)<(p.Funcs.length:Int)by omega),cond_true]
   have go:∀ {x},Wu l k=x->RG p k x=some (R k):=λe=>e▸c1
   refine .dec (λhl=>?_) λhl=>?_
   ·refine(Hs.ix (l:=l) (i:=(k:Int)) (by omega) hl λz hz=>hz).bind λx hx=>?_
    simp only[aAE]at hx;simp only[go (show Wu l k=x by grind [Wu]),beq_self_eq_true,cond_true,aA,c3,bne_self_eq_false,cond_false,o1,f1]
    rw[Oa l1,Oa l2];exact nx
   ·simp only[go (show Wu l k=⟨⟨[]⟩,⟨[],[]⟩,⟨[]⟩,⟨0,0,[]⟩⟩by grind [Wu]),beq_self_eq_true,cond_true,aA,c3,bne_self_eq_false,cond_false,o1,f1]
    rw[Oa l1,Oa l2];exact nx
  ·have:k=p.Funcs.length:=by omega
   subst this;rw[hz];exact .lft (.pure rfl)
 obtain⟨r,h1,rfl⟩:=hh;exact h1
end
theorem AjJ (h:PG p) (s1:Wy p=some 0) {al:Int} {o:List Int×Int} (B:ApE p al o r) {l:List NQ} (hR:∃ R,ChD p al l R):∃ z,Ry p l=some z/\AgY p l al o r z:=by
 obtain⟨ea,hal,c1,ho,b1,oW⟩:=B;have hfew:=h.few;have hgr:=h.gr;have hgl:(cgR p).length=p.Funcs.length:=by simp[cgR]
 have start:∀ z,Rs p l (cgR p) o.2=some z->Ry p l=some z:=by
  intro z hz;unfold Ry;simp only[beq_self_eq_true,cond_true,s1,aA];unfold Ur;simp only[beq_self_eq_true,cond_true,h.cg,aA,c1];exact hz
 rcases ho with ho|⟨ho0,hol,done,hord⟩
 ·refine⟨_,start _ ?_,.cyc ho⟩;rw[ho];exact Aos p l _ (by omega) (by decide)
 rw[ho0]at start;have psz:∀ z,TC p l (cgR p) r.2=some z->Ry p l=some z:=λz hz=>start z (h.Azi ea hal l (cgR p) b1 hz)
 by_cases hr0:r.2=0
 ·rw[hr0]at psz;obtain⟨R,hR⟩:=hR;have hF:∀ (i:Nat) f,p.Funcs[i]? =some f->ChY p i f al (R i):=λi f hf=>(hR i f hf).2.1
  obtain⟨t,ht⟩:∃ t:PI,t=⟨al,(aAH p.Funcs.length).map (frY p R)⟩:=⟨_,rfl⟩;have htl:t.Frames.length=p.Funcs.length:=by simp_all
  have w1:=ArF (t:=t) (by omega)
  obtain⟨o',rT,c1',b1',oT,_⟩:=ArJ hgr (t.Frames.map (·.Size));rw[c1]at c1';cases c1';have hle:LeW (t.Frames.map (·.Size)) (p.Funcs.map λf=>(QF p f al).Size):=by
   refine⟨by simp[htl],λi x hx=>?_⟩
   rw[aAa]at hx;obtain⟨f,hf,rfl⟩:=aAj.1 hx;have hil:=(aAF.1 hf).1;have hfr:=(h.AyB hal hF hf).size;refine⟨(frY p R i).Size,?_,hfr.1,(hF i f hf).size⟩;simp_all
  have hT0:=YB.mono oW oT hr0 hle;have hbrk:=oT.Azn hgr hT0 hord hol;have hrl:=hbrk.cl;obtain⟨x0,hx0⟩:∃ x0,rT.1[0]? =some x0:=⟨rT.1[0]'(by omega),aAA _⟩
  have hcert:UJ (cgR p) (t.Frames.map (·.Size)) rT.1=some 0:=by
   unfold UJ;rw[Akr hbrk,aA];rw[hbrk.broken,aA];rfl
  have hmach:ZC t=some 0:=by
   obtain⟨m,hm,hme⟩:=hal.1;refine Auj (t:=t) (by grind [Aix]) (by simp_all) (by omega) (λfr hfr=>?_) λfr hfr=>?_
   ·rw[ht]at hfr ⊢;obtain⟨i,hi,rfl⟩:=aAX.1 hfr;exact h.AyB hal hF (aAA (List.mem_range.1 hi))
   ·have h0:0<p.Funcs.length:=by omega
    rw[ht,aAa,List.getElem?_range h0]at hfr;cases hfr;unfold frY;rw[aAA h0];exact h.zero _ (aAA h0)
  refine⟨(⟨t,x0,rT.1,(aAH p.Funcs.length).map (λi=>(R i).2.2.1)⟩,0),psz _ (h.Aze hal hR ?_),?_⟩
  ·unfold Wo;rw[show(decide ((p.Funcs.length:Int)<(p.Funcs.length:Int)))=false by simp,cond_false]
   simp only[beq_self_eq_true,cond_true,ea,aA,<- ht];simp_all[TB,Us]
  ·rw[ht]at oT hbrk ⊢;exact .ok R rT _ ho0 hr0 hR oT hT0 hx0 hbrk
 ·exact⟨(zB,r.2),psz _ (Aos p l _ (by omega) hr0),.over ho0 hr0⟩
open Go Go.Dw Go.Proofs
theorem Ana {f:Nat->Option Int} {C:Int}:∀ {s:List Int} {b:Int},(∀ j∈s,∃ x,f j.toNat=some x/\0<=x/\x<=C)->0<=b/\b<=C->∃ m,s.foldlM (λa j=>(f j.toNat).map (OM a)) b=some m/\0<=m/\m<=C
 | [],b,_,hb=>⟨b,rfl,hb⟩
 | x::s,b,h,hb=>by
  obtain⟨y,hy,hr⟩:=h x (by simp)
  obtain⟨m,hm,hr'⟩:=Ana (f:=f) (C:=C) (s:=s) (b:=OM b y) (λj hj=>h j (by simp[hj])) (by grind [OM])
  simp_all
theorem Asf {g:List (List Int)} (hg:GrY g) {w order done:List Int} (ho:SR g order done) (hl:order.length=g.length) {M:Int} (hw:w.length=g.length) (hM:∀ x∈w,0<=x/\x<=M) (hmax:(g.length:Int)*M<=2147483647) :
  ∀ (n b:Nat),b<n->∀ i:Nat,order[b]? =some (i:Int)->∃ x,vB g w i=some x/\0<=x/\x<=((b+1:Nat):Int)*M
 | 0,_,h=>by omega
 | n+1,b,hbn=>λi hi=>by
  have hr:=ho.rng _ (aAB hi);have hbl:=(aAF.1 hi).1;obtain⟨s,hs⟩:∃ s,g[i]? =some s:=⟨g[i]'(by omega),aAA _⟩
  obtain⟨y,hy⟩:∃ y,w[i]? =some y:=⟨w[i]'(by omega),aAA _⟩
  have hyr:=hM y (aAB hy);have hM0:0<=M:=by omega
  have hb0:0<=(b:Int)*M:=Int.mul_nonneg (by omega) hM0
  have hb1:((b+1:Nat):Int)*M=(b:Int)*M+M:=by grind
  have hb2:((b+1:Nat):Int)*M<=(g.length:Int)*M:=aAZ (by omega) hM0
  have hgd:g.getD (i:Int).toNat []=s:=by simp_all
  obtain⟨m,hm,hmr⟩:=Ana (f:=vB g w) (C:=(b:Int)*M) (s:=s) (b:=0) (λj hj=>by
   have hrow:=hg.at_ hs;have hj0:=(hrow.1.2 j hj).1;obtain⟨a,ha⟩:=aAG (ho.top b i hi j (hgd▸hj));rw[List.getElem?_take]at ha;split at ha
   ·obtain⟨x,hx,h0,h1⟩:=Asf hg ho hl hw hM hmax n a (by omega) j.toNat (by grind)
    exact⟨x,hx,h0,Int.le_trans h1 (aAZ (by omega) hM0)⟩
   ·cases ha) ⟨Int.le_refl 0,hb0⟩
  refine⟨y+m,?_,by omega,by omega⟩
  rw[Atl hg ho hl hi hs hy];unfold mB
  grind
theorem YB.fits (hg:GrY g) (h1:1<=g.length/\g.length<=80) {w:List Int} {o:List Int×Int} (h:YB g w o r) (h0:o.2=0) {done:List Int} (ho:SR g o.1 done) (hl:o.1.length=g.length) {M:Int} (hw:w.length=g.length) (hM:∀ x∈w,0<=x/\x<=M) (hmax:(g.length:Int)*M<=2147483647) (hM':M<=2147483647):r.2=0:=by
 rcases h with⟨g1,_⟩|⟨_,⟨g2,_⟩|⟨_,⟨⟨i,hi,hn⟩,_⟩|⟨g3,_⟩⟩⟩
 ·exact absurd ⟨h1,hw,λx hx=>by grind⟩ g1
 ·omega
 ·obtain⟨p,hp⟩:=ho.full hl hi
  grind [Asf]
 ·exact g3
set_option maxHeartbeats 40000000
section
theorem Adh {ι R:Type} (body:ι->Option (ι⊕R)) (s:ι):NB body s=(body s).bind (Sum.elim (NB body) some):=by
 grind [Pm]
theorem AnA {n:Int} (h:decide (-9223372036854775808<=n/\n<=9223372036854775807)=true):IntKind.i64.wrap n=n:=by
 grind [wrap64]
theorem Awt (h:UA f.Slots f.Params p.Funcs.length (λt=>0<=t/\t<f.Code.length) x):RD p f x=some 0:=by
 have ten:∀ {op:Int},2<=op->op<12->op=2\/op=3\/op=4\/op=5\/op=6\/op=7\/op=8\/op=9\/op=10\/op=11:=by omega
 cases h with
 | move a b h1 h2 h3 =>
  obtain⟨a0,a1,x,y,hx,hy,e⟩:=h1;have e1:ixO f.Slots a=some x:=by grind [Pa]
  have e2:ixO f.Slots b=some y:=by grind [Pa]
  (try simp only[Tt]at *);simp(config:={decide:=true}) [RD,Rt,Adh,QJ,QL,Ve,QK,Ro,Qd.toList,Oq.toList,chk,lft,cnt,AnA, *]
 | bin op a b c h1 h2 h3 h4 h5=>rcases ten h1 h2 with rfl|rfl|rfl|rfl|rfl|rfl|rfl|rfl|rfl|rfl<;>(try simp only[Tt]at *)<;>simp(config:={decide:=true}) [RD,Rt,Adh,QJ,QL,Ve,QK,Ro,Qd.toList,Oq.toList,chk,lft,cnt,AnA, *]
 | one op a h1 h2=>rcases h1 with rfl|rfl<;>(try simp only[Tt]at *)<;>simp(config:={decide:=true}) [RD,Rt,Adh,QJ,QL,Ve,QK,Ro,Qd.toList,Oq.toList,chk,lft,cnt,AnA, *]
 | two op a b h1 h2 h3=>rcases h1 with rfl|rfl<;>(try simp only[Tt]at *)<;>simp(config:={decide:=true}) [RD,Rt,Adh,QJ,QL,Ve,QK,Ro,Qd.toList,Oq.toList,chk,lft,cnt,AnA, *]
 | _ =>
  (try simp only[Tt]at *);simp(config:={decide:=true}) [RD,Rt,Adh,QJ,QL,Ve,QK,Ro,Qd.toList,Oq.toList,chk,lft,cnt,AnA, *]
theorem AxM {s:List NA} (hl:s.length<=512) (h:∀ x∈s,AaC x):Uj s=some 0:=by
 unfold Uj Pu PQ;have hh:Hs (NB (λst=>Pv s st) 0) λr=>r= -1:=by
  refine Hs.loop (λi=>∃ k:Nat,i=(k:Int)/\k<=s.length) (λi=>s.length-i.toNat) ⟨0,rfl,aAC _⟩ ?_
  rintro _ ⟨k,rfl,hk⟩;refine .dec (λhlt=>?_) λ_=>.lft (.pure rfl)
  obtain⟨x,hx⟩:∃ x,s[k]? =some x:=⟨s[k]'(by omega),aAA _⟩
  obtain⟨h1,m,hm,h2⟩:=h x (aAB hx);have e:TF x=some false:=by
   grind [TF,AkO,Aix]
  rw[Oy,hx,aA,e,aA,Nw (by omega)]
  exact .cond (λe=>absurd e (by simp)) λ_=>.cnt ⟨⟨k+1,rfl,by omega⟩,by grind⟩
 obtain⟨r,h1,rfl⟩:=hh
 grind
theorem AxJ (hi:p.Funcs[i]? =some f) (h:GW p.Funcs.length f):UE p i=some 0:=by
 have hil:=(aAF.1 hi).1;have hl:=h.len';have hl0:=h.len;have hp:=h.par;have hsl:=h.slots;unfold UE Rt;rw[decide_eq_true (by omega),cond_true,decide_eq_true (by omega),aA,Oy,hi,aA,decide_eq_false (by omega),AxM (by omega) h.slot,decide_eq_true (by omega),cond_true,decide_eq_true (by omega)]
 have hh:Hs (NB (λs=>Ss f p s) 0) λr=>r=0:=by
  refine Hs.loop (λi=>∃ k:Nat,i=(k:Int)/\k<=f.Code.length) (λi=>f.Code.length-i.toNat) ⟨0,rfl,aAC _⟩ ?_
  rintro _ ⟨k,rfl,hk⟩;refine .dec (λhlt=>?_) λhlt=>.lft ?_
  ·obtain⟨x,hx⟩:∃ x,f.Code[k]? =some x:=⟨f.Code[k]'(by omega),aAA _⟩
   rw[Oy,hx,aA,Awt (h.body x (aAB hx)),aA,Nw (by omega)]
   exact .bne (λe=>absurd rfl e) λe=>.cnt ⟨⟨k+1,rfl,by omega⟩,by grind⟩
  ·refine .beq (λe=>by omega) λe=>?_
   have hx:f.Code[f.Code.length-1]? =some (f.Code[f.Code.length-1]'(by omega)):=aAA _
   have hcd:Nt f (f.Code.length-1:Nat)=f.Code[f.Code.length-1]'(by omega):=by
    grind [Nt]
   have hlast:=h.last;unfold SQ at hlast;rw[hcd]at hlast;have ht:PD (f.Code[f.Code.length-1]'(by omega)).Op=some true:=by
    grind [PD]
   rw[wrap64 (by omega) (by omega),Pa _ (by omega),show((f.Code.length:Int)-1).toNat=f.Code.length-1 by omega,hx,aA,ht,aA]
   exact .pure rfl
 obtain⟨r,h1,rfl⟩:=hh;exact h1
theorem PG.AyR (h:PG p):Wy p=some 0:=by
 have hfew:=h.few;unfold Wy;have hz0:((p.Funcs.length:Int)==0)=false:=by grind
 have h0:p.Funcs[0]? =some (p.Funcs[0]'(by omega)):=aAA _
 rw[decide_eq_false (by omega),cond_false,hz0,cond_false,show(0:Int)=((0:Nat):Int)from rfl,Oy,h0,aA,h.zero _ h0]
 have hh:Hs (NB (λs=>VD p s) 0) λr=>r=0:=by
  refine Hs.loop (λi=>∃ k:Nat,i=(k:Int)/\k<=p.Funcs.length) (λi=>p.Funcs.length-i.toNat) ⟨0,rfl,aAC _⟩ ?_
  rintro _ ⟨k,rfl,hk⟩;refine .dec (λhlt=>?_) λhlt=>.lft (.pure rfl)
  have hx:p.Funcs[k]? =some (p.Funcs[k]'(by omega)):=aAA _
  rw[AxJ hx (h.all _ (aAB hx)),aA,Nw (by omega)]
  exact .bne (λe=>absurd rfl e) λe=>.cnt ⟨⟨k+1,rfl,by omega⟩,by grind⟩
 obtain⟨r,h1,rfl⟩:=hh;exact h1
end
open Go Go.Dw Go.Proofs
theorem AgY.err {l:List NQ} {al:Int} {o:List Int×Int} (h:AgY p l al o r z) (hr:o.2=0->r.2=0):z.2=o.2:=by
 cases h<;>simp_all
section
variable {p:Nq} (h:PG p) {al:Int} (hal:QX al/\16<=al/\al<=16777216)
 include h hal
theorem PG.Asp (hf:p.Funcs[i]? =some f) (hs:f.Slots.length<=7):0<=(QF p f al).Size/\(QF p f al).Size<=134218024:=by
 have hop:=h.at hf;obtain⟨b1,b2,b3,b4,b5,b6⟩:=AjC (hop.lay hal).bas;have ha:=XN hop.arg (k:=f.Code.length) (aAM _);have:=Acz ⟨hop.sl,λx hx=>(hop.so x hx).al⟩ (a:=16*PJ p f f.Code.length) (by omega) (k:=f.Slots.length) (aAM _)
 omega
end
theorem ApE.fits (h:PG p) (hn:p.Funcs.length<=4) (hs:∀ f∈p.Funcs,f.Slots.length<=7) {al:Int} {o:List Int×Int} (B:ApE p al o r) (h0:o.2=0):r.2=0:=by
 have hfew:=h.few;have hgl:(cgR p).length=p.Funcs.length:=by simp[cgR]
 obtain⟨hl,done,ho⟩:o.1.length=(cgR p).length/\∃ done,SR (cgR p) o.1 done:=by
  rcases B.ho with e|⟨_,h2⟩
  all_goals simp_all
 refine YB.fits h.gr (by omega) B.out h0 ho hl (M:=134218024) (by simp[hgl]) (λx hx=>?_) (by omega) (by omega)
 obtain⟨f,hf,rfl⟩:=aAX.1 hx;obtain⟨i,hi⟩:=aAG hf;exact h.Asp B.hal hi (hs f hf)
theorem YB.Azv {w:List Int} {o:List Int×Int} (hO:YB g w o r) (ho:o.2=0) (hr0:r.2=0):∀ i,i<g.length->∃ x,vB g w i=some x/\r.1[i]? =some x:=by
 rcases hO with⟨_,rfl⟩|⟨_,⟨h2,rfl⟩|⟨_,⟨_,rfl⟩|⟨_,_,h5⟩⟩⟩
 all_goals omega
def prS:Nq:=⟨[⟨0,[],[⟨23,0,0,0,0⟩]⟩]⟩
theorem AkM:PG prS:=by
 refine⟨λf hf=>by cases hf;rfl,by decide,λf hf=>?_⟩
 rw[aAU.1 hf];exact⟨by decide,by decide,(λ_ h=>by cases h),by decide,by decide,(λx hx=>by rw[aAU.1 hx];exact .ret),.inr (.inl rfl)⟩
theorem Ayg:AcT=some true:=by
 obtain⟨al,o,r,B⟩:=AkM.AwL;obtain⟨z,e,hz⟩:=AjJ AkM AkM.AyR B (AkM.Ama B.hal B.ea [] nofun);have hg:cgR prS=[[]]:=rfl;have ho:o.2=0:=by
  rcases B.ho with e|⟨h,_⟩
  ·have hc:=B.ord;rw[e]at hc;obtain⟨i,n,_,_,hw⟩:=AlN AkM.gr hc;obtain⟨j,_,hm⟩:=hw
   grind
  ·exact h
 change ((Ry prS []).bind _).bind _=_;rw[e];have hf:=B.fits AkM (by decide) (λf hf=>by rw[aAU.1 hf];decide) ho
 cases hz with
 | cyc h=>simp_all
 | over _ h=>omega
 | ok R rT x0 _ _ hR oT hT hx0 hb =>
  have hbl:=hb.cl;have hR0:=(hR 0 _ (show prS.Funcs[0]? =some _ from rfl)).2.2.2 rfl
  have hs:(frY prS R 0).Size=0:=by
   show(R 0).2.1.Size=0;rw[hR0];show upN 0 al=0;simp[upN]
  obtain⟨x,hx,hx1⟩:=oT.Azv ho hT 0 (by decide)
  rw[hx0]at hx1;cases hx1;have:vB (cgR prS) (((aAH prS.Funcs.length).map (frY prS R)).map (·.Size)) 0=some 0:=by
   show vB [[]] [(frY prS R 0).Size] 0=some 0;rw[hs];rfl
  rw[hx]at this;cases this;rw[hg]at hbl;simp[hbl,prS]
open Go Go.Dw Go.Proofs
theorem GrY.AuA (hg:GrY g) {j:Int} (h0:0<=j) (h1:j<g.length):ixO g j=some (g.getD j.toNat [])/\Oz (g.getD j.toNat [])/\∀ x∈g.getD j.toNat [],x<g.length:=by
 have hr:g[j.toNat]? =some (g[j.toNat]'(by omega)):=aAA _
 have e:g.getD j.toNat []=g[j.toNat]'(by omega):=by simp_all
 rw[e,Pa _ h0];exact⟨hr,hg.at_ hr⟩
theorem ArN (hg:GrY g) {i first:Int} (hi:0<=i/\i<g.length) {n:Nat} (hn:n<=100000):Hs (AbU g i first n) λb=>b=true↔Way g n i first:=by
 have hgl:=hg.len;refine Hs.loop (λs:List Int×Int=>∃ m:Nat,m<=n/\s.2=(n:Int)-m/\(Oz s.1/\∀ x∈s.1,x<g.length)/\∀ v,v∈s.1↔Way g m i v) (λs=>s.2.toNat) ⟨0,aAC _,by simp,⟨⟨by simp,by simp;omega⟩,by simp;omega⟩,λv=>by simp[Way,eq_comm]⟩ ?_
 rintro⟨at_,k⟩ ⟨m,hm,rfl,ha,hw⟩;replace ha:Oz at_/\∀ x∈at_,x<g.length:=ha;have hal:=ha.1.length_le;dsimp only;refine .dec (λhpos=>?_) λhpos=>.lft ?_
 ·refine Hs.loop (λs:List Int×Int=>∃ k:Nat,s.2=(k:Int)/\k<=at_.length/\(Oz s.1/\∀ x∈s.1,x<g.length)/\∀ v,v∈s.1↔∃ j∈at_.take k,v∈g.getD j.toNat []) (λs=>at_.length-s.2.toNat) ⟨0,rfl,aAC _,⟨⟨by simp,by simp⟩,by simp⟩,λv=>by simp⟩ ?_
  rintro⟨nx,_⟩ ⟨k,rfl,hk,hs,hv⟩;replace hs:Oz nx/\∀ x∈nx,x<g.length:=hs;dsimp only;refine .dec (λhlt=>.chk ⟨by omega,by omega⟩ ?_) λhge=>.lft ?_
  ·have hk':k<at_.length:=by omega
   have hx:at_[k]? =some at_[k]:=aAA hk';have hxm:=aAB hx;have h0:=(ha.1.2 _ hxm).1;have h1:=ha.2 _ hxm;obtain⟨r1,r2,r3⟩:=hg.AuA h0 h1;have hl1:=hs.1.length_le;have hl2:=r2.length_le;rw[aAE,hx,aA,r1,aA,union_eq _ _ (by omega),aA,Nw (by omega)]
   obtain⟨u1,u2⟩:=TZ (n:=g.length) (by omega) hs λx hx=>⟨(r2.2 x hx).1,r3 x hx⟩
   refine .cnt ⟨⟨k+1,rfl,hk',u1,λv=>?_⟩,by grind⟩
   rw[u2,hv];rw[ZQ hx]
   grind
  ·have:k=at_.length:=by omega
   subst this;rw[aAR]at hv;unfold AaM;rw[wrap64 (by omega) (by omega)]
   refine .cnt ⟨⟨m+1,by omega,by omega,hs,λv=>?_⟩,by grind⟩
   grind [Way]
 ·have:m=n:=by omega
  subst this;unfold AaL;rw[AdA _ _ (by omega),aA]
  exact .pure (by show decide (first∈at_)=true↔_;simp_all)
theorem Axm (hg:GrY g):Hs (Aew g) λr=>r.2=true↔∃ (i:Nat) (n:Nat),i<g.length/\n<g.length/\Way g (n+1) i i:=by
 have hgl:=hg.len;refine Hs.loop (λs=>∃ k:Nat,s=(k:Int)/\k<=g.length/\∀ (i:Nat) (n:Nat),i<k->n<g.length->¬ Way g (n+1) i i) (λs=>g.length-s.toNat) ⟨0,rfl,aAC _,λi n h=>by omega⟩ ?_
 rintro _ ⟨k,rfl,hk,hno⟩;refine .dec (λhlt=>?_) λhge=>.lft (.pure ?_)
 ·have hk':k<g.length:=by omega
  refine Hs.loop (λs=>∃ m:Nat,s=((m+1:Nat):Int)/\m<=g.length/\∀ n:Nat,n<m->¬ Way g (n+1) k k) (λs=>g.length+1-s.toNat) ⟨0,rfl,aAC _,λn h=>by omega⟩ ?_
  rintro _ ⟨m,rfl,hm,hnm⟩;refine .dec (λhle=>(ArN hg ⟨by omega,by omega⟩ (by omega)).bind λb hb=>?_) λhgt=>.lft ?_
  ·cases b
   ·simp only[Bool.not_false,cond_true];unfold AaK;rw[Nw (by omega)]
    refine .cnt ⟨⟨m+1,rfl,by omega,λn hn=>?_⟩,by grind⟩
    grind
   ·have hyes:∃ (i:Nat) (n:Nat),i<g.length/\n<g.length/\Way g (n+1) i i:=⟨k,m,hk',by omega,hb.1 rfl⟩
    rw[wrap64 (n:=((m+1:Nat):Int)-1) (by omega) (by omega)]
    refine Hs.loop (λs:List Int×Int=>1<=s.1.length/\0<=s.2/\(s.1.length:Int)+s.2<=g.length/\∀ x∈s.1,0<=x/\x<g.length) (λs=>s.2.toNat) ⟨by simp,by omega,by simp;omega,by simp;omega⟩ ?_
    rintro⟨out,left⟩ ⟨h1,h2,h3,h4⟩;replace h1:1<=out.length:=h1;replace h3:(out.length:Int)+left<=g.length:=h3;dsimp only;refine .dec (λhpos=>?_) λhpos=>.lft (.lft (.lft (.pure (iff_of_true rfl hyes))))
    rw[wrap64 (n:=(out.length:Int)-1) (by omega) (by omega)]
    refine .chk ⟨by omega,by omega⟩ ?_
    have hx:out[((out.length:Int)-1).toNat]? =some (out[((out.length:Int)-1).toNat]'(by omega)):=aAA _
    rw[hx,aA];obtain⟨x0,x1⟩:=h4 _ (aAB hx);obtain⟨r1,r2,r3⟩:=hg.AuA x0 x1;rw[r1,aA];generalize g.getD (out[((out.length:Int)-1).toNat]'(by omega)).toNat []=row at r2 r3
    have hrl:=r2.length_le;refine Hs.loop (λs=>∃ q:Nat,s=(q:Int)/\q<=row.length) (λs=>row.length-s.toNat) ⟨0,rfl,aAC _⟩ ?_
    rintro _ ⟨q,rfl,hq⟩;unfold AdW Yq;rw[wrap64 (n:=left-1) (by omega) (by omega)]
    refine .dec (λhlt2=>?_) λ_=>.lft (.cnt ⟨⟨h1,by omega,by grind,h4⟩,by simp only;omega⟩)
    have hy:row[q]? =some (row[q]'(by omega)):=aAA _
    have hym:=aAB hy;rw[Oy,hy,aA];have hb':=ArN hg (i:=row[q]'(by omega)) (first:=(k:Int)) ⟨(r2.2 _ hym).1,r3 _ hym⟩ (n:=left.toNat) (by omega)
    rw[show((left.toNat:Nat):Int)=left by omega]at hb'
    refine hb'.bind λb _=>.cond (λ_=>?_) λ_=>?_
    ·refine .chk (by simp;omega) (.lft (.cnt ⟨⟨by simp,by omega,by simp;omega,λx hx=>?_⟩,by simp only;omega⟩))
     rcases aAf.1 hx with hx|hx
     ·simp_all
     ·rw[aAU.1 hx];exact⟨(r2.2 _ hym).1,r3 _ hym⟩
    ·rw[Nw (by omega)]
     exact .cnt ⟨⟨q+1,rfl,by omega⟩,by simp only;omega⟩
  ·unfold AaJ;rw[Nw (by omega)]
   have:m=g.length:=by omega
   subst this;refine .cnt ⟨⟨k+1,rfl,hk',λi n hi hn=>?_⟩,by grind⟩
   grind
 ·have:k=g.length:=by omega
  subst this;refine iff_of_false (by simp) ?_
  simp_all
theorem Asw (hlen:f.Code.length<=10000) (hsl:f.Slots.length<=500) (hml:YR f) {Q:Nat->Int->Prop} (hg:Rf f.Slots.length g Q) (hsym:∀ (x y:Nat) r s,g[x]? =some r->g[y]? =some s->(y:Int)∈r->(x:Int)∈s) (hirr:∀ (x:Nat) r,g[x]? =some r->(x:Int)∉r):Hs (VY f g) λto=>Abl f g to:=by
 unfold VY;refine Hs.loop (λs=>∃ k:Nat,s.2=(k:Int)/\k<=f.Slots.length/\s.1.length=k/\∀ j:Nat,j<k->s.1[j]? =some (j:Int)) (λs=>f.Slots.length-s.2.toNat) ⟨0,rfl,aAC _,rfl,λj hj=>absurd hj (aAK _)⟩ ?_
 rintro⟨to,_⟩ ⟨k,rfl,hk,htl,hto⟩;replace htl:to.length=k:=htl;replace hto:∀ j:Nat,j<k->to[j]? =some (j:Int):=hto;refine .dec (λhlt=>?_) λhge=>.lft ?_
 ·have hlt:k<f.Slots.length:=by omega
  refine .chk (by simp;omega) ?_
  rw[Nw (by omega)]
  refine .cnt ⟨⟨k+1,rfl,hlt,by simp[htl],λj hj=>?_⟩,by grind⟩
  grind
 have hkk:k=f.Slots.length:=by omega
 subst hkk;have hid:∀ j:Nat,j<f.Slots.length->NO to j=(j:Int):=by
  grind [NO]
 have hc0:Abl f g to:=by
  refine⟨⟨htl,λs hs=>?_⟩,λx y row hx hy he hr hyr=>?_⟩
  all_goals grind
 clear hto hid;refine(AxH hlen).bind λmv hmv=>?_
 obtain⟨hmvl,hmv⟩:=hmv;refine Hs.loop (λs=>∃ i:Nat,s.2=(i:Int)/\i<=mv.length/\Abl f g s.1) (λs=>mv.length-s.2.toNat) ⟨0,rfl,aAC _,hc0⟩ ?_
 clear hc0 htl hge;rintro⟨to,_⟩ ⟨i,rfl,hi,hc⟩;replace hc:Abl f g to:=hc;have htl:=hc.ok.1;unfold AaR;refine .dec (λhlt=>?_) λ_=>.lft (.pure hc)
 have hlt:i<mv.length:=by omega
 have hgp:mv[i]? =some mv[i]:=aAA _;have hpm:=aAJ hlt;generalize mv[i]=p at hgp hpm;obtain⟨x,hx,hop,rfl⟩:=hmv p hpm;obtain⟨a0,a1,b0,b1,hsz⟩:=hml x hx hop;have hA:=QM (to:=to) (s:=x.A) a0 (by omega)
 have hB:=QM (to:=to) (s:=x.B) b0 (by omega)
 simp only[aAE,hgp,aA,hA,hB];have skip:Hs (RC (i:Int) to) (Rnd (λs:List Int×Int=>∃ i:Nat,s.2=(i:Int)/\i<=mv.length/\Abl f g s.1) (λs=>mv.length-s.2.toNat) (to,(i:Int)) λto=>Abl f g to):=by
  unfold RC;rw[Nw (by omega)]
  exact .cnt ⟨⟨i+1,rfl,hlt,hc⟩,by grind⟩
 refine .chk (by omega) (.chk (by omega) (.chk (by omega) (.chk (by omega) (.beq (λ_=>skip) λhne=>?_))))
 refine(Avo hg htl hsl (NO to x.A) (NO to x.B)).bind λr hr=>.cond (λ_=>skip) λhrt=>?_
 have hap:=hr (by simp_all)
 have nat:∀ {s:Int},0<=s->s<to.length->0<=NO to s/\NO to s<to.length/\Pg f (NO to s)=Pg f s/\NO to (NO to s)=NO to s:=by
  intro s h0 h1;obtain⟨j,rfl⟩:∃ j:Nat,s=(j:Int):=⟨s.toNat,by omega⟩
  exact hc.ok.2 j (by omega)
 obtain⟨qa1,qa2,qa3,qa4⟩:=nat a0 (by omega)
 obtain⟨qb1,qb2,qb3,qb4⟩:=nat b0 (by omega)
 generalize NO to x.A=a at *;generalize NO to x.B=b at *;unfold XX;refine Hs.loop (λs=>∃ k:Nat,s.2=(k:Int)/\k<=to.length/\s.1.length=to.length/\∀ j:Nat,j<to.length->NO s.1 j=if j<k then Si a b (NO to j)else NO to j) (λs=>to.length-s.2.toNat) ⟨0,rfl,aAC _,rfl,λj _=>(by simp)⟩ ?_
 rintro⟨t2,_⟩ ⟨k,rfl,hk,h2l,h2⟩;replace h2l:t2.length=to.length:=h2l;replace h2:∀ j:Nat,j<to.length->NO t2 j=if j<k then Si a b (NO to j)else NO to j:=h2
 unfold AaS;refine .dec (λhlt2=>?_) λhge2=>.lft ?_
 ·have hlt2:k<to.length:=by simp_all
  have hgk:=QM (to:=t2) (s:=(k:Int)) (by omega) (by omega)
  rw[h2 k hlt2,if_neg (Nat.lt_irrefl _)]at hgk;refine .chk (by omega) ?_
  rw[hgk,aA];have fin:∀ q:Bool,(q=true↔NO to k=a\/NO to k=b)->Hs (TL (k:Int) t2 a b q) (Rnd (λs:List Int×Int=>∃ k:Nat,s.2=(k:Int)/\k<=to.length/\s.1.length=to.length/\∀ j:Nat,j<to.length->NO s.1 j=if j<k then Si a b (NO to j)else NO to j) (λs=>to.length-s.2.toNat) (t2,(k:Int)) (Rnd (λs:List Int×Int=>∃ i:Nat,s.2=(i:Int)/\i<=mv.length/\Abl f g s.1) (λs=>mv.length-s.2.toNat) (to,(i:Int)) λto=>Abl f g to)):=by
   intro q hq;unfold TL;rw[Nw (by omega)]
   refine .cond (λh=>.chk (by omega) ?_) λh=>.cnt ⟨⟨k+1,rfl,hlt2,h2l,λj hj=>?_⟩,by grind⟩
   ·rw[hgk,aA];refine .cnt ⟨⟨k+1,rfl,hlt2,by simp[h2l],λj hj=>?_⟩,by grind⟩
    by_cases e:j=k
    ·simp_all[NO,Si]
    ·have:=h2 j hj;simp only[NO,aAE]at this ⊢
     grind
   ·show NO t2 j=_;rw[h2 j hj]
    by_cases e:j=k
    ·simp_all[Si]
    omega
  refine .beq (λh=>fin true ⟨λ_=>.inl h,λ_=>rfl⟩) λh=>.chk (by omega) ?_
  exact fin _ ⟨λh'=>.inr (by simp_all),λh'=>by simp_all⟩
 ·have hkk:k=to.length:=by grind
  subst hkk;unfold RC;rw[Nw (by omega)]
  refine .cnt ⟨⟨i+1,rfl,hlt,?_⟩,by simp only;omega⟩
  refine hc.join hg hsym (a:=a) (b:=b) ⟨qa1,by omega⟩ ⟨qb1,by omega⟩ qa4 qb4 (by rw[qa3,qb3,hsz]) hap h2l λj hj=>?_
  simp_all
def AfQ (f:Nm) (l:List (List Int)) (k:Nat):Prop:=((Nt f k).Op=16\/(Nt f k).Op=17)/\(Nt f k).A∉NW l k
theorem Axg (hf:NZ f) {l:NS} (hl:RJ f l.Out) (hk:k<f.Code.length):Hs (AbO f l (k:Int)) λb=>b=true↔AfQ f l.Out k:=by
 have hx:=hf.at (j:=(k:Int)) (by omega) (by omega)
 have hrow:=hl.at (j:=(k:Int)) (by omega) (by omega)
 rw[aAE]at hx hrow;have hlo:=hrow.2.1.length_le;unfold AbO;simp only[Oy,hx.1,aA,AkN,AgH]
 by_cases hd:(Nt f k).Op=16\/(Nt f k).Op=17
 ·rw[if_pos hd];simp only[cond_true,hrow.1,aA];rw[AdA _ _ (by omega),aA]
  exact .pure ⟨λh=>⟨hd,by simp_all⟩,λh=>by simpa using h.2⟩
 ·rw[if_neg hd];exact .pure ⟨λh=>(by cases h),λh=>(hd h.1).elim⟩
theorem Axs (hf:NZ f) {l:NS} (hl:RJ f l.Out) {to:List Int} (hml:YR f) (htl:to.length=f.Slots.length):Hs (AbN f l to) λkeep=>keep.length=f.Code.length/\∀ k:Nat,k<f.Code.length->(Ob keep k=true↔¬ AfQ f l.Out k/\¬ ((Nt f k).Op=17/\NO to (Nt f k).A=NO to (Nt f k).B)):=by
 have hlen:=hf.len';refine Hs.loop (λs=>∃ k:Nat,s.2=(k:Int)/\k<=f.Code.length/\s.1.length=k/\∀ j:Nat,j<k->(Ob s.1 j=true↔¬ AfQ f l.Out j/\¬ ((Nt f j).Op=17/\NO to (Nt f j).A=NO to (Nt f j).B))) (λs=>f.Code.length-s.2.toNat) ⟨0,rfl,aAC _,rfl,λj hj=>absurd hj (aAK _)⟩ ?_
 rintro⟨keep,_⟩ ⟨k,rfl,hk,hkl,hkp⟩;replace hkl:keep.length=k:=hkl;refine .dec (λhlt=>?_) λhge=>.lft (.pure ?_)
 ·have hlt:k<f.Code.length:=by omega
  have hx:=hf.at (j:=(k:Int)) (by omega) (by omega)
  rw[aAE]at hx;simp only[Oy,hx.1,aA];rw[Nw (by omega)]
  have fin:∀ q:Bool,(q=true↔¬ AfQ f l.Out k/\¬ ((Nt f k).Op=17/\NO to (Nt f k).A=NO to (Nt f k).B))->Hs (chk (keep.length+([q]:List Bool).length<=16777216) (cnt (keep++([q]:List Bool),((k+1:Nat):Int)):Option ((List Bool×Int)⊕List Bool))) (Rnd (λs:List Bool×Int=>∃ k:Nat,s.2=(k:Int)/\k<=f.Code.length/\s.1.length=k/\∀ j:Nat,j<k->(Ob s.1 j=true↔¬ AfQ f l.Out j/\¬ ((Nt f j).Op=17/\NO to (Nt f j).A=NO to (Nt f j).B))) (λs=>f.Code.length-s.2.toNat) (keep,(k:Int)) λkeep=>keep.length=f.Code.length/\∀ k:Nat,k<f.Code.length->(Ob keep k=true↔¬ AfQ f l.Out k/\¬ ((Nt f k).Op=17/\NO to (Nt f k).A=NO to (Nt f k).B))):=by
   intro q hq;refine .chk (by simp;omega) (.cnt ⟨⟨k+1,rfl,hlt,by simp[hkl],λj hj=>?_⟩,by grind⟩)
   grind [Ob,List.getElem?_concat_length]
  refine(Axg hf hl hlt).bind λr hr=>.cond (λh=>?_) λh=>fin false ⟨λh=>(by cases h),λh'=>(h'.1 (hr.1 (by simp_all))).elim⟩
  have hnd:¬ AfQ f l.Out k:=λh'=>by simp_all
  refine .beq (λh17=>?_) λh17=>fin true ⟨λ_=>⟨hnd,λh=>h17 h.1⟩,λ_=>rfl⟩
  obtain⟨a0,a1,b0,b1,_⟩:=hml _ hx.2 h17
  grind [Pa,QM]
 ·have hkk:k=f.Code.length:=by omega
  subst hkk;exact⟨hkl,hkp⟩
def Zv (n:Nat) (f:Nm):Prop:=∀ x∈f.Code,x.Op=22->0<=x.A/\x.A<n
theorem Sc.calls {ps:List Int} {i most:Int} (h:Sc ps i most f) (hi:0<=i):Zv ps.length f:=by
 intro x hx hop;obtain⟨k,hk⟩:=aAG hx;have hkl:=(aAF.1 hk).1
 by_cases hk1:k+1<f.Code.length
 ·have hins:=h.body k x hk hk1;cases hins<;>grind
 ·have he:=h.last x (by grind)
  rcases he with rfl|⟨w,_,rfl⟩<;>simp at hop
theorem AsY {n:Nat} (h:Zv n f) {keep:List Bool} {to pl:List Int} (hk:f.Code.length<=keep.length):∀ x∈TH f keep to pl f.Code.length,x.Op=22->0<=x.A/\x.A<n:=by
 intro x hx hop;obtain⟨p,hp⟩:=aAG hx;obtain⟨j,h1,_,_,rfl⟩:=(VB (f:=f) (keep:=keep) (to:=to) (pl:=pl) _ hk).2 p x hp;have hm:Nt f (j:Nat)∈f.Code:=by
  grind [Nt]
 have ho:(mvI pl (rnI to (Nt f (j:Nat)))).Op=(Nt f (j:Nat)).Op:=by
  refine Eq.trans ?_ (AbW to _)
  grind [mvI]
 rw[ho]at hop;have e:mvI pl (rnI to (Nt f (j:Nat)))=Nt f (j:Nat):=by grind [mvI,rnI]
 rw[e];exact h _ hm hop
theorem Arj (hf:NZ f) (hd:Qx f) (hlast:SQ f) {n:Nat} (hc:Zv n f) {r:NF} (hr:SS f r):Hs (Qv f r) λq=>q.2=0/\NZ q.1/\Qx q.1/\Zv n q.1:=by
 obtain⟨q,e,h1,h2,h3⟩:=AmN hf hd hlast hr;obtain⟨q',e',_,used,to,pl,_,_,_,_,_,_,_,_,cd⟩:=AlV hf hd hr;rw[e]at e';cases e';refine⟨q,e,h1,h2,h3,?_⟩;unfold Zv;rw[cd];exact AsY hc (by rw[hr.2.1];omega)
theorem Asx (hf:NZ f) (hd:Qx f) (hml:YR f) {l:NS} (hacc:Acc f l.Out):Hs (AcX f l) λg=>Hs (VY f g.1) λto=>Hs (AbN f l to) λkeep=>SS f ⟨to,keep⟩:=by
 have hlen:=hf.len';have hsl:=hf.slots;refine Hs.mono (P:=Aag AkK f l.Out) ?_ λg hg=>?_
 ·exact(AoW hf hd (hacc.1.len hf) false).bind λr hr=>.pure hr
 rcases hg with⟨_,_,hg⟩|⟨_,hn,_⟩
 rotate_left
 ·simp_all
 refine(Asw hlen hsl hml hg (λx y r s hr hs hy=>((hg.2 y s hs).2 _).2 (((hg.2 x r hr).2 _).1 hy).symm) λx r hr hx=>?_).mono λto hto=>?_
 ·rcases((hg.2 x r hr).2 _).1 hx with⟨_,_,_,_,_,_,h',_⟩|⟨_,_,_,_,_,_,h',_⟩<;>exact h' rfl
 refine(Axs hf hacc.1 hml hto.ok.1).mono λkeep ⟨hkl,hkp⟩=>⟨hto.ok,hkl,λk hk h=>?_⟩
 by_cases h1:AfQ f l.Out k
 ·exact h1.1
 grind
theorem AiC {i:Int} (hi:ixO p.Funcs i=some f) (hf:NZ f) (hd:Qx f) (hml:YR f) (hlast:SQ f) (hc:Zv p.Funcs.length f) (hp:p.Funcs.length<=1000):Hs (UD p i) λq=>SS f q.Rename/\Acc f q.Live.Out/\Qy q.LiveAfter.Out:=by
 obtain⟨i0,i1,_⟩:=WK hi;unfold UD;rw[hi,aA];refine(AmI hf).bind λl hl=>?_
 have hacc:=hl.acc hf;refine(Asx hf hd hml hacc).bind λg hg=>hg.bind λto hto=>hto.bind λkeep hr=>?_
 refine(Arj hf hd hlast hc hr).bind λq ⟨_,qf,qd,qc⟩=>?_
 refine(AmI qf).bind λl2 hl2=>?_
 have hacc2:=hl2.acc qf;refine Hs.bind (P:=Aag Amo q.1 l2.Out) ?_ λs hs=>?_
 ·exact(AoW qf qd (hacc2.1.len qf) true).bind λr hr=>.pure hr
 have hrows:∀ row∈s.1,row.length<=512:=by
  rcases hs with⟨_,_,hs⟩|⟨_,hn,_⟩
  ·intro row hrow;obtain⟨k,hk⟩:=aAG hrow;exact(hs.2 k row hk).1.1.length_le
  simp_all
 refine(ArL hi hf.len' hc).bind λa _=>(Att _ qf.slots hrows a).bind λo _=>.bne (λ_=>.pure ⟨hr,hacc,hacc2.1.len qf⟩) λ_=>?_
 have hset:ixO (p.Funcs.set i.toNat q.1) i=some q.1:=by
  grind [Pa]
 refine Hs.bind (P:=λr=>r=⟨p.Funcs.set i.toNat q.1⟩) ?_ λr hr'=>?_
 ·refine Hs.bind (P:=λr=>r=⟨p.Funcs.set i.toNat q.1⟩) (.chk (by simp;omega) (.chk (by simp;omega) ((Hs.get (P:=λ_=>True) i0 (by simp;omega) λ_ _=>trivial).bind λ_ _=>.pure (by simp)))) λr h=>.pure h
 subst hr';exact(Auq p hp).bind λal _=>(AtW hset qf.len' qf.slots (by grind [Zv]) al _).bind λy _=>.pure ⟨hr,hacc,hacc2.1.len qf⟩
theorem Yg (h:okC c):Hs (Px c) λp=>okC p.2/\I64 p.1:=by
 refine(NM h (by omega) (by omega)).bind λr hr=>.beq (λ_=>?_) λ_=>?_
 ·refine(NM hr.1 (by simp) (by simp)).bind λq hq=>.chk ?_ ?_
  ·omega
  ·refine(Hs.get hq.2.1 (by omega) λx hx=>aAB hx).bind λx hx=>.pure ⟨hq.1,?_⟩
   simp at hx
   grind [I64]
 ·exact(NM hr.1 (by omega) (by omega)).bind λq hq=>(NM hq.1 (by omega) (by omega)).bind λu hu=>.chk hu.2.1 (.pure ⟨hu.1,Axq _⟩)
theorem ArU (h:okC c) (hf:NZ f):Hs (Wh c f) λp=>okC p.2/\p.1.Out.length<=f.Code.length/\Adk p.1.Out:=by
 have hlen:=hf.len;have hlen':=hf.len';have hsl:=hf.slots;refine(AmI hf).bind λl hl=>(NM h (by omega) (by omega)).bind λr hr=>.beq (λ_=>?_) λ_=>?_
 ·exact .pure ⟨hr.1,by have:=hl.ok.1;simp_all,YS.rows λs hs=>(hl.ok.2 s hs).1⟩
 ·refine .chk (by have:=hl.ok.1;simp;omega) ((NM hr.1 (by omega) (by omega)).bind λq hq=>?_)
  have j1:∀ {l:List Int} {a:Int} {x:List (List Int)},okC ⟨l,a⟩->x.length=f.Code.length->YS x->Hs (Ud l a x) λp=>okC p.2/\p.1.Out.length<=f.Code.length/\Adk p.1.Out:=by
   intro l a x hc hx hs;refine(NM hc (by omega) (by omega)).bind λr hr=>.beq (λ_=>?_) λ_=>.beq (λ_=>?_) λ_=>?_
   ·refine .chk (by omega) (.pure ⟨hr.1,by simp;omega,λs hm=>hs.rows s (List.mem_of_mem_drop hm)⟩)
   ·refine(Yg hr.1).bind λu hu=>(Yg hu.1).bind λv hv=>.chk (by omega) ((Hs.get (by omega) (by omega) λx hx=>hx).bind λ_ _=>.pure ⟨hv.1,by simp;omega,λs hm=>?_⟩)
    rcases aAQ hm with h1|rfl
    ·exact hs.rows s h1
    simp_all
   ·exact .pure ⟨hr.1,by simp_all,hs.rows⟩
  refine Hs.loop (λs=>okC ⟨s.1,s.2.1⟩/\s.2.2.1.length=f.Code.length/\YS s.2.2.1/\0<=s.2.2.2/\s.2.2.2<4) (λs=>s.2.2.2.toNat) ⟨hq.1,by simpa using hl.ok.1,λs hs=>(hl.ok.2 s (by simp_all)).1,hq.2⟩ ?_
  rintro⟨l,a,x,n⟩ ⟨hc,hx,hs,hn0,hn1⟩;simp only at hc hx hs hn0 hn1;have w:IntKind.i64.wrap (n-1)=n-1:=wrap64 (by omega) (by omega)
  refine .dec (λhlt=>.dec (λhsl0=>?_) λ_=>.lft (j1 hc hx hs)) λ_=>.lft (j1 hc hx hs)
  have hlt:0<n:=hlt;have j4:∀ {l:List Int} {a:Int} {y:List (List Int)},okC ⟨l,a⟩->y.length=f.Code.length->YS y->Hs (Sy n l a y) (Rnd (λs:List Int×Int×List (List Int)×Int=>okC ⟨s.1,s.2.1⟩/\s.2.2.1.length=f.Code.length/\YS s.2.2.1/\0<=s.2.2.2/\s.2.2.2<4) (λs=>s.2.2.2.toNat) (‹List Int›,‹Int›,x,n) (λp:NS×Mk=>okC p.2/\p.1.Out.length<=f.Code.length/\Adk p.1.Out)):=by
   intro l a y hc hy hs;exact .cnt ⟨⟨hc,hy,hs,by grind,by grind⟩,by grind⟩
  refine(NM hc (by omega) (by omega)).bind λu hu=>(NM hu.1 (by omega) (by omega)).bind λv hv=>.beq (λ_=>?_) λ_=>?_
  ·refine Hs.loop (λs=>s.1.length=f.Code.length/\YS s.1/\0<=s.2/\s.2<=f.Code.length) (λs=>f.Code.length-s.2.toNat) ⟨hx,hs,by simp,by simp⟩ ?_
   rintro⟨y,k⟩ ⟨hy,hys,hk0,hk1⟩;refine .dec (λhk=>?_) λ_=>.lft (j4 hv.1 hy hys)
   have wk:IntKind.i64.wrap (k+1)=k+1:=wrap64 (by omega) (by omega)
   refine .chk ⟨hk0,hk⟩ ((Hs.get hk0 hk λz hz=>hys z (aAB hz)).bind λz hz=>?_)
   rw[add_eq z u.1 (by have:=hz.length_le;omega),aA]
   refine .chk ⟨hk0,hk⟩ ((Hs.get hk0 hk λz hz=>hz).bind λ_ _=>.cnt ⟨⟨by simp_all,hys.set (hz.add _),by grind,by grind⟩,by grind⟩)
  ·refine(NM hv.1 (n:=(x.length:Int)) (by omega) (by omega)).bind λk hk=>(NM hk.1 (by omega) (by omega)).bind λt ht=>.beq (λ_=>?_) λ_=>?_
   ·refine .chk hk.2 ((Hs.get hk.2.1 hk.2.2 λz hz=>hs z (aAB hz)).bind λz hz=>?_)
    rw[add_eq z u.1 (by have:=hz.length_le;omega),aA]
    exact .chk hk.2 ((Hs.get hk.2.1 hk.2.2 λz hz=>hz).bind λ_ _=>j4 ht.1 (by simp_all) (hs.set (hz.add _)))
   ·refine .chk hk.2 ((Hs.get hk.2.1 hk.2.2 λz hz=>hs z (aAB hz)).bind λz hz=>?_)
    rw[AoV z u.1 (by have:=hz.length_le;omega),aA]
    exact .chk hk.2 ((Hs.get hk.2.1 hk.2.2 λz hz=>hz).bind λ_ _=>j4 ht.1 (by simp_all) (hs.set (hz.filter _)))
theorem Ato (h:okC c) {i:Int} (hi:ixO p.Funcs i=some f) (hf:NZ f) (hd:Qx f) (hml:YR f) (hlast:SQ f) (hc:Zv p.Funcs.length f) (hp:p.Funcs.length<=1000) :
  Hs (UM c p i) λq=>okC q.2/\q.1.To.length=f.Slots.length/\q.1.Keep.length=f.Code.length:=by
 have hlen:=hf.len';have hlen1:=hf.len;have hsl:=hf.slots;unfold UM;rw[hi,aA];refine(AiC hi hf hd hml hlast hc hp).bind λq hq=>?_
 obtain⟨⟨hto,hkl,_⟩,_⟩:=hq;have htl:=hto.1;refine .chk (by simp;omega) (.chk (by simp;omega) ?_)
 have j1:∀ {l:List Int} {a:Int} {x:List Int} {y:List Bool},okC ⟨l,a⟩->x.length=f.Slots.length->y.length=f.Code.length->Hs (SX f l a x y) λq=>okC q.2/\q.1.To.length=f.Slots.length/\q.1.Keep.length=f.Code.length:=by
  intro l a x y hc hx hy;refine(NM hc (by omega) (by omega)).bind λr hr=>?_
  refine Hs.loop (λs=>okC ⟨s.1,s.2.1⟩/\s.2.2.1.length=f.Slots.length/\s.2.2.2.1.length=f.Code.length/\0<=s.2.2.2.2/\s.2.2.2.2<4) (λs=>s.2.2.2.2.toNat) ⟨hr.1,hx,hy,hr.2.1,hr.2.2⟩ ?_
  rintro⟨l,a,x,y,n⟩ ⟨hc,hx,hy,hn0,hn1⟩;replace hx:x.length=f.Slots.length:=hx;replace hy:y.length=f.Code.length:=hy;replace hn0:0<=n:=hn0;replace hn1:n<4:=hn1;have w:IntKind.i64.wrap (n-1)=n-1:=wrap64 (by omega) (by omega)
  dsimp only;refine .dec (λhp=>?_) λ_=>.lft (.pure ⟨hc,hx,hy⟩)
  have j5:∀ {l:List Int} {a:Int} {x:List Int} {y:List Bool},okC ⟨l,a⟩->x.length=f.Slots.length->y.length=f.Code.length->Hs (Pe n l a x y) (Rnd (λs:List Int×Int×List Int×List Bool×Int=>okC ⟨s.1,s.2.1⟩/\s.2.2.1.length=f.Slots.length/\s.2.2.2.1.length=f.Code.length/\0<=s.2.2.2.2/\s.2.2.2.2<4) (λs=>s.2.2.2.2.toNat) (‹List Int›,‹Int›,x,y,n) (λq:NF×Mk=>okC q.2/\q.1.To.length=f.Slots.length/\q.1.Keep.length=f.Code.length)):=by
   intro l a x y hc hx hy;unfold Pe;exact .cnt ⟨⟨hc,hx,hy,by grind,by grind⟩,by grind⟩
  refine(NM hc (by omega) (by omega)).bind λr hr=>(NM hr.1 (by omega) (by omega)).bind λu hu=>?_
  have j7:∀ {l:List Int} {a:Int} (b:Bool),okC ⟨l,a⟩->Hs (RO r y n x l a b) (Rnd (λs:List Int×Int×List Int×List Bool×Int=>okC ⟨s.1,s.2.1⟩/\s.2.2.1.length=f.Slots.length/\s.2.2.2.1.length=f.Code.length/\0<=s.2.2.2.2/\s.2.2.2.2<4) (λs=>s.2.2.2.2.toNat) (‹List Int›,‹Int›,x,y,n) (λq:NF×Mk=>okC q.2/\q.1.To.length=f.Slots.length/\q.1.Keep.length=f.Code.length)):=by
   intro l a b hc;refine .cond (λ_=>.chk (by omega) ((Hs.get (P:=λ_=>True) (by omega) (by omega) λ_ _=>trivial).bind λv _=>.chk (by omega) ((Hs.get (P:=λ_=>True) (by omega) (by omega) λ_ _=>trivial).bind λ_ _=>j5 hc hx (by simp_all)))) λ_=>j5 hc hx hy
  have j9:∀ {l:List Int} {a:Int} (b:Bool),okC ⟨l,a⟩->0<f.Slots.length\/b=false->Hs (SZ f x n y l a b) (Rnd (λs:List Int×Int×List Int×List Bool×Int=>okC ⟨s.1,s.2.1⟩/\s.2.2.1.length=f.Slots.length/\s.2.2.2.1.length=f.Code.length/\0<=s.2.2.2.2/\s.2.2.2.2<4) (λs=>s.2.2.2.2.toNat) (‹List Int›,‹Int›,x,y,n) (λq:NF×Mk=>okC q.2/\q.1.To.length=f.Slots.length/\q.1.Keep.length=f.Code.length)):=by
   intro l a b hc hb;refine .cond (λe=>?_) λ_=>j5 hc hx hy
   have h0:0<f.Slots.length:=by
    simp_all
   exact(NM hc (n:=(f.Slots.length:Int)) (by omega) (by omega)).bind λs hs=>(Yg hs.1).bind λt ht=>.chk (by omega) ((Hs.get (P:=λ_=>True) (by omega) (by omega) λ_ _=>trivial).bind λ_ _=>j5 ht.1 (by simp_all) hy)
  have j6:∀ b:Bool,Hs (SY f r y n x u b) (Rnd (λs:List Int×Int×List Int×List Bool×Int=>okC ⟨s.1,s.2.1⟩/\s.2.2.1.length=f.Slots.length/\s.2.2.2.1.length=f.Code.length/\0<=s.2.2.2.2/\s.2.2.2.2<4) (λs=>s.2.2.2.2.toNat) (‹List Int›,‹Int›,x,y,n) (λq:NF×Mk=>okC q.2/\q.1.To.length=f.Slots.length/\q.1.Keep.length=f.Code.length)):=by
   intro b;refine .cond (λ_=>?_) λ_=>.beq (λ_=>.dec (λh0=>?_) λ_=>j5 hu.1 hx hy) λ_=>.beq (λ_=>.dec (λh0=>?_) λ_=>j9 false hu.1 (.inr rfl)) λ_=>j5 hu.1 hx hy
   ·refine(Hs.ix (P:=λ_=>True) hr.2.1 hr.2.2 λ_ _=>trivial).bind λz _=>.cond (λ_=>j7 true hu.1) λ_=>.cond (λ_=>j7 true hu.1) λ_=>?_
    exact(NM hu.1 (by omega) (by omega)).bind λv hv=>j7 _ hv.1
   ·refine(NM hu.1 (n:=(f.Slots.length:Int)) (by omega) (by omega)).bind λs hs=>(ArT hs.1 hs.2.1 hs.2.2 (by omega)).bind λt ht=>?_
    obtain⟨t0,t1,_⟩:=ht.2;refine .chk (by omega) ((Hs.get (P:=λ_=>True) (by omega) (by omega) λ_ _=>trivial).bind λv _=>?_)
    refine Hs.loop (λq=>∃ k:Nat,q.2=(k:Int)/\k<=f.Slots.length/\q.1.length=f.Slots.length) (λq=>f.Slots.length-q.2.toNat) ⟨0,rfl,aAC _,hx⟩ ?_
    rintro⟨z,_⟩ ⟨k,rfl,hk,hz⟩;replace hz:z.length=f.Slots.length:=hz;dsimp only;refine .dec (λhlt=>?_) λ_=>.lft (j5 ht.1 hz hy)
    have hlt:k<f.Slots.length:=by omega
    rw[Nw (by omega)]
    exact .chk (by omega) ((Hs.get (P:=λ_=>True) (by omega) (by omega) λ_ _=>trivial).bind λ_ _=>.beq (λ_=>.chk (by omega) ((Hs.get (P:=λ_=>True) (by omega) (by omega) λ_ _=>trivial).bind λ_ _=>.cnt ⟨⟨k+1,rfl,hlt,by simp_all⟩,by grind⟩)) λ_=>.cnt ⟨⟨k+1,rfl,hlt,hz⟩,by grind⟩)
   ·have h0:0<f.Slots.length:=by omega
    exact(NM hu.1 (by omega) (by omega)).bind λv hv=>j9 _ hv.1 (.inl h0)
  exact .cond (λ_=>j6 _) λ_=>j6 _
 refine(NM h (by omega) (by omega)).bind λr hr=>.cond (λ_=>?_) λ_=>j1 hr.1 (by simp_all) (by simp_all)
 refine Hs.loop (λq=>∃ k:Nat,q.2=(k:Int)/\k<=f.Slots.length/\q.1.length=f.Slots.length) (λq=>f.Slots.length-q.2.toNat) ⟨0,rfl,aAC _,by simp_all⟩ ?_
 rintro⟨x,_⟩ ⟨k,rfl,hk,hx⟩;replace hx:x.length=f.Slots.length:=hx;dsimp only;refine .dec (λhlt=>?_) λ_=>.lft ?_
 ·have hlt:k<f.Slots.length:=by omega
  rw[Nw (by omega)]
  exact .chk (by omega) ((Hs.get (P:=λ_=>True) (by omega) (by omega) λ_ _=>trivial).bind λ_ _=>.cnt ⟨⟨k+1,rfl,hlt,by simp_all⟩,by grind⟩)
 ·refine Hs.loop (λq=>∃ k:Nat,q.2=(k:Int)/\k<=f.Code.length/\q.1.length=f.Code.length) (λq=>f.Code.length-q.2.toNat) ⟨0,rfl,aAC _,by simp_all⟩ ?_
  rintro⟨y,_⟩ ⟨k,rfl,hk,hy⟩;replace hy:y.length=f.Code.length:=hy;dsimp only;refine .dec (λhlt=>?_) λ_=>.lft (j1 hr.1 hx hy)
  have hlt:k<f.Code.length:=by omega
  rw[Nw (by omega)]
  exact .chk (by omega) ((Hs.get (P:=λ_=>True) (by omega) (by omega) λ_ _=>trivial).bind λ_ _=>.cnt ⟨⟨k+1,rfl,hlt,by simp_all⟩,by grind⟩)
theorem AsJ (h:okC c) {i:Int} {al:Int} (hL:Aia p i f al) (hlast:SQ f) (hc:Zv p.Funcs.length f) (hp:p.Funcs.length<=1000):Hs (UL c p i al) λq=>okC q.2:=by
 have hr:=XN hL.arg (k:=f.Code.length) (aAM _);have hbl:(QF p f al).Off.length<=40:=by
  have:=(Acz hL.slots (a:=16*PJ p f f.Code.length) (by omega) (k:=f.Slots.length) (aAM _)).1
  have:=hL.slots.1
  grind [QF]
 have j1:∀ {l:List Int} {a:Int} (y z:Int) {x:List Int},okC ⟨l,a⟩->x.length<=40->Hs (QY l a y z x) λq=>okC q.2:=by
  intro l a y z x hc hx;unfold QY;refine .chk (by simp;omega) ((NM hc (by omega) (by omega)).bind λr hr=>?_)
  refine Hs.loop (λs=>okC ⟨s.1,s.2.1⟩/\(s.2.2.1.length:Int)+s.2.2.2.2.2<=60/\0<=s.2.2.2.2.2) (λs=>s.2.2.2.2.2.toNat) ⟨hr.1,by grind,hr.2.1⟩ ?_
  rintro⟨l,a,x,y,z,n⟩ ⟨hc,hx,hn0⟩;replace hx:(x.length:Int)+n<=60:=hx;replace hn0:0<=n:=hn0;have w:IntKind.i64.wrap (n-1)=n-1:=wrap64 (by omega) (by omega)
  unfold XP;dsimp only;refine .dec (λhp=>?_) λ_=>.lft (.pure hc)
  have hp:0<n:=hp;have fin:∀ {l':List Int} {a':Int} (x':List Int) (y' z':Int),okC ⟨l',a'⟩->x'.length<=x.length+1->Hs (cnt (l',a',x',y',z',IntKind.i64.wrap (n-1)):Option ((List Int×Int×List Int×Int×Int×Int)⊕(ND×Mk))) (Rnd (λs=>okC ⟨s.1,s.2.1⟩/\(s.2.2.1.length:Int)+s.2.2.2.2.2<=60/\0<=s.2.2.2.2.2) (λs=>s.2.2.2.2.2.toNat) (l,a,x,y,z,n) λq=>okC q.2):=by
   intro l' a' x' y' z' hc' hx';exact .cnt ⟨⟨hc',by grind,by grind⟩,by grind⟩
  have hm:1<=OM 1 (x.length:Int)/\OM 1 (x.length:Int)<=70:=by grind [OM]
  refine(NM hc hm.1 (by omega)).bind λr hr=>(NM hr.1 (by omega) (by omega)).bind λu hu=>?_
  have kx:∀ {b:Bool},(b=true->r.1<(x.length:Int))->(b=true->r.1.toNat<x.length):=λhb e=>by simp_all
  have j5:∀ {l':List Int} {a':Int} (b:Bool),okC ⟨l',a'⟩->(b=true->r.1<(x.length:Int))->Hs (SW r x y z n l' a' b) (Rnd (λs=>okC ⟨s.1,s.2.1⟩/\(s.2.2.1.length:Int)+s.2.2.2.2.2<=60/\0<=s.2.2.2.2.2) (λs=>s.2.2.2.2.2.toNat) (l,a,x,y,z,n) λq=>okC q.2):=by
   intro l' a' b hc' hb;refine .cond (λe=>(Yg hc').bind λv hv=>.chk (by simp_all) ((Hs.get (P:=λ_=>True) (by omega) (by simp_all) λ_ _=>trivial).bind λ_ _=>fin _ _ _ hv.1 (by simp))) λ_=>fin _ _ _ hc' (by omega)
  have j4:∀ b:Bool,Hs (SV r x u y z n b) (Rnd (λs=>okC ⟨s.1,s.2.1⟩/\(s.2.2.1.length:Int)+s.2.2.2.2.2<=60/\0<=s.2.2.2.2.2) (λs=>s.2.2.2.2.2.toNat) (l,a,x,y,z,n) λq=>okC q.2):=by
   intro b;refine .cond (λ_=>.dec (λhlt=>?_) λ_=>fin _ _ _ hu.1 (by omega)) λ_=>.beq (λ_=>(NM hu.1 (by omega) (by omega)).bind λv hv=>fin _ _ _ hv.1 (by omega)) λ_=>.beq (λ_=>.dec (λhlt=>(NM hu.1 (by omega) (by omega)).bind λv hv=>j5 _ hv.1 λ_=>hlt) λ_=>j5 false hu.1 λe=>by cases e) λ_=>.beq (λ_=>?_) λ_=>fin _ _ _ hu.1 (by omega)
   ·refine(NM hu.1 (n:=(x.length:Int)) (by omega) (by omega)).bind λv hv=>.chk (by omega) ((Hs.get (P:=λ_=>True) (by omega) (by omega) λ_ _=>trivial).bind λq _=>.chk (by omega) ((Hs.get (P:=λ_=>True) (by omega) (by omega) λ_ _=>trivial).bind λ_ _=>fin _ _ _ hv.1 (by simp)))
   ·refine(NM hu.1 (by omega) (by omega)).bind λv hv=>.beq (λ_=>(Yg hv.1).bind λw hw=>fin _ _ _ hw.1 (by omega)) λ_=>.beq (λ_=>(Yg hv.1).bind λw hw=>fin _ _ _ hw.1 (by omega)) λ_=>.beq (λ_=>(NM hv.1 (by omega) (by omega)).bind λw hw=>.chk (by simp;omega) (fin _ _ _ hw.1 (by simp))) λ_=>fin _ _ _ hv.1 (by omega)
  have j3:∀ b:Bool,Hs (RN r x u y z n b) (Rnd (λs=>okC ⟨s.1,s.2.1⟩/\(s.2.2.1.length:Int)+s.2.2.2.2.2<=60/\0<=s.2.2.2.2.2) (λs=>s.2.2.2.2.2.toNat) (l,a,x,y,z,n) λq=>okC q.2):=by
   intro b;refine .cond (λ_=>.dec (λhlt=>(NM hu.1 (by omega) (by omega)).bind λv hv=>.chk (by omega) ((Hs.get (P:=λ_=>True) (by omega) (by omega) λ_ _=>trivial).bind λ_ _=>fin _ _ _ hv.1 (by simp))) λ_=>fin _ _ _ hu.1 (by omega)) λ_=>.cond (λ_=>j4 _) λ_=>j4 _
  grind
 unfold UL;rw[Awk hL.hi hL.Uk.len' hL.arg hL.slots hL.alok hL.al64,aA];refine(NM h (by omega) (by omega)).bind λr hr=>.cond (λ_=>?_) λ_=>j1 _ _ hr.1 hbl
 refine(AiC hL.hi hL.Uk hL.defs hL.ml hlast hc hp).bind λq _=>.cond (λe=>j1 _ _ hr.1 ?_) λ_=>j1 _ _ hr.1 hbl
 grind
def shI (x:Av):Av:=if x.Op=20 then⟨x.Op,x.A+1,x.B,x.C,x.Imm⟩else if x.Op=21 then⟨x.Op,x.A,x.B+1,x.C,x.Imm⟩else x
theorem AyS (x:Av):(shI x).Op=x.Op:=by
 grind [shI]
theorem Ath {code:List Av} (hl:code.length<=1000) (h:∀ x∈code,(x.Op=20->0<=x.A/\x.A<=2000)/\(x.Op=21->0<=x.B/\x.B<=2000)):Hs (AbA code) λr=>r=code.map shI:=by
 refine .chk (by simp;omega) ?_
 rw[aAg];refine Hs.loop (λs=>∃ k:Nat,s.2=(k:Int)/\k<=code.length/\s.1.length=code.length/\∀ j:Nat,s.1[j]? =(code[j]?).map λx=>if j<k then shI x else x) (λs=>code.length-s.2.toNat) ⟨0,rfl,aAC _,rfl,λj=>by simp_all⟩ ?_
 rintro⟨out,_⟩ ⟨k,rfl,hk,ho,hj⟩;replace ho:out.length=code.length:=ho;dsimp only;refine .dec (λhlt=>?_) λhge=>.lft (.pure ?_)
 ·have hk':k<code.length:=by omega
  obtain⟨x,hx⟩:∃ x,code[k]? =some x:=⟨_,aAA hk'⟩;have hok:out[k]? =some x:=by grind
  have hm:=h x (aAB hx);have get:∀ {P:Av->Prop},P x->Hs (out[(k:Int).toNat]?) P:=λhp=>by
   rw[aAE,hok];exact .pure hp
  rw[Nw (by omega)]
  have fin:∀ y,y=shI x->∀ j:Nat,(out.set (k:Int).toNat y)[j]? =(code[j]?).map λx=>if j<k+1 then shI x else x:=by
   grind
  have two:∀ y,y=shI x->Hs (cnt (out.set (k:Int).toNat y,((k+1:Nat):Int)):Option ((List Av×Int)⊕List Av)) (Rnd (λs:List Av×Int=>∃ k:Nat,s.2=(k:Int)/\k<=code.length/\s.1.length=code.length/\∀ j:Nat,s.1[j]? =(code[j]?).map λx=>if j<k then shI x else x) (λs=>code.length-s.2.toNat) (out,(k:Int)) λr=>r=code.map shI):=λy hy =>
   .cnt ⟨⟨k+1,rfl,by omega,by simp_all,fin y hy⟩,by grind⟩
  refine .chk (by omega) ((get (P:=λy=>x=y) rfl).bind ?_)
  rintro _ rfl;refine .beq (λe=>?_) λe=>.beq (λe'=>?_) λe'=>?_
  ·refine .chk (by omega) ((get (P:=λy=>x=y) rfl).bind ?_)
   rintro _ rfl;refine .chk (by omega) ((get (P:=λy=>x=y) rfl).bind ?_)
   rintro _ rfl;refine two _ ?_;unfold shI;rw[if_pos e,wrap64 (by omega) (by omega)]
  ·refine .chk (by omega) ((get (P:=λy=>x=y) rfl).bind ?_)
   rintro _ rfl;refine .chk (by omega) ((get (P:=λy=>x=y) rfl).bind ?_)
   rintro _ rfl;refine two _ ?_;unfold shI;rw[if_neg e,if_pos e',wrap64 (by omega) (by omega)]
  ·have hsx:shI x=x:=by simp_all[shI]
   refine .cnt ⟨⟨k+1,rfl,by omega,ho,λj=>?_⟩,by grind⟩
   grind
 ·have:k=code.length:=by omega
  subst this;refine List.ext_getElem? λj=>?_
  grind
theorem UA.sh {sl:List NA} {np nf:Int} {T T':Int->Prop} (h:UA sl np nf T x) (ht:∀ t,T t->T' (t+1)):UA sl np nf T' (shI x):=by
 cases h with
 | bin op a b c h1 h2 h3 h4 h5 =>
  rw[show shI ⟨op,a,b,c,0⟩=⟨op,a,b,c,0⟩by grind [shI]]
  exact .bin op a b c h1 h2 h3 h4 h5
 | one op a h1 h2 =>
  rw[show shI ⟨op,a,0,0,0⟩=⟨op,a,0,0,0⟩by grind [shI]]
  exact .one op a h1 h2
 | two op a b h1 h2 h3 =>
  rw[show shI ⟨op,a,b,0,0⟩=⟨op,a,b,0,0⟩by grind [shI]]
  exact .two op a b h1 h2 h3
 | jump t h1=>exact .jump _ (ht _ h1)
 | branch a t h1 h2=>exact .branch a _ h1 (ht _ h2)
 | store a b h1 h2 h3=>exact .store a b h1 h2 h3
 | load a b h1 h2 h3=>exact .load a b h1 h2 h3
 | move a b h1 h2 h3=>exact .move a b h1 h2 h3
 | const a w h1=>exact .const a w h1
 | param a b h1 h2 h3=>exact .param a b h1 h2 h3
 | arg a b h1 h2 h3=>exact .arg a b h1 h2 h3
 | call j h1 h2=>exact .call j h1 h2
 | ret=>exact .ret
 | trap w=>exact .trap w
theorem PG.set (h:PG p) {i:Int} {q:Nm} (hi:ixO p.Funcs i=some f) (hq:GW p.Funcs.length q) (hp:q.Params=f.Params):PG ⟨p.Funcs.set i.toNat q⟩/\ixO (⟨p.Funcs.set i.toNat q⟩:Nq).Funcs i=some q:=by
 obtain⟨i0,i1,hif⟩:=WK hi;refine⟨⟨λg hg=>?_,by simpa using h.few,λg hg=>?_⟩,by grind [Pa]⟩
 ·rw[List.getElem?_set]at hg;split at hg
  ·rename_i e;rw[if_pos (by omega)]at hg
   cases hg;rw[hp];exact h.zero f (by simp_all)
  ·exact h.zero g hg
 ·rw[List.length_set];rcases aAQ hg with hm|rfl
  ·exact h.all g hm
  ·exact hq
theorem AtN (h:okC c) {funcs most:Int} (hp:AeJ funcs most p) (hm:most<=100) (hfn:funcs<=79):Hs (UK c p) λq=>okC q.2/\PG q.1:=by
 have hy:=hp.y (by omega) hfn
 have hfew:=hy.few;have hlen:∀ f∈p.Funcs,f.Code.length<=600:=λf hf=>by
  obtain⟨ps,hps,hz,hp1,hp2,hfl,hall⟩:=hp;obtain⟨j,hj⟩:=aAG hf;have:=(hall j f hj).len';omega
 refine(NM h (by omega) (by omega)).bind λr hr=>?_
 refine(Hs.ix (P:=λf=>ixO p.Funcs r.1=some f) hr.2.1 hr.2.2 λf hf=>by grind [Pa]).bind λf hi=>?_
 obtain⟨i0,i1,hif⟩:=WK hi;have hfm:=aAB hif;have hg:=hy.all f hfm;have hl:=hlen f hfm;refine(NM hr.1 (by omega) (by omega)).bind λu hu=>?_
 refine(Ath (by omega) λx hx=>?_).bind ?_
 ·have hb:=hg.body x hx;refine⟨λe=>?_,λe=>?_⟩<;>cases hb<;>first
   | (simp at e;done)
   | (rename_i h1;simp only at h1 ⊢;omega)
   | (simp_all)
   | (simp only at e;omega)
 rintro _ rfl;have hq:GW p.Funcs.length (Nm.mk f.Params f.Slots ([Av.mk 22 u.1 0 0 0]++f.Code.map shI)):=by
  have hcl:([Av.mk 22 u.1 0 0 0]++f.Code.map shI).length=f.Code.length+1:=by simp
  refine⟨hg.par,hg.slots,hg.slot,by simp,by grind,λx hx=>?_,?_⟩
  ·simp only[hcl];rcases aAf.1 hx with hx|hx
   ·rw[aAU.1 hx];exact .call _ hu.2.1 hu.2.2
   ·obtain⟨y,hy',rfl⟩:=aAX.1 hx;exact(hg.body y hy').sh λt ht=>by omega
  ·have h1:=hg.len;have e:Nt (Nm.mk f.Params f.Slots ([Av.mk 22 u.1 0 0 0]++f.Code.map shI)) ((([Av.mk 22 u.1 0 0 0]++f.Code.map shI).length-1:Nat):Int)=shI (Nt f (f.Code.length-1:Nat)):=by
    grind [Nt]
   unfold SQ;simp only[e,AyS];exact hg.last
 refine .chk (by simp;omega) ?_
 rw[AqN p _ (by omega) hr.2.1 hr.2.2,aA]
 exact .pure ⟨hu.1,(hy.set hi hq rfl).1⟩
theorem Atr (hf:NZ f) (hd:Qx f) (r:NF):Hs (Qv f r) λq=>q.2=0->∃ used nm pl,Agw f q.1 r used nm pl:=by
 obtain⟨e,he,h1,h2⟩:=AgR hf r
 by_cases e0:e=0
 ·exact(AoA hf hd (h2.1 e0)).mono λq hq _=>hq.2
 ·unfold Qv;rw[he,aA];exact .bne (λ_=>.pure λe=>(e0 e).elim) λe=>(e0 e).elim
theorem Arz (h:okC c) (hy:PG p) {i:Int} (hi:ixO p.Funcs i=some f):Hs (VI c p i) λq=>okC q.2/\Qy q.1.Live.Out/\Qy q.1.LiveAfter.Out:=by
 obtain⟨i0,i1,hif⟩:=WK hi;have hg:=hy.all f (aAB hif);have hfew:=hy.few;have hf:=hg.Uk;have hop:=hy.opt hi;obtain⟨al,_,ea,hal⟩:=hop.align;refine(AiC hi hf hg.defs hg.AhA hg.last hop.calls (by omega)).bind λq hq=>(NM h (by omega) (by omega)).bind λr hr=>.beq (λ_=>.pure ⟨hr.1,hq.2.1.1.len hf,hq.2.2⟩) λ_=>(NM hr.1 (by omega) (by omega)).bind λu hu=>?_
 have j4:∀ {g:Nm},GW p.Funcs.length g->g.Params=f.Params->∀ {x y:List (List Int)} (a:List Int) (b:List Bool) {l:List Int} {k:Int},okC ⟨l,k⟩->Qy x->Qy y->Hs (Sg p i g.Params g.Slots g.Code x a b q l k y) λq=>okC q.2/\Qy q.1.Live.Out/\Qy q.1.LiveAfter.Out:=by
  intro g hgg hgp x y a b l k hc hx hy';obtain⟨hps,hpi⟩:=hy.set hi hgg hgp;have hop2:=hps.opt hpi;refine(NM hc (by omega) (by omega)).bind λv hv=>.beq (λ_=>?_) λ_=>.pure ⟨hv.1,hx,hy'⟩
  rw[AqN p _ (by omega) i0 i1,aA,ea,aA]
  exact(AsJ hv.1 (hop2.lay hal) hgg.last hop2.calls (by simp;omega)).bind λw hw=>.pure ⟨hw,hx,hy'⟩
 have j3:∀ {g:Nm},GW p.Funcs.length g->g.Params=f.Params->∀ {x:List (List Int)} (a:List Int) (b:List Bool) {l:List Int} {k:Int},okC ⟨l,k⟩->Qy x->Hs (Ri p i x a b q l k g.Params g.Slots g.Code) λq=>okC q.2/\Qy q.1.Live.Out/\Qy q.1.LiveAfter.Out:=by
  intro g hgg hgp x a b l k hc hx;exact(NM hc (by omega) (by omega)).bind λv hv=>.beq (λ_=>(ArU hv.1 hgg.Uk).bind λw hw=>j4 hgg hgp a b hw.1 hx (Adk.len hgg.Uk hw.2.1 hw.2.2)) λ_=>j4 hgg hgp a b hv.1 hx hq.2.2
 have j2:∀ {x:List (List Int)} (a:List Int) (b:List Bool) {l:List Int} {k:Int},okC ⟨l,k⟩->Qy x->Hs (Rh p i x q l k a b) λq=>okC q.2/\Qy q.1.Live.Out/\Qy q.1.LiveAfter.Out:=by
  intro x a b l k hc hx;unfold Rh;rw[hi,aA];refine(Atr hf hg.defs ⟨a,b⟩).bind λg hgq=>.beq (λe=>?_) λ_=>j3 hg rfl a b hc hx
  obtain⟨used,nm,pl,hrw⟩:=hgq e;exact(NM hc (by omega) (by omega)).bind λv hv=>.beq (λ_=>j3 (hrw.gw hg) hrw.par a b hv.1 hx) λ_=>j3 hg rfl a b hv.1 hx
 have j1:∀ {x:List (List Int)} {l:List Int} {k:Int},okC ⟨l,k⟩->Qy x->Hs (Sf p i q l k x) λq=>okC q.2/\Qy q.1.Live.Out/\Qy q.1.LiveAfter.Out:=by
  intro x l k hc hx;exact(NM hc (by omega) (by omega)).bind λv hv=>.beq (λ_=>(Ato hv.1 hi hf hg.defs hg.AhA hg.last hop.calls (by omega)).bind λw hw=>j2 _ _ hw.1 hx) λ_=>j2 _ _ hv.1 hx
 refine .beq (λ_=>?_) λ_=>j1 hu.1 (hq.2.1.1.len hf)
 rw[hi,aA];exact(ArU hu.1 hf).bind λw hw=>j1 hw.1 (Adk.len hf hw.2.1 hw.2.2)
def AmK (l:List NQ):Prop:=∀ x∈l,Qy x.Live.Out/\Qy x.LiveAfter.Out
theorem AqF (h:okC c) (hy:PG p):Hs (US c p) λq=>okC q.2/\AmK q.1:=by
 have hfew:=hy.few;refine Hs.loop (λs=>okC ⟨s.1,s.2.1⟩/\∃ k:Nat,s.2.2.2=(k:Int)/\k<=p.Funcs.length/\s.2.2.1.length=k/\AmK s.2.2.1) (λs=>p.Funcs.length-s.2.2.2.toNat) ⟨h,0,rfl,aAC _,rfl,λx hx=>by cases hx⟩ ?_
 rintro⟨l,a,x,_⟩ ⟨hc,k,rfl,hk,hxl,hx⟩;replace hxl:x.length=k:=hxl;dsimp only;refine .dec (λhlt=>?_) λ_=>.lft ?_
 ·have hi:ixO p.Funcs (k:Int)=some (p.Funcs[k]'(by omega)):=by simp_all
  refine(Arz hc hy hi).bind λq hq=>.chk (by simp;omega) ?_
  rw[Nw (by omega)]
  refine .cnt ⟨⟨hq.1,k+1,rfl,by omega,by simp[hxl],λz hz=>?_⟩,by grind⟩
  rcases aAf.1 hz with hz|hz
  ·exact hx z hz
  simp_all
 ·refine(NM hc (by omega) (by omega)).bind λr hr=>.beq (λ_=>?_) λ_=>.pure ⟨hr.1,hx⟩
  rw[wrap64 (by omega) (by omega)]
  refine(NM hr.1 (by omega) (by omega)).bind λu hu=>.chk (by omega) (.chk (by omega) (.pure ⟨hu.1,λz hz=>hx z (List.mem_of_mem_take hz)⟩))
theorem Amm {B:Int->Option (Int⊕Int)} {n:Nat} {C:Nat->Option Int} (hB:∀ k,k<n->B k=(C k).bind λe=>if e≠0 then some (.inr e)else some (.inl ((k+1:Nat):Int))) :
  ∀ (d k:Nat),k+d=n->NB B (k:Int)=some 0->(∀ j,k<=j->j<n->C j=some 0)/\NB B (n:Int)=some 0
 | 0,k,hk,h=>⟨λj h1 h2=>by omega,by simp_all⟩
 | d+1,k,hk,h=>by
  rw[Pm,hB k (by omega)]at h
  cases hc:C k with
  | none=>simp_all
  | some e =>
   rw[hc]at h
   by_cases h0:e=0
   ·subst h0;obtain⟨h1,h2⟩:=Amm hB d (k+1) (by omega) h
    grind
   simp_all
theorem Azo {c:Prop} [Decidable c] (ha:a≠0):((if c then some a else X)=some 0)↔(¬ c/\X=some 0):=by
 grind
theorem AyE {c:Prop} [Decidable c] (ha:a≠0):((if c then X else some a)=some 0)↔(c/\X=some 0):=by
 grind
theorem ifb {c:Prop} [Decidable c] {b:Bool}:(if c then some b else some false)=some (decide c&&b):=by
 grind
theorem Atm {n l:Int}:win n l=true↔0<=n/\n<l:=by grind [win]
theorem Axr {i k:Int} (hi:ixO p.Funcs i=some f) (hk:ixO f.Code k=some x) (hwi:win i p.Funcs.length=true) (hwk:win k f.Code.length=true) (h:RB p i k=some 0):UA f.Slots f.Params p.Funcs.length (λt=>0<=t/\t<f.Code.length) x:=by
 rw[AyN p f i k x hi hk hwi hwk]at h;unfold Sb at h;rw[hi,aA,hk,aA,Ov,aA]at h
 by_cases hop:0<=x.Op/\x.Op<25
 ·have hw:win x.Op 25=true:=Atm.2 hop;rw[hw]at h;obtain⟨op,A,B,C,I⟩:=x;dsimp only at hop hw h;have h25:op=0\/op=1\/op=2\/op=3\/op=4\/op=5\/op=6\/op=7\/op=8\/op=9\/op=10\/op=11\/op=12\/op=13\/op=14\/op=15\/op=16\/op=17\/op=18\/op=19\/op=20\/op=21\/op=22\/op=23\/op=24:=by omega
  rcases h25 with rfl|rfl|rfl|rfl|rfl|rfl|rfl|rfl|rfl|rfl|rfl|rfl|rfl|rfl|rfl|rfl|rfl|rfl|rfl|rfl|rfl|rfl|rfl|rfl|rfl <;>
   simp[Od,NK,NI,NR,NC,NP,Oe,NT,NV,NJ,OC,Ov,aAD,Azo,AyE,ifb]at h
  all_goals try simp only[Atm]at h
  ·obtain⟨rfl,rfl,h⟩:=h;exact .const A I h
  ·obtain⟨rfl,rfl,h1,h2⟩:=h;exact .two 1 A B (.inl rfl) h1 h2
  ·obtain⟨rfl,h1,h2,h3⟩:=h;exact .bin _ A B C (by decide) (by decide) h1 h2 h3
  ·obtain⟨rfl,h1,h2,h3⟩:=h;exact .bin _ A B C (by decide) (by decide) h1 h2 h3
  ·obtain⟨rfl,h1,h2,h3⟩:=h;exact .bin _ A B C (by decide) (by decide) h1 h2 h3
  ·obtain⟨rfl,h1,h2,h3⟩:=h;exact .bin _ A B C (by decide) (by decide) h1 h2 h3
  ·obtain⟨rfl,h1,h2,h3⟩:=h;exact .bin _ A B C (by decide) (by decide) h1 h2 h3
  ·obtain⟨rfl,h1,h2,h3⟩:=h;exact .bin _ A B C (by decide) (by decide) h1 h2 h3
  ·obtain⟨rfl,h1,h2,h3⟩:=h;exact .bin _ A B C (by decide) (by decide) h1 h2 h3
  ·obtain⟨rfl,h1,h2,h3⟩:=h;exact .bin _ A B C (by decide) (by decide) h1 h2 h3
  ·obtain⟨rfl,h1,h2,h3⟩:=h;exact .bin _ A B C (by decide) (by decide) h1 h2 h3
  ·obtain⟨rfl,h1,h2,h3⟩:=h;exact .bin _ A B C (by decide) (by decide) h1 h2 h3
  ·obtain⟨rfl,rfl,h1,h2⟩:=h;exact .two 12 A B (.inr rfl) h1 h2
  ·obtain⟨rfl,rfl,rfl,h⟩:=h;exact .one 13 A (.inl rfl) h
  ·obtain⟨rfl,rfl,rfl,h⟩:=h;exact .one 14 A (.inr rfl) h
  ·obtain⟨rfl,rfl,h1,h2,h3⟩:=h;exact .load A B h1 h2 h3
  ·obtain⟨rfl,rfl,⟨h1,h2⟩,h3⟩:=h;exact .store A B h1 h2 h3
  ·obtain⟨rfl,rfl,⟨⟨a0,a1⟩,b0,b1⟩,h⟩:=h;rw[Pa _ a0,Pa _ b0,aAA (show A.toNat<f.Slots.length by omega),aAA (show B.toNat<f.Slots.length by omega),aA,aA,AyE (by decide)]at h
   exact .move A B ⟨a0,a1,_,_,aAA _,aAA _,h.1⟩ b0 b1
  ·obtain⟨rfl,rfl,⟨h1,h2⟩,h3⟩:=h;exact .arg A B h1 h2 h3
  ·obtain⟨rfl,rfl,h1,h2,h3⟩:=h;exact .param A B h1 h2 h3
  ·obtain⟨rfl,rfl,rfl,h⟩:=h;exact .jump A h
  ·obtain⟨rfl,rfl,h1,h2⟩:=h;exact .branch A B h1 h2
  ·obtain⟨rfl,rfl,rfl,h1,h2⟩:=h;exact .call A h1 h2
  ·obtain⟨rfl,rfl,rfl,rfl⟩:=h;exact .ret
  ·obtain⟨rfl,rfl,rfl⟩:=h;exact .trap I
 grind [win]
theorem Azh {n:Int} (h:Td n=some true):n∈([1,2,4,8,16]:List Int):=by
 unfold Td at h
 grind
theorem AyM {n:Int} (h:QP n=some true):QX n:=by
 apply aAL;intro hn;have:=AiF n hn 25 0 (by omega)
 grind [QP]
theorem Azj {x:NA} (h:YN x=true):AaC x:=by
 unfold YN at h;rw[Bool.and_eq_true]at h;obtain⟨a,_,a2⟩:=AkD x.Size;obtain⟨b,_,b2⟩:=AiB x.Align;rw[a2,b2]at h;simp only[Option.getD_some]at h;exact⟨Azh (a2.trans (by rw[h.1])),AyM (b2.trans (by rw[h.2]))⟩
theorem AyC (hi:p.Funcs[i]? =some f) (_hn:p.Funcs.length<=80) (hs:f.Slots.length<=40) (h:RY p i=some 0):GW p.Funcs.length f:=by
 have hil:=(aAF.1 hi).1;have hi':ixO p.Funcs (i:Int)=some f:=by simp_all
 have hw:win (i:Int) p.Funcs.length=true:=Atm.2 ⟨by omega,by omega⟩
 unfold RY at h;rw[Ov,aA,hw]at h;simp only[aAP,cond_false,hi',aA]at h;obtain⟨e,e1,e2⟩:=AoU f.Slots;rw[e1,aA]at h;simp only[aAD,decide_eq_true_eq,bne_iff_ne]at h
 by_cases hc:(f.Code.length:Int)>1024
 ·simp_all
 rw[if_neg hc]at h
 by_cases he:e=0
 ·rw[if_neg (by omega)]at h
  by_cases h2:f.Params<0
  ·simp_all
  rw[if_neg h2]at h
  by_cases h3:f.Params>8
  ·simp_all
  rw[if_neg h3]at h;have hsl:∀ x∈f.Slots,AaC x:=λx hx=>by
   rcases e2 with⟨q,_⟩|⟨_,q,_⟩|⟨_,_,q⟩
   all_goals grind [Azj]
  obtain⟨g1,g2⟩:=Amm (B:=λs=>Qr f p i s) (n:=f.Code.length) (C:=λk=>RB p i k) (λk hk=>by
   unfold Qr;rw[decide_eq_true (by omega:(k:Int)<(f.Code.length:Int)),cond_true,Nw (by omega)]
   congr 1;funext e
   simp_all) f.Code.length 0 (by omega) h
  rw[Pm]at g2;unfold Qr at g2;rw[decide_eq_false (by omega:¬ (f.Code.length:Int)<(f.Code.length:Int)),cond_false]at g2
  by_cases h0:f.Code.length=0
  ·simp_all
  rw[show((f.Code.length:Int)==0)=false by simp_all,cond_false,wrap64 (n:=(f.Code.length:Int)-1) (by omega) (by omega),show((f.Code.length:Int)-1)=((f.Code.length-1:Nat):Int)by omega,Oy,aAA (show f.Code.length-1<f.Code.length by omega),aA]at g2
  refine⟨⟨by omega,by omega⟩,hs,hsl,by omega,by omega,λx hx=>?_,?_⟩
  ·obtain⟨k,hk⟩:=aAG hx;have hkl:=(aAF.1 hk).1;exact Axr hi' (by simp_all) hw (Atm.2 ⟨by omega,by omega⟩) (g1 k (aAC _) hkl)
  ·have hcd:Nt f (f.Code.length-1:Nat)=f.Code[f.Code.length-1]'(by omega):=by
    grind [Nt]
   unfold SQ;rw[hcd];unfold Sr at g2
   by_cases t1:(f.Code[f.Code.length-1]'(by omega)).Op=20
   ·omega
   by_cases t2:(f.Code[f.Code.length-1]'(by omega)).Op=23
   ·omega
   by_cases t3:(f.Code[f.Code.length-1]'(by omega)).Op=24
   ·omega
   rw[show((f.Code[f.Code.length-1]'(by omega)).Op==20)=false by simp_all,show((f.Code[f.Code.length-1]'(by omega)).Op==23)=false by simp_all,show((f.Code[f.Code.length-1]'(by omega)).Op==24)=false by simp_all]at g2
   cases g2
 simp_all
structure Ack (n:Nat) (p:Nq):Prop where
 few:1<=p.Funcs.length/\p.Funcs.length<=4
 slots:∀ f∈p.Funcs,f.Slots.length<=n
 len:∀ f∈p.Funcs,f.Code.length<=1024
theorem Axd (hn:p.Funcs.length<=80) (hs:∀ f∈p.Funcs,f.Slots.length<=40) (h:WN p=some 0):PG p:=by
 unfold WN at h;rw[decide_eq_false (by omega:¬ (p.Funcs.length:Int)>80),cond_false]at h
 by_cases h0:p.Funcs.length=0
 ·simp_all
 rw[show((p.Funcs.length:Int)==0)=false by simp_all,cond_false,show(0:Int)=((0:Nat):Int)from rfl,Oy,aAA (show 0<p.Funcs.length by omega),aA]at h
 by_cases hp:(p.Funcs[0]'(by omega)).Params=0
 ·rw[show((p.Funcs[0]'(by omega)).Params != ((0:Nat):Int))=false by simp_all,cond_false]at h
  obtain⟨g1,_⟩:=Amm (B:=λs=>SC p s) (n:=p.Funcs.length) (C:=λk=>RY p k) (λk hk=>by
   unfold SC;rw[decide_eq_true (by omega:(k:Int)<(p.Funcs.length:Int)),cond_true,Nw (by omega)]
   congr 1;funext e
   simp_all) p.Funcs.length 0 (by omega) h
  refine⟨λf hf=>?_,⟨by omega,hn⟩,λf hf=>?_⟩
  ·grind
  ·obtain⟨i,hi⟩:=aAG hf;exact AyC hi hn (hs f hf) (g1 i (aAC _) (aAF.1 hi).1)
 grind
theorem AeJ.raw (h:AeJ 4 12 p):Ack 6 p:=by
 obtain⟨ps,_,_,h1,h2,h3,hall⟩:=h;refine⟨by omega,λf hf=>?_,λf hf=>?_⟩<;>(obtain⟨j,hj⟩:=aAG hf)
 ·exact(hall j f hj).slots
 ·have:=(hall j f hj).len';omega
theorem Ack.set {n m:Nat} (h:Ack n p) (hnm:n<=m) (hs:f.Slots.length<=m) (hl:f.Code.length<=1024):Ack m ⟨p.Funcs.set i f⟩:=by
 refine⟨by simpa using h.few,λg hg=>?_,λg hg=>?_⟩<;>rcases aAQ hg with hg|rfl
 ·have:=h.slots g hg;omega
 ·exact hs
 ·exact h.len g hg
 ·exact hl
theorem AyJ (h:okC c) {n:Nat} (hp:Ack n p) (hn:n<=100):Hs (Xm c p) λq=>okC q.2/\Ack (n+1) q.1:=by
 have hfew:=hp.few;unfold Xm;simp only[aAg];refine .chk (by simp;omega) ((NM h (by omega) (by omega)).bind λi hi=>.chk ⟨hi.2.1,by omega⟩ ?_)
 obtain⟨f,hf⟩:∃ f,p.Funcs[i.1.toNat]? =some f:=⟨p.Funcs[i.1.toNat]'(by omega),aAA _⟩
 rw[hf,aA];have hfm:=aAB hf;have hs:=hp.slots f hfm;have hl:=hp.len f hfm;refine .beq (λ_=>.pure ⟨hi.1,⟨hfew,λg hg=>by have:=hp.slots g hg;omega,hp.len⟩⟩) λh0=>?_
 refine .chk (by simp;omega) (.chk (by simp;omega) ?_)
 have fin:∀ {l:List Int} {a:Int} {cd:List Av} {sl:List NA} {np:Int},okC ⟨l,a⟩->cd.length<=1024->sl.length<=n+1->Hs (OO i p l a cd sl np) λq=>okC q.2/\Ack (n+1) q.1:=by
  intro l a cd sl np hc h1 h2;unfold OO;simp only[aAg];refine .chk ⟨hi.2.1,by omega⟩ ?_
  rw[hf,aA];exact .pure ⟨hc,hp.set (by omega) h2 h1⟩
 refine(NM hi.1 (by omega) (by omega)).bind λk hk=>(NM hk.1 (by omega) (by omega)).bind λw hw=>?_
 obtain⟨x,hx⟩:∃ x,f.Code[k.1.toNat]? =some x:=⟨f.Code[k.1.toNat]'(by omega),aAA _⟩
 have at_:∀ {l:List Int} {a:Int} {G:Av->Av},okC ⟨l,a⟩->Hs (chk (0<=k.1/\k.1<f.Code.length)<|(f.Code[k.1.toNat]?).bind λy=>OO i p l a (f.Code.set k.1.toNat (G y)) f.Slots f.Params) λq=>okC q.2/\Ack (n+1) q.1:=by
  grind [chk]
 refine .beq (λ_=>(NM hw.1 (by omega) (by omega)).bind λr hr=>at_ (G:=λy=>⟨_,y.A,y.B,y.C,y.Imm⟩) hr.1) λ_=>?_
 refine .beq (λ_=>(Yg hw.1).bind λr hr=>at_ (G:=λy=>⟨y.Op,r.1,y.B,y.C,y.Imm⟩) hr.1) λ_=>?_
 refine .beq (λ_=>(Yg hw.1).bind λr hr=>at_ (G:=λy=>⟨y.Op,y.A,r.1,y.C,y.Imm⟩) hr.1) λ_=>?_
 refine .beq (λ_=>(Yg hw.1).bind λr hr=>at_ (G:=λy=>⟨y.Op,y.A,y.B,r.1,y.Imm⟩) hr.1) λ_=>?_
 refine .beq (λ_=>(Aow hw.1).bind λr hr=>at_ (G:=λy=>⟨y.Op,y.A,y.B,y.C,r.1⟩) hr.1) λ_=>?_
 refine .beq (λ_=>(Yg hw.1).bind λr hr=>fin hr.1 hl (by omega)) λ_=>?_
 refine .beq (λ_=>(Yg hw.1).bind λr hr=>(Yg hr.1).bind λs hs'=>.chk (by simp;omega) (fin hs'.1 hl (by simp;omega))) λ_=>?_
 refine .beq (λ_=>.chk ⟨hk.2.1,by omega⟩ (fin hw.1 (by simp;omega) (by omega))) λ_=>?_
 refine .beq (λ_=>.dec (λhpos=>?_) λ_=>fin hw.1 hl (by omega)) λ_=>fin hw.1 hl (by omega)
 refine(NM hw.1 (by omega) (by omega)).bind λr hr=>(Asd hr.1).bind λs hs'=>.chk ⟨hr.2.1,by omega⟩ ?_
 rw[aAA (show r.1.toNat<f.Slots.length by omega),aA]
 exact fin hs'.1 hl (by simp;omega)
theorem AnJ {p:Prop} [Decidable p] {x:Option α} {b:α} (h:chk p x=some b):x=some b:=by
 simp_all[chk]
theorem AsE (h:okC c) (hp:AeJ 4 12 p):Hs (UK c p) λq=>okC q.2/\PG q.1/\Ack 6 q.1:=by
 obtain⟨q,e,h1,h2⟩:=AtN h hp (by omega) (by omega)
 refine⟨q,e,h1,h2,?_⟩;have hr:=hp.raw;obtain⟨r,_,e⟩:=aAI.1 e;obtain⟨f,hf,e⟩:=aAI.1 e;obtain⟨u,_,e⟩:=aAI.1 e;obtain⟨w,_,e⟩:=aAI.1 e;obtain⟨z,hz,e⟩:=aAI.1 (AnJ e);cases e;obtain⟨y,hy,hz⟩:=aAI.1 hz;cases hz;obtain⟨x,_,hy⟩:=aAI.1 (AnJ (AnJ hy));cases hy;have hfs:=hr.slots f (aAB (WK hf).2.2);refine⟨by simpa using hr.few,λg hg=>?_,λg hg=>(h2.all g hg).len'⟩
 rcases aAQ hg with hg|rfl
 ·exact hr.slots g hg
 ·exact hfs
theorem AuG {codes:List Int} (hc:qL (Pf .u8) codes):Hs (Aar codes) λq=>PG q.1/\AmK q.2.1/\okC q.2.2/\Ack 6 q.1:=by
 unfold Aar;obtain⟨c,e1,hcok⟩:=AyI codes 500 hc (by omega) (by omega)
 rw[e1,aA];have j1:∀ {p:Nq} {l:List Int} {a:Int},okC ⟨l,a⟩->PG p->Ack 6 p->Hs (Xs p.Funcs l a) λq=>PG q.1/\AmK q.2.1/\okC q.2.2/\Ack 6 q.1:=by
  intro p l a hc hy hr;exact(AqF hc hy).bind λq hq=>.pure ⟨hy,hq.2,hq.1,hr⟩
 exact(Atb hcok (by omega) (by omega) (by omega) (by omega)).bind λp hp=>(NM hp.1 (by omega) (by omega)).bind λr hr=>.beq (λ_=>(AsE hr.1 hp.2).bind λq hq=>j1 hq.1 hq.2.1 hq.2.2) λ_=>j1 hr.1 (hp.2.y (by omega) (by omega)) hp.2.raw
theorem Awv (hn:p.Funcs.length<=1000) {e:Int} (e1:Wy p=some e) (h0:e≠0) (l:List NQ):Ry p l=some (zB,e):=by
 unfold Ry;simp only[beq_self_eq_true,cond_true,e1,aA];unfold Ur;rw[show(e==0)=false by simp[h0],cond_false]
 unfold Rs;rw[show(e==0)=false by simp[h0],cond_false]
 grind [Aos]
theorem Apa {n:Nat} (hr:Ack n p) (hn:n<=7) {q:Nq×List NQ×Mk} (hl:AmK q.2.1):Rk q p.Funcs=some true:=by
 obtain⟨e,e1,e2,_⟩:=Asu p;have hfew:=hr.few;have hsl:∀ f∈p.Funcs,f.Slots.length<=7:=λf hf=>by have:=hr.slots f hf;omega
 unfold Rk Zd
 by_cases h0:e=0
 ·subst h0;have hy:=Axd (by omega) (λf hf=>by grind) e2
  obtain⟨al,o,r,B⟩:=hy.AwL;obtain⟨z,z1,z3⟩:=AjJ hy e1 B (hy.Ama B.hal B.ea _ hl);obtain⟨y,y1,y3⟩:=AjJ hy e1 B (hy.Ama B.hal B.ea [] nofun);have hf:=λh0=>B.fits hy (by omega) hsl h0
  obtain⟨b,b1,b2⟩:=Axm hy.gr;simp only[z1,y1,e2,z3.err hf,y3.err hf,aA,bne_self_eq_false,cond_false,AyQ (p:=p) (by omega) hy.short hy.calls,b1]
  rcases B.ho with ho|⟨ho,hol,done,hord⟩
  ·have hc:=B.ord;rw[ho]at hc ⊢;rw[b2.2 (AlN hy.gr hc)];rfl
  ·have hb:b.2=false:=by
    cases hbb:b.2
    ·rfl
    ·obtain⟨i,m,hi,_,hw⟩:=b2.1 hbb;exact absurd hw (hord.acyclic hol hi m)
   simp_all
 ·simp only[Awv (by omega) e1 h0,e2,aA,bne_self_eq_false,cond_false,show(e != 0)=true by simp[h0],cond_true,beq_self_eq_true]
theorem AeV (codes:List Int) (hc:qL (Pf .u8) codes):VL codes=some true:=by
 unfold VL;obtain⟨⟨p,l,c⟩,es,hy,hl,hcc,hrw⟩:=AuG hc;simp only[Ayg,es,aA,aAP,cond_false];obtain⟨w,ew,hw⟩:=NM hcc (n:=3) (by omega) (by omega)
 rw[ew,aA]
 by_cases h2:w.1=2
 ·obtain⟨⟨q,d⟩,eo,_,hrq⟩:=AyJ hw.1 hrw (by omega)
  rw[show(w.1==2)=true by simp[h2],cond_true,eo,aA]
  grind [Apa]
 ·rw[show(w.1==2)=false by simp[h2],cond_false]
  grind [Apa]
end Go.Proofs.YtcaoepecbgggcaaGreatDoor
