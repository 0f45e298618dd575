/-
  Plain laws about the typed programs.
-/
import Derived.Test.YtcaoepecbgggcaaGreatDoorPa
open BitVec renaming ofInt->aAN,toNat_and->aAc
open Bool renaming cond_eq_ite->aAP,not_true->aAW
open Classical renaming byContradiction->aAM,propDecidable->aAe
open Int renaming toNat_natCast->aAD,mul_le_mul_of_nonneg_right->aAY,dvd_of_emod_eq_zero->aAd
open List renaming getElem?_eq_getElem->aAA,mem_of_getElem?->aAB,range->aAE,getElem?_eq_some_iff->aAF,getElem?_of_mem->aAG,getElem_mem->aAI,mem_or_eq_of_mem_set->aAO,take_length->aAQ,take_succ_eq_append_getElem->aAR,mem_map->aAS,mem_singleton->aAU,getElem?_map->aAV,length_map->aAX,getElem?_range->aAZ,length_range->aAa,pairwise_iff_getElem->aAb,getElem?_set_self->aAg,take_of_length_le->aAh,mem_iff_getElem?->aAj,mem_range->aAk,mem_cons->aAl
open Nat renaming zero_le->aAC,not_lt_zero->aAJ,le_refl->aAK,pow_le_pow_right->aAL,and_sub_one_eq_zero_iff_isPowerOfTwo->aAT,two_pow_pos->aAf
open Option renaming bind_some->aA,bind_eq_some_iff->aAH,map_eq_some_iff->aAi
namespace Go.Proofs.YtcaoepecbgggcaaGreatDoor
open Go Go.Dw Go.Proofs
variable {sl:List NB} {ps to:List Int} {x:Lo} {f:Nn} {k:Nat} {r:ND} {l:List (List Int)}
def Tt (a:Int):Prop:=0<=a/\a<8
inductive UL (sl:List NB) (np nf:Int) (T:Int->Prop):Lo->Prop
 | store (a b:Int):0<=a->a<sl.length->Tt b->UL sl np nf T ⟨16,a,b,0,0⟩
 | load (a b:Int):Tt a->0<=b->b<sl.length->UL sl np nf T ⟨15,a,b,0,0⟩
 | move (a b:Int):Aqk sl a b->0<=b->b<sl.length->UL sl np nf T ⟨17,a,b,0,0⟩
 | const (a w:Int):Tt a->UL sl np nf T ⟨0,a,0,0,w⟩
 | bin (op a b c:Int):2<=op->op<12->Tt a->Tt b->Tt c->UL sl np nf T ⟨op,a,b,c,0⟩
 | one (op a:Int):(op=13\/op=14)->Tt a->UL sl np nf T ⟨op,a,0,0,0⟩
 | two (op a b:Int):(op=1\/op=12)->Tt a->Tt b->UL sl np nf T ⟨op,a,b,0,0⟩
 | param (a b:Int):Tt a->0<=b->b<np->UL sl np nf T ⟨19,a,b,0,0⟩
 | arg (a b:Int):0<=a->a<8->Tt b->UL sl np nf T ⟨18,a,b,0,0⟩
 | call (j:Int):0<=j->j<nf->UL sl np nf T ⟨22,j,0,0,0⟩
 | jump (t:Int):T t->UL sl np nf T ⟨20,t,0,0,0⟩
 | branch (a t:Int):Tt a->T t->UL sl np nf T ⟨21,a,t,0,0⟩
 | ret:UL sl np nf T ⟨23,0,0,0,0⟩
 | trap (w:Int):UL sl np nf T ⟨24,0,0,0,w⟩
theorem Reg.w {a:Int} (h:Reg a):Tt a:=⟨h.1,by have:=h.2;omega⟩
theorem PV.w {np i:Int} {T:Int->Prop} (h:PV sl np i ps T x) (hi: -1<=i):UL sl np ps.length T x:=by
 cases h with
 | store a b h1 h2 h3=>exact .store a b h1 h2 h3.w
 | load a b h1 h2 h3=>exact .load a b h1.w h2 h3
 | move a b h1 h2 h3=>exact .move a b h1 h2 h3
 | const a w h1 h2=>exact .const a w h1.w
 | bin op a b c h1 h2 h3 h4 h5 h6=>exact .bin op a b c h1 h2 h3.w h4.w ⟨h5,h6⟩
 | out a h1=>exact .one 14 a (.inr rfl) h1.w
 | un op a h1 h2 =>
  rcases h1 with rfl|rfl|rfl
  ·exact .one 13 a (.inl rfl) h2.w
  ·exact .two 12 a 0 (.inr rfl) h2.w ⟨by omega,by omega⟩
  ·exact .two 1 a 0 (.inl rfl) h2.w ⟨by omega,by omega⟩
 | param a b h1 h2 h3=>exact .param a b h1.w h2 h3
 | arg a b h1 h2 h3=>exact .arg a b h1 (by omega) h3.w
 | call j h1 h2=>exact .call j (by omega) h2
 | jump q h1=>exact .jump q h1
 | branch a q h1 h2=>exact .branch a q h1.w h2
theorem AeD.w {np nf:Int} {T:Int->Prop} (h:AeD x):UL sl np nf T x:=by
 rcases h with rfl|⟨w,_,rfl⟩
 ·exact .ret
 ·exact .trap w
theorem UL.rn {sl':List NB} {np nf:Int} {T T':Int->Prop} (h:UL sl np nf T x) {pl:List Int} (hs:∀ s∈Oo x,0<=rnS to s/\rnS to s<sl'.length) (hz:x.Op=17->Aqk sl' (rnS to x.A) (rnS to x.B)) (ht:∀ t,T t->T' ((pl[t.toNat]?).getD 0)) :
  UL sl' np nf T' (mvI pl (rnI to x)):=by
 cases h with
 | store a b h1 h2 h3 =>
  have:=hs a (by simp[Oo])
  exact .store _ _ this.1 this.2 h3
 | load a b h1 h2 h3 =>
  have:=hs b (by simp[Oo,Pm])
  exact .load _ _ h1 this.1 this.2
 | move a b h1 h2 h3 =>
  have:=hs b (by simp[Oo,Pm])
  exact .move _ _ (hz rfl) this.1 this.2
 | const a w h1=>exact .const a w h1
 | bin op a b c h1 h2 h3 h4 h5 =>
  have:mvI pl (rnI to ⟨op,a,b,c,0⟩)=⟨op,a,b,c,0⟩:=by grind [mvI,rnI]
  rw[this];exact .bin op a b c h1 h2 h3 h4 h5
 | one op a h1 h2 =>
  have:mvI pl (rnI to ⟨op,a,0,0,0⟩)=⟨op,a,0,0,0⟩:=by grind [mvI,rnI]
  rw[this];exact .one op a h1 h2
 | two op a b h1 h2 h3 =>
  have:mvI pl (rnI to ⟨op,a,b,0,0⟩)=⟨op,a,b,0,0⟩:=by grind [mvI,rnI]
  rw[this];exact .two op a b h1 h2 h3
 | param a b h1 h2 h3=>exact .param a b h1 h2 h3
 | arg a b h1 h2 h3=>exact .arg a b h1 h2 h3
 | call j h1 h2=>exact .call j h1 h2
 | jump q h1=>exact .jump _ (ht _ h1)
 | branch a q h1 h2=>exact .branch a _ h1 (ht _ h2)
 | ret=>exact .ret
 | trap w=>exact .trap w
structure GW (nf:Int) (f:Nn):Prop where
 par:0<=f.Params/\f.Params<=8
 slots:f.Slots.length<=40
 slot:∀ s∈f.Slots,Adh s
 len:1<=f.Code.length
 len':f.Code.length<=1024
 body:∀ x∈f.Code,UL f.Slots f.Params nf (λt=>0<=t/\t<f.Code.length) x
 last:Ty f
structure PF (p:Nv):Prop where
 zero:∀ f,p.Funcs[0]? =some f->f.Params=0
 few:1<=p.Funcs.length/\p.Funcs.length<=80
 all:∀ f∈p.Funcs,GW p.Funcs.length f
theorem Sc.gw {i most:Int} (h:Sc ps i most f) (hi: -1<=i) (hm:most<=200) (hps:AkY ps):GW ps.length f:=by
 have hp:=hps.1 _ (aAB h.par);refine⟨⟨hp.1,by omega⟩,by have:=h.slots;omega,λs hs=>(h.slot s hs).wide,h.len,by have:=h.len';omega,λx hx=>?_,h.AyS⟩
 obtain⟨k,hx⟩:=aAG hx;have hk:=(aAF.1 hx).1
 by_cases e:k+1<f.Code.length
 ·exact(h.body k x hx e).w hi
 ·exact(h.last x (by grind)).w
theorem AeX.y {funcs most:Int} {p:Nv} (h:AeX funcs most p) (hm:most<=200) (hfn:funcs<=79):PF p:=by
 obtain⟨ps,hps,hz,hp1,hp2,hfl,hall⟩:=h;refine⟨λf hf=>?_,by omega,λf hf=>?_⟩
 ·have:=(hall 0 f hf).par;simp_all
 ·obtain⟨j,hj⟩:=aAG hf;have:=(hall j f hj).gw (by omega) hm hps
  simp_all
section
variable {nf:Int} {f:Nn} (h:GW nf f)
 include h
theorem GW.Azb:Aao f.Slots:=⟨h.slots,λx hx=>(h.slot x hx).al⟩
theorem GW.defs:QD f:=by
 intro x hx hop;have hb:=h.body x hx;cases hb with
 | store a b h1 h2 h3=>simp_all
 | move a b h1 h2 h3=>exact⟨h1.1,h1.2.1⟩
 | bin op a b c h1 h2=>grind
 | one op a h1=>grind
 | two op a b h1=>grind
 | _=>simp at hop
theorem GW.AhR:YT f:=by
 intro x hx hop;have hb:=h.body x hx;cases hb with
 | move a b h1 h2 h3 =>
  obtain⟨q0,q1,x,y,e1,e2,e3⟩:=h1
  grind [Ph]
 | bin op a b c h1 h2=>simp_all
 | one op a h1=>simp_all
 | two op a b h1=>simp_all
 | _=>simp at hop
theorem GW.calls:Adx nf.toNat f:=by
 intro x hx hop;have hb:=h.body x hx;cases hb<;>grind
theorem GW.Um:NS f:=by
 have hl:=h.len;have hl':=h.len';have hs:=h.slots;refine⟨hl,by omega,by omega,λk x hx j hj=>?_,λx hx v hv=>?_⟩
 ·have hk:=(aAF.1 hx).1;have hlast:k+1=f.Code.length->x.Op=20\/x.Op=23\/x.Op=24:=λe=>by
   have:=h.last
   grind [Ns,Ty]
  have hb:=h.body x (aAB hx);have hT:(x.Op=20->0<=x.A/\x.A<f.Code.length)/\(x.Op=21->0<=x.B/\x.B<f.Code.length):=by
   cases hb<;>grind
  grind [Rc]
 ·have hb:=h.body x hx;cases hb<;>grind [Pm]
end
theorem PF.args {p:Nv} (h:PF p) (hf:f∈p.Funcs):AaL p f:=by
 intro x hx;have hb:=(h.all f hf).body x hx;cases hb with
 | arg a b h1 h2 h3=>simp_all
 | call j h1 h2 =>
  refine⟨λe=>by simp at e,λ_=>⟨h1,?_⟩⟩
  have hg:p.Funcs[j.toNat]? =some (p.Funcs[j.toNat]'(by omega)):=aAA _
  exact⟨_,hg,(h.all _ (aAI _)).par⟩
 | bin op a b c h1 h2=>grind
 | one op a h1=>grind
 | two op a b h1=>grind
 | _=>exact⟨λe=>by simp at e,λe=>by simp at e⟩
open Go Go.Dw Go.Proofs
theorem Awb {keep:List Bool} (h:k<keep.length):keep[k]? =some (NU keep k):=by simp[NU,h]
theorem Agv {keep:List Bool} (h:k<keep.length):kept keep (k+1)=kept keep k+(if NU keep k=true then 1 else 0):=XG (Awb h)
theorem Awc {keep:List Bool} {j:Nat} (hj:j<keep.length) (hk:k<keep.length) (h1:NU keep j=true) (h2:NU keep k=true) (h:kept keep j=kept keep k):j=k:=by
 rcases Nat.lt_trichotomy j k with c|c|c
 ·have a:=AdR (keep:=keep) (j:=j+1) (k:=k) (by omega) (by omega)
  rw[Agv hj,if_pos h1]at a;omega
 ·exact c
 ·have a:=AdR (keep:=keep) (j:=k+1) (k:=j) (by omega) (by omega)
  rw[Agv hk,if_pos h2]at a;omega
structure AgO (f g:Nn) (r:ND) (used nm pl:List Int):Prop where
 rw:SO f r
 usd:Od f.Slots.length used
 nms:∀ k:Nat,k<f.Code.length->NU r.Keep k=true->∀ v∈Oo (rnI r.To (Ns f k)),v∈used
 nl:nm.length=r.To.length
 num:∀ (s:Nat) x,nm[s]? =some x->0<=x/\(NJ r.To s∈used->used[x.toNat]? =some (NJ r.To s))
 pll:pl.length=r.Keep.length
 plc:∀ j:Nat,j<r.Keep.length->pl[j]? =some (kept r.Keep j:Int)
 sl:g.Slots.length=used.length
 par:g.Params=f.Params
 code:g.Code=TJ f r.Keep nm pl f.Code.length
 sls:Acw f used g.Slots
section
variable {f g:Nn} {r:ND} {used nm pl:List Int} (h:AgO f g r used nm pl)
 include h
theorem AgO.len:g.Code.length=kept r.Keep f.Code.length:=by
 rw[h.code];exact(Vx (f:=f) (keep:=r.Keep) (to:=nm) (pl:=pl) _ (by have:=h.rw.2.1;omega)).1
theorem AgO.back {p:Nat} (hx:g.Code[p]? =some x):∃ j:Nat,j<f.Code.length/\NU r.Keep j=true/\kept r.Keep j=p/\x=mvI pl (rnI nm (Ns f j)):=by
 rw[h.code]at hx;exact(Vx (f:=f) (keep:=r.Keep) (to:=nm) (pl:=pl) _ (by have:=h.rw.2.1;omega)).2 p x hx
theorem AgO.at {j:Nat} (hj:j<f.Code.length) (hk:NU r.Keep j=true):g.Code[kept r.Keep j]? =some (mvI pl (rnI nm (Ns f j))):=by
 have hkl:=h.rw.2.1;have h1:=Agv (keep:=r.Keep) (k:=j) (by omega)
 rw[if_pos hk]at h1;have h2:=AdR (keep:=r.Keep) (j:=j+1) (k:=f.Code.length) (by omega) (by omega)
 have hl:=h.len;have hg:g.Code[kept r.Keep j]? =some (g.Code[kept r.Keep j]'(by omega)):=aAA _
 obtain⟨j',a,b,c,d⟩:=h.back hg
 grind [Awc]
theorem AgO.nmS {s:Int} (h0:0<=s) (h1:s<f.Slots.length):rnS nm s=NJ nm s/\0<=NJ nm s/\(NJ r.To s∈used->used[(NJ nm s).toNat]? =some (NJ r.To s)):=by
 have htl:=h.rw.1.1;have hnl:=h.nl;have hg:=QQ (to:=nm) (s:=s) h0 (by omega)
 obtain⟨q1,q2⟩:=h.num s.toNat _ hg;rw[Int.toNat_of_nonneg h0]at q2;simp_all[rnS]
theorem AgO.slot {s:Int} (h0:0<=s) (h1:s<f.Slots.length) (hu:NJ r.To s∈used):(NJ nm s).toNat<g.Slots.length/\∃ y,g.Slots[(NJ nm s).toNat]? =some y/\y.Size=Ph f s:=by
 obtain⟨_,q1,q2⟩:=h.nmS h0 h1;have q2:=q2 hu;have hl:=(aAF.1 q2).1;have hsl:=h.sl;refine⟨by omega,g.Slots[(NJ nm s).toNat]'(by omega),aAA _,?_⟩
 obtain⟨u,x,e1,e2,e3,_⟩:=h.sls (NJ nm s).toNat _ (aAA (by omega))
 rw[q2]at e1;obtain rfl:=Option.some.inj e1;have:=(h.rw.1.2 s.toNat (by have:=h.rw.1.1;omega)).2.2.1
 grind [ZV]
end
theorem AgO.gw {nf:Int} {g:Nn} {used nm pl:List Int} (h:AgO f g r used nm pl) (hg:GW nf f):GW nf g:=by
 have hf:=hg.Um;have hd:=hg.defs;have hml:=hg.AhR;have hkl:=h.rw.2.1;have hlen:=h.len;have hl1:=hg.len;have hl2:=hg.len';have hsl:=hg.slots;have hk0:=AhM hf hg.last h.rw (t:=0) (by omega)
 have hkl2:=AeS r.Keep f.Code.length;have hul:=AkZ (l:=used) (a:=0) (n:=f.Slots.length) h.usd.1.1 λx hx=>⟨(h.usd.1.2 x hx).1,h.usd.2 x hx⟩
 have hgs:=h.sl;refine⟨by rw[h.par];exact hg.par,by omega,λy hy=>?_,by omega,by omega,λx hx=>?_,?_⟩
 ·obtain⟨j,hj⟩:=aAG hy;obtain⟨u,x,_,e2,e3,t,ht,e4⟩:=h.sls j y hj;have a:=hg.slot x (aAB e2);have b:=hg.slot t ht;exact⟨by rw[e3];exact a.1,by rw[e4];exact b.2⟩
 ·obtain⟨p,hx⟩:=aAG hx;obtain⟨j,hj,hk,hp,rfl⟩:=h.back hx;have hc:=(hf.at (j:=(j:Int)) (by omega) (by omega))
  have hnames:∀ s∈Oo (Ns f j),0<=s/\s<f.Slots.length/\NJ r.To s∈used:=λs hs=>by
   obtain⟨a,b⟩:=Agx hf hd hc.2 hs;have:=h.nms j hj hk (rnS r.To s) ((AcI _ _ _).2 ⟨s,hs,rfl⟩);rw[(h.rw.1.rng a b).2.2]at this;simp_all
  have hin:∀ s∈Oo (Ns f j),0<=rnS nm s/\rnS nm s<g.Slots.length/\∃ y,g.Slots[(rnS nm s).toNat]? =some y/\y.Size=Ph f s:=λs hs=>by
   obtain⟨a,b,c⟩:=hnames s hs;obtain⟨e,q,_⟩:=h.nmS a b;obtain⟨e1,e2⟩:=h.slot a b c;simp_all
  rw[h.par];refine(hg.body _ hc.2).rn (λs hs=>⟨(hin s hs).1,(hin s hs).2.1⟩) (λh17=>?_) λt ht=>?_
  ·obtain⟨a1,a2,y,a3,a4⟩:=hin (Ns f j).A (by grind [Oo])
   obtain⟨_,_,z,b3,b4⟩:=hin (Ns f j).B (by grind [Oo,Pm])
   refine⟨a1,a2,y,z,a3,b3,?_⟩;rw[a4,b4];exact(hml _ hc.2 h17).2.2.2.2
  ·rw[h.plc t.toNat (by omega)]
   have:=AhM hf hg.last h.rw (t:=t.toNat) (by omega)
   simp_all
 ·have hk:NU r.Keep (f.Code.length-1)=true:=by
   cases e:NU r.Keep (f.Code.length-1)
   ·have:=h.rw.2.2 _ (by omega) e
    have hlast:=hg.last
    grind [Ty]
   ·rfl
  have hat:=h.at (j:=f.Code.length-1) (by omega) hk
  have hs:=Agv (keep:=r.Keep) (k:=f.Code.length-1) (by omega)
  rw[if_pos hk,show f.Code.length-1+1=f.Code.length by omega]at hs
  have hlast:=hg.last
  grind [Ty,Ns,AoV,Ach]
theorem AoX (hf:NS f) (hd:QD f) (hr:SO f r):Hs (QB f r) λq=>q.2=0/\∃ used nm pl,AgO f q.1 r used nm pl :=
 (AoW hf hd hr).mono λ_q ⟨h0,used,to,pl,u1,u2,n1,n2,p1,p2,sl,pr,cd,sa⟩=>⟨h0,used,to,pl,hr,u1,u2,n1,n2,p1,p2,sl,pr,cd,sa⟩
open Go Go.Dw Go.Proofs
theorem AwO (f:Nn) (to:List Int) (hsl:f.Slots.length<=500):Hs (Xi f to) λb=>b=true↔AeY f to:=by
 unfold Xi;refine .bne (λh=>.pure ⟨λh'=>(by cases h'),λh'=>(h (by rw[h'.1])).elim⟩) λh=>?_
 have hl:to.length=f.Slots.length:=by omega
 refine Hs.loop (λi=>∃ k:Nat,i=(k:Int)/\k<=to.length/\∀ s:Nat,s<k->0<=NJ to s/\NJ to s<to.length/\Ph f (NJ to s)=Ph f s/\NJ to (NJ to s)=NJ to s) (λi=>to.length-i.toNat) ⟨0,rfl,aAC _,λs hs=>absurd hs (aAJ _)⟩ ?_
 rintro _ ⟨k,rfl,hk,hall⟩;unfold Aaf;refine .dec (λhlt=>?_) λhge=>.lft (.pure ⟨λ_=>⟨hl,λs hs=>hall s (by omega)⟩,λ_=>rfl⟩)
 have hlt:k<to.length:=by omega
 have hg:to[k]? =some (NJ to k):=by have:=QQ (to:=to) (s:=k) (by omega) (by omega);simp_all
 rw[NT,hg,aA];have no:∀ {p:Prop},¬ p->(AeY f to->p)->Hs (lft (some false):Option (Int⊕Bool)) (Rnd (λi=>∃ k:Nat,i=(k:Int)/\k<=to.length/\∀ s:Nat,s<k->0<=NJ to s/\NJ to s<to.length/\Ph f (NJ to s)=Ph f s/\NJ to (NJ to s)=NJ to s) (λi=>to.length-i.toNat) (k:Int) λb=>b=true↔AeY f to) :=
  λhp hq=>.lft (.pure ⟨λh=>(by cases h),λh=>(hp (hq h)).elim⟩)
 refine .dec (λh0=>no (p:=0<=NJ to k) (by omega) λh=>(h.2 k hlt).1) λh0=>?_
 refine .dec (λh1=>no (p:=NJ to k<to.length) (by omega) λh=>(h.2 k hlt).2.1) λh1=>?_
 refine Hs.bind (Hs.ix (i:=NJ to k) (P:=λx=>x.Size=Ph f (NJ to k)) (by omega) (by omega) λx hx=>ZV hx) λa ha=>?_
 refine Hs.bind (Hs.ix (i:=(k:Int)) (P:=λx=>x.Size=Ph f k) (by omega) (by omega) λx hx=>ZV hx) λb hb=>?_
 rw[ha,hb];refine .bne (λh2=>no h2 λh=>(h.2 k hlt).2.2.1) λh2=>?_
 rw[OZ _ (by omega),QQ (by omega) (by omega),aA]
 refine .bne (λh3=>no h3 λh=>(h.2 k hlt).2.2.2) λh3=>?_
 rw[Nw (by omega)]
 refine .cnt ⟨⟨k+1,rfl,hlt,λs hs=>?_⟩,by grind⟩
 grind
theorem AiZ (hf:NS f) (r:ND):Hs (Wa f r) λe=>(e=0\/e=12)/\(e=0↔SO f r):=by
 have hlen:=hf.len';refine(AwO f r.To hf.slots).bind λb hb=>.cond (λh=>.pure ⟨.inr rfl,λh=>by omega,λh'=>?_⟩) λh=>?_
 ·rw[hb.2 h'.1]at h;cases h
 have hv:AeY f r.To:=hb.1 (by simp_all)
 refine .bne (λh=>.pure ⟨.inr rfl,λh=>by omega,λh'=>(h (by rw[h'.2.1])).elim⟩) λh=>?_
 have hkl:r.Keep.length=f.Code.length:=by omega
 refine Hs.loop (λi=>∃ k:Nat,i=(k:Int)/\k<=f.Code.length/\∀ j:Nat,j<k->NU r.Keep j=false->(Ns f j).Op=16\/(Ns f j).Op=17) (λi=>f.Code.length-i.toNat) ⟨0,rfl,aAC _,λs hs=>absurd hs (aAJ _)⟩ ?_
 rintro _ ⟨k,rfl,hk,hall⟩;refine .dec (λhlt=>?_) λhge=>.lft (.pure ⟨.inl rfl,λ_=>⟨hv,hkl,λj hj=>hall j (by omega)⟩,λ_=>rfl⟩)
 have hlt:k<f.Code.length:=by omega
 have hx:=hf.at (j:=(k:Int)) (by omega) (by omega)
 rw[aAD]at hx;have hg:r.Keep[k]? =some (NU r.Keep k):=by grind [NU]
 have stp:(NU r.Keep k=false->(Ns f k).Op=16\/(Ns f k).Op=17)->∀ j:Nat,j<k+1->NU r.Keep j=false->(Ns f j).Op=16\/(Ns f j).Op=17:=by
  grind
 simp only[NT,hx.1,hg,aA];rw[Nw (by omega)]
 refine .cond (λh=>?_) λh=>.cnt ⟨⟨k+1,rfl,hlt,stp λh'=>by simp_all⟩,by grind⟩
 have hkf:NU r.Keep k=false:=by simp_all
 unfold XP;rw[AhH,aA,aA]
 by_cases hd:(Ns f k).Op=16\/(Ns f k).Op=17
 ·rw[if_pos hd];exact .cnt ⟨⟨k+1,rfl,hlt,stp λ_=>hd⟩,by grind⟩
 ·rw[if_neg hd];exact .lft (.pure ⟨.inr rfl,λh=>by omega,λh=>(hd (h.2.2 k hlt hkf)).elim⟩)
attribute [local simp] Oa aAP
def AkC (v:Int):Nat->List Int->Int
 | _,[]=>-1
 | a,x::r=>if v=x then a else AkC v (a+1) r
theorem AvY (s:List Int) (v:Int) (hs:s.length<=9223372036854775807):Tf s v=some (AkC v 0 s):=by
 unfold Tf;refine SC s (λ(_:Nat) i=>i) (λa i=>a=i) (λa l=>some (AkC v a l)) (λ_ _=>⟨-1,by simp[Tx],by simp[AkC]⟩) (λa i x r ha hd hi hx=>?_) 0 rfl
 subst ha;have w:=Nw (show a<9223372036854775807 by omega)
 obtain⟨_,rfl⟩:=aAF.1 hx
 by_cases h:v=s[a]
 all_goals simp_all[Tx,AkC]
theorem AqK (v:Int):∀ (a:Nat) (s:List Int),v∈s->∃ i:Nat,AkC v a s=((a+i:Nat):Int)/\s[i]? =some v
 | a,[],h=>by cases h
 | a,x::r,h=>by
  simp only[AkC]
  by_cases e:v=x
  ·rw[if_pos e];exact⟨0,rfl,by rw[e];rfl⟩
  ·obtain⟨i,h1,h2⟩:=AqK v (a+1) r ((aAl.1 h).resolve_left e);exact⟨i+1,by omega,by simp_all⟩
theorem Axw (to:List Int) (s:Int):QJ s to=some (rnS to s):=by
 unfold QJ rnS
 by_cases h0:s<0
 ·grind
 ·rw[decide_eq_false h0,cond_false]
  by_cases h1:s>=(to.length:Int)
  ·grind
  ·rw[decide_eq_false h1,cond_false,if_pos (by omega),OZ _ (by omega),QQ (by omega) (by omega)]
   rfl
theorem Axv (x:Lo) (to:List Int):Xm x to=some (rnI to x):=by
 unfold Xm rnI;simp only[Axw,aA]
 grind
def VL (f:Nn) (keep:List Bool) (to:List Int) (k:Nat):List Lo:=(aAE k).filterMap λj=>if NU keep j=true then some (rnI to (Ns f (j:Nat)))else none
theorem Atf (f:Nn) (keep:List Bool) (to:List Int) (k:Nat):VL f keep to (k+1)=VL f keep to k++(if NU keep k=true then[rnI to (Ns f (k:Nat))]else[]):=by
 grind [VL,List.range_succ]
theorem AkE (f:Nn) (keep:List Bool) (to:List Int) (k:Nat):(VL f keep to k).length<=k:=by
 grind [VL]
theorem Auz (f:Nn) (keep:List Bool) (to pl:List Int) (k:Nat):TJ f keep to pl k=(VL f keep to k).map (mvI pl):=by
 unfold TJ VL;rw[List.map_filterMap];simp_all
section
variable {f:Nn}
theorem AqB (hf:NS f) (hkl:r.Keep.length=f.Code.length) (to:List Int):XB f r to=some (VL f r.Keep to f.Code.length):=by
 have hlen:=hf.len';have key:Hs (XB f r to) λl=>l=VL f r.Keep to f.Code.length:=by
  refine Hs.loop (λs=>∃ k:Nat,s.2=(k:Int)/\k<=f.Code.length/\s.1=VL f r.Keep to k) (λs=>f.Code.length-s.2.toNat) ⟨0,rfl,aAC _,rfl⟩ ?_
  rintro⟨_,_⟩ ⟨k,rfl,hk,rfl⟩;refine .dec (λhlt=>?_) λhge=>.lft (.pure ?_)
  ·have hlt:k<f.Code.length:=by omega
   have hx:=hf.at (j:=(k:Int)) (by omega) (by omega)
   rw[aAD]at hx;have hg:r.Keep[k]? =some (NU r.Keep k):=by grind [NU]
   have hs:=Atf f r.Keep to k;have hl:=AkE f r.Keep to k;simp only[NT,hx.1,aA];refine .dec (λ_=>?_) λh=>by omega
   rw[hg,aA];unfold Wx;rw[Axv,Nw (by omega)]
   refine .cond (λh=>?_) λh=>?_
   ·rw[if_pos h]at hs;exact .chk (by simp;omega) (.cnt ⟨⟨k+1,rfl,hlt,hs.symm⟩,by grind⟩)
   ·rw[if_neg (by simp_all),List.append_nil]at hs
    exact .cnt ⟨⟨k+1,rfl,hlt,hs.symm⟩,by grind⟩
  ·have hkk:k=f.Code.length:=by omega
   subst hkk;rfl
 obtain⟨l,h,rfl⟩:=key;exact h
theorem Amw {keep:List Bool}:x∈VL f keep to k↔∃ j:Nat,j<k/\NU keep j=true/\x=rnI to (Ns f j):=by
 unfold VL
 grind
theorem Axy (hf:NS f) (hd:QD f) (hr:SO f r):Hs (Zr f r) λl=>Aqj f r l/\Od f.Slots.length l:=by
 have hlen:=hf.len';have hkl:=hr.2.1;unfold Zr;rw[AqB hf hkl,aA];have hK:=AkE f r.Keep r.To f.Code.length;have hin:∀ x∈VL f r.Keep r.To f.Code.length,∀ v∈Oo x,0<=v/\v<f.Slots.length:=λx hx v hv=>by
  obtain⟨j,hj,_,rfl⟩:=Amw.1 hx;exact Abo hf hd hr.1 (hf.at (j:=(j:Int)) (by omega) (by omega)).2 v hv
 generalize hKe:VL f r.Keep r.To f.Code.length=K at hK hin;have nm:∀ x:Lo,(Oo x).length<=2:=λx=>by
  grind [Oo,Pm]
 refine Hs.loop (λs=>∃ k:Nat,s.2=(k:Int)/\k<=K.length/\s.1.length<=2*k/\s.1=(K.take k).flatMap Oo) (λs=>K.length-s.2.toNat) ⟨0,rfl,aAC _,aAK _,by simp⟩ ?_
 rintro⟨l,_⟩ ⟨k,rfl,hk,hll,hl⟩;replace hll:l.length<=2*k:=hll;replace hl:l=(K.take k).flatMap Oo:=hl;refine .dec (λhlt=>?_) λhge=>.lft ?_
 ·have hlt:k<K.length:=by omega
  have hg:K[k]? =some K[k]:=aAA _;have htk:K.take (k+1)=K.take k++[K[k]]:=by simp_all
  generalize K[k]=x at hg htk;have hu:=Asw x;have hn:=nm x;have step:(K.take (k+1)).flatMap Oo=l++Oo x:=by simp_all
  refine .chk (by omega) ?_
  simp only[aAD,hg,aA,AqC,AhH,Nw (show k<9223372036854775807 by omega)]
  refine .chk (by omega) ?_
  by_cases hdy:x.Op=16\/x.Op=17
  ·rw[if_pos hdy];simp only[cond_true];have e:Oo x=Pm x++[x.A]:=by simp_all[Oo]
   rw[e]at step hn;refine .chk (by simp;omega) (.cnt ⟨⟨k+1,rfl,hlt,?_,?_⟩,by grind⟩)
   all_goals grind
  ·rw[if_neg hdy];have e:Oo x=Pm x:=by simp_all[Oo]
   rw[e]at step;refine .cnt ⟨⟨k+1,rfl,hlt,?_,step.symm⟩,by grind⟩
   simp;omega
 ·have hkk:k=K.length:=by omega
  subst hkk;rw[aAQ]at hl;refine(Aqp l (by omega)).bind λq hq=>.pure ?_
  have hm:∀ v,v∈l↔∃ j:Nat,j<f.Code.length/\NU r.Keep j=true/\v∈Oo (rnI r.To (Ns f j)):=λv=>by
   rw[hl,List.mem_flatMap,<- hKe]
   grind [Amw]
  refine⟨hq.mono λv _ _=>hm v,hq.1,λv hv=>?_⟩
  have:=((hq.2 v).1 hv).2
  grind
theorem Awn (hl:to.length<=500) (s:Int):Hs (XL to s) λl=>l.length<=to.length/\Avv to s l:=by
 refine Hs.loop (λz=>∃ k:Nat,z.2=(k:Int)/\k<=to.length/\z.1.length<=k/\∀ t,t∈z.1↔∃ j:Nat,j<k/\t=(j:Int)/\NJ to j=s) (λz=>to.length-z.2.toNat) ⟨0,rfl,aAC _,aAK _,λt=>⟨λh=>(by cases h),λ⟨j,h,_⟩=>absurd h (aAJ _)⟩⟩ ?_
 rintro⟨l,_⟩ ⟨k,rfl,hk,hll,hm⟩;replace hll:l.length<=k:=hll;refine .dec (λhlt=>?_) λhge=>.lft (.pure ?_)
 ·have hlt:k<to.length:=by omega
  have hg:=QQ (to:=to) (s:=(k:Int)) (by omega) (by omega)
  rw[aAD]at hg;simp only[NT,hg,aA];rw[Nw (by omega)]
  refine .beq (λh=>.chk (by simp;omega) (.cnt ⟨⟨k+1,rfl,hlt,by simp;omega,λt=>?_⟩,by grind⟩)) λh=>.cnt ⟨⟨k+1,rfl,hlt,by grind,λt=>?_⟩,by grind⟩
  all_goals grind
 ·have hk:k=to.length:=by omega
  subst hk;exact⟨hll,hm⟩
theorem AuC (r:ND) (hl:r.Keep.length<=1000000):Hs (ZU r) (Ahs r):=by
 refine Hs.loop (λs=>∃ k:Nat,s.2.1=(k:Int)/\k<=r.Keep.length/\s.2.2=(kept r.Keep k:Int)/\s.1.length=k/\∀ j:Nat,j<k->s.1[j]? =some (kept r.Keep j:Int)) (λs=>r.Keep.length-s.2.1.toNat) ⟨0,rfl,aAC _,rfl,rfl,λj hj=>absurd hj (aAJ _)⟩ ?_
 rintro⟨l,_,n⟩ ⟨k,rfl,hk,hn,hll,hj⟩;subst hn;replace hll:l.length=k:=hll;refine .dec (λhlt=>?_) λhge=>.lft (.pure ?_)
 ·have hlt:k<r.Keep.length:=by simp_all
  have hg:r.Keep[k]? =some r.Keep[k]:=aAA _;generalize r.Keep[k]=b at hg;have hkl:=AeS r.Keep k;have hks:=XG hg;have hap:∀ j:Nat,j<k+1->(l++[(kept r.Keep k:Int)])[j]? =some (kept r.Keep j:Int):=by
   grind
  simp only[NT,hg,aA];refine .chk (by simp;omega) ?_
  rw[Nw (show k<9223372036854775807 by omega),Nw (show kept r.Keep k<9223372036854775807 by omega)]
  refine .cond (λh=>?_) λh=>?_
  ·subst h;exact .cnt ⟨⟨k+1,rfl,hlt,by simp_all,by simp[hll],hap⟩,by grind⟩
  ·subst h;exact .cnt ⟨⟨k+1,rfl,hlt,by simp_all,by simp[hll],hap⟩,by grind⟩
 ·have hkk:k=r.Keep.length:=by grind
  subst hkk;exact⟨hll,hj⟩
theorem Awm (hf:NS f) (hkl:r.Keep.length=f.Code.length) (to pl:List Int) (hpl:pl.length=r.Keep.length) (sl:List NB) :
  Hs (NA (λs=>Aba (VL f r.Keep to f.Code.length) pl f sl s.1 s.2) (VL f r.Keep to f.Code.length,0)) λq=>q=(⟨f.Params,sl,TJ f r.Keep to pl f.Code.length⟩,0):=by
 have hlen:=hf.len';have hK:=AkE f r.Keep to f.Code.length;have hin:∀ x∈VL f r.Keep to f.Code.length,(x.Op=20->0<=x.A/\x.A<f.Code.length)/\(x.Op=21->0<=x.B/\x.B<f.Code.length):=λx hx=>by
  grind [Amw,Aja,Ach,AdY]
 rw[Auz];generalize VL f r.Keep to f.Code.length=K at hK hin;refine Hs.loop (λs=>∃ k:Nat,s.2=(k:Int)/\k<=K.length/\s.1=(K.take k).map (mvI pl)++K.drop k) (λs=>K.length-s.2.toNat) ⟨0,rfl,aAC _,by simp⟩ ?_
 rintro⟨_,_⟩ ⟨k,rfl,hk,rfl⟩;refine .dec (λhlt=>?_) λhge=>.lft (.pure ?_)
 ·have hlt:k<K.length:=by omega
  have hg:K[k]? =some K[k]:=aAA _;have htk:K.take (k+1)=K.take k++[K[k]]:=by simp_all
  have hdk:K.drop k=K[k]::K.drop (k+1):=List.drop_eq_getElem_cons hlt;have hxm:=aAI hlt;generalize K[k]=x at hg htk hdk hxm;have hml:((K.take k).map (mvI pl)).length=k:=by simp;omega
  obtain⟨x1,x2⟩:=hin x hxm;have at_:((K.take k).map (mvI pl)++K.drop k)[k]? =some x:=by
   simp_all
  have fin:∀ y,y=mvI pl x->((K.take k).map (mvI pl)++K.drop k).set k y=(K.take (k+1)).map (mvI pl)++K.drop (k+1):=λy hy=>by
   simp_all
  refine .chk (by simp;omega) ?_
  simp only[aAD,at_,aA,Nw (show k<9223372036854775807 by omega)]
  refine .beq (λh=>?_) λh=>.beq (λh'=>?_) λh'=>.cnt ⟨⟨k+1,rfl,hlt,?_⟩,by simp only;omega⟩
  ·have t:=x1 h;refine .chk (by omega) ((Hs.get t.1 (by omega) λz hz=>hz).bind λz hz=>.cnt ⟨⟨k+1,rfl,hlt,fin _ ?_⟩,by simp only;omega⟩)
   simp_all[mvI]
  ·have t:=x2 h';refine .chk (by omega) ((Hs.get t.1 (by omega) λz hz=>hz).bind λz hz=>.cnt ⟨⟨k+1,rfl,hlt,fin _ ?_⟩,by simp only;omega⟩)
   simp_all[mvI]
  ·have:=fin x (by simp_all[mvI])
   grind
 ·have hkk:k=K.length:=by omega
  subst hkk;show((⟨f.Params,sl,_⟩:Nn),(0:Int))=_;simp_all
theorem Awl (hf:NS f) (hd:QD f) (hr:SO f r):Hs (Yo f r) (Abt f r):=by
 have hlen:=hf.len';have hsl:=hf.slots;have hkl:=hr.2.1;have htl:=hr.1.1;refine(AiZ hf r).bind λe he=>.bne (λh=>(h (he.2.2 hr)).elim) λ_=>?_
 refine(Axy hf hd hr).bind λused ⟨hu0,hu1⟩=>?_
 have hul:=hu1.1.length_le;refine Hs.loop (λs=>∃ i:Nat,s.2=(i:Int)/\i<=used.length/\s.1.length=i/\Xc f r (used.take i) s.1) (λs=>used.length-s.2.toNat) ⟨0,rfl,aAC _,rfl,rfl,λj u y hj=>by simp at hj⟩ ?_
 rintro⟨out,_⟩ ⟨i,rfl,hi,ho,hsa⟩;replace ho:out.length=i:=ho;refine .dec (λhlt=>?_) λhge=>.lft ?_
 ·have hlt:i<used.length:=by omega
  have hgx:used[i]? =some used[i]:=aAA _;have hxm:=aAI hlt;generalize used[i]=u at hgx hxm;have h0:=(hu1.1.2 u hxm).1;have h1:=hu1.2 u hxm;refine .chk (by omega) ?_
  simp only[aAD,hgx,aA];refine(Hs.ix (P:=λx=>f.Slots[u.toNat]? =some x) h0 h1 λx hx=>hx).bind λx hfx=>?_
  refine(Awn (by omega) u).bind λl ⟨hll,hm⟩=>?_
  have hl:∀ t∈l,0<=t/\t<f.Slots.length:=λt ht=>by
   obtain⟨j,q1,rfl,_⟩:=(hm t).1 ht;omega
  refine Hs.loop (λs=>∃ k:Nat,s.2=(k:Int)/\k<=l.length/\AaU f (l.take k) x.Align s.1) (λs=>l.length-s.2.toNat) ⟨0,rfl,aAC _,by grind [AaU.nil]⟩ ?_
  rintro⟨a,_⟩ ⟨k,rfl,hk,hx⟩;refine .dec (λhlt2=>?_) λhge2=>.lft (.chk (by simp;omega) ?_)
  ·have hlt2:k<l.length:=by omega
   have hg:l[k]? =some l[k]:=aAA _;have htk:l.take (k+1)=l.take k++[l[k]]:=by simp_all
   have ht:=hl _ (aAI hlt2);generalize l[k]=t at hg htk ht;refine .chk (by omega) ?_
   rw[aAD,hg,aA];refine(Hs.ix (P:=λy=>alS f t=y.Align) ht.1 ht.2 λy hy=>by grind [alS]).bind λy hy=>?_
   rw[Nw (by omega),Aop,<- hy]
   refine .cnt ⟨⟨k+1,rfl,hlt2,?_⟩,by grind⟩
   rw[htk];exact hx.snoc t
  ·have hkk:k=l.length:=by omega
   subst hkk;rw[aAQ]at hx;rw[Nw (by omega)]
   exact .cnt ⟨⟨i+1,rfl,hlt,by simp[ho],hsa.snoc ho (by omega) hgx hfx rfl hm hx⟩,by grind⟩
 have hii:i=used.length:=by omega
 subst hii;rw[aAQ]at hsa;unfold Aqv YZ;rw[Oa (by omega),aA]
 refine Hs.loop (λs=>∃ k:Nat,s.2=(k:Int)/\k<=r.To.length/\s.1.length=r.To.length/\(∀ (j:Nat) x,j<k->s.1[j]? =some x->NJ r.To j∈used->0<=x/\used[x.toNat]? =some (NJ r.To j))/\∀ j:Nat,k<=j->s.1[j]? =r.To[j]?) (λs=>r.To.length-s.2.toNat) ⟨0,rfl,aAC _,rfl,λj x hj=>absurd hj (aAJ _),λj _=>rfl⟩ ?_
 rintro⟨to,_⟩ ⟨k,rfl,hk,h1,h2,h3⟩;replace h1:to.length=r.To.length:=h1;refine .dec (λhlt=>?_) λhge=>.lft ?_
 ·have hlt:k<r.To.length:=by omega
  have hg:=QQ (to:=r.To) (s:=(k:Int)) (by omega) (by omega)
  rw[aAD,<- h3 k (aAK _)]at hg;refine .chk (by simp_all) ?_
  rw[aAD,hg,aA,AvY _ _ (by omega),aA]
  refine .chk (by simp_all) ?_
  rw[aA,Nw (by omega)]
  refine .cnt ⟨⟨k+1,rfl,hlt,by simp[h1],λj x hj hx hm=>?_,λj hj=>?_⟩,by simp only;omega⟩
  ·have hx:(to.set k (AkC (NJ r.To k) 0 used))[j]? =some x:=hx
   by_cases e:j=k
   ·subst e;rw[aAg (by omega)]at hx
    cases hx;obtain⟨q,q1,q2⟩:=AqK _ 0 _ hm;simp_all
   ·rw[List.getElem?_set_ne (λh=>e h.symm)]at hx
    exact h2 j x (by omega) hx hm
  grind
 ·have hkk:k=r.To.length:=by omega
  subst hkk;refine(AuC r (by omega)).bind λpl hp=>?_
  rw[AqB hf hkl,aA];refine(Awm hf hkl to pl hp.1 out).mono λq hq=>?_
  subst hq;exact⟨rfl,rfl,used,to,pl,hu0,hsa,⟨h1,λs x hs hm=>h2 s x (by grind) hs hm⟩,hp,rfl⟩
theorem AsE (hf:NS f) (hd:QD f) (hr:SO f r):∃ q,Yo f r=some q/\QB f r=some q/\Abt f r q:=by
 obtain⟨q,h1,h2⟩:=Awl hf hd hr;obtain⟨q',k1,k2⟩:=Awr hf hd hr;exact⟨q,h1,by rw[k1,k2.unique hf hd hr h2],h2⟩
end
open Go Go.Dw Go.Proofs
def Aac (f:Nn) (l:List (List Int)) (r:ND) (k:Nat) (y:Int):Prop :=
 ((Ns f k).Op=16\/(Ns f k).Op=17)/\¬ ((Ns f k).Op=17/\NJ r.To (Ns f k).A=NJ r.To (Ns f k).B)/\y∈NP l k/\(NU r.Keep k=true↔y≠(Ns f k).A)/\NJ r.To y=NJ r.To (Ns f k).A
instance {f:Nn} {l:List (List Int)} {r:ND} {k:Nat} {y:Int}:Decidable (Aac f l r k y):=by unfold Aac;infer_instance
theorem Aac.mono {l':List (List Int)} {y:Int} (h:Aac f l' r k y) (hs:∀ v∈NP l' k,v∈NP l k):Aac f l r k y :=
 ⟨h.1,h.2.1,hs y h.2.2.1,h.2.2.2.1,h.2.2.2.2⟩
def AqR (f:Nn) (l:List (List Int)) (r:ND) (k:Nat):Option Int:=(NP l k).find? λy=>decide (Aac f l r k y)
def Ahr (f:Nn) (l:List (List Int)) (r:ND) (q:Int×Int×Bool):Prop :=
 (∃ (k:Nat) (y:Int),k<f.Code.length/\AqR f l r k=some y/\(∀ j<k,AqR f l r j=none)/\q=((k:Int),y,true))\/((∀ j<f.Code.length,AqR f l r j=none)/\q=(0,0,false))
theorem Ahr.unique {q p:Int×Int×Bool} (h:Ahr f l r q) (h':Ahr f l r p):q=p:=by
 rcases h with⟨k,y,hk,h1,h2,rfl⟩|⟨h1,rfl⟩<;>rcases h' with⟨k',y',hk',h1',h2',rfl⟩|⟨h1',rfl⟩
 all_goals grind
theorem Ahr.found {q:Int×Int×Bool} (h:Ahr f l r q):q.2.2=true↔∃ k y,k<f.Code.length/\Aac f l r k y:=by
 rcases h with⟨k,y,hk,h1,_,rfl⟩|⟨h1,rfl⟩
 ·exact⟨λ_=>⟨k,y,hk,by simpa using List.find?_some h1⟩,λ_=>rfl⟩
 ·refine⟨λh=>(by cases h),λ⟨k,y,hk,hy⟩=>?_⟩
  have:=List.find?_eq_none.1 (h1 k hk) y hy.2.2.1;simp_all
theorem Aqy (hf:NS f) (hd:QD f) {l:NN} (hl:RH f l.Out) (hr:SO f r) (hk:k<f.Code.length) :
  Hs (QH (k:Int) f r l) λq=>q.2=true↔∃ y,Aac f l.Out r k y:=by
 have htl:=hr.1.1;have hx:=hf.at (j:=(k:Int)) (by omega) (by omega)
 have hrow:=hl.at (j:=(k:Int)) (by omega) (by omega)
 rw[aAD]at hx hrow;have hlo:=hrow.2.1.length_le;have hg:r.Keep[k]? =some (NU r.Keep k):=by have:=hr.2.1;grind [NU]
 have tg:∀ s:Int,0<=s->s<f.Slots.length->ixO r.To s=some (NJ r.To s):=λs h0 h1=>by grind [OZ,QQ]
 unfold QH;simp only[NT,hx.1,aA,AhH]
 by_cases hdef:(Ns f k).Op=16\/(Ns f k).Op=17
 ·rw[if_pos hdef];have hA:=hd _ hx.2 hdef;have inner:¬ ((Ns f k).Op=17/\NJ r.To (Ns f k).A=NJ r.To (Ns f k).B)->Hs (PD l (k:Int) r ((Ns f k).A,true)) λq=>q.2=true↔∃ y,Aac f l.Out r k y:=by
   intro hnm;unfold PD;rw[NT,hrow.1,aA];refine Hs.loop (λi=>∃ j:Nat,i=(j:Int)/\j<=(NP l.Out k).length/\∀ y∈(NP l.Out k).take j,¬ Aac f l.Out r k y) (λi=>(NP l.Out k).length-i.toNat) ⟨0,rfl,aAC _,λy hy=>by simp at hy⟩ ?_
   rintro _ ⟨j,rfl,hj,hno⟩;refine .dec (λhlt=>?_) λhge=>.lft (.pure ⟨λh=>(by cases h),λ⟨y,hy⟩=>?_⟩)
   ·have hlt:j<(NP l.Out k).length:=by omega
    have hgx:(NP l.Out k)[j]? =some (NP l.Out k)[j]:=aAA _;have hxm:=aAI hlt;have htk:(NP l.Out k).take (j+1)=(NP l.Out k).take j++[(NP l.Out k)[j]]:=by simp_all
    generalize(NP l.Out k)[j]=y at hgx hxm htk;have hy0:=(hrow.2.1.2 y hxm).1;have hyn:=hrow.2.2 y hxm;have stp:¬ Aac f l.Out r k y->∀ z∈(NP l.Out k).take (j+1),¬ Aac f l.Out r k z:=by
     grind
    simp only[NT,hgx,hg,tg _ hy0 hyn,tg _ hA.1 hA.2,aA];rw[Nw (by omega)]
    have hky:(NU r.Keep k==(y != (Ns f k).A))=true↔(NU r.Keep k=true↔y≠(Ns f k).A):=by
     grind
    refine .cond (λh1=>.beq (λh2=>.lft (.pure ⟨λ_=>⟨y,hdef,hnm,hxm,hky.1 h1,h2⟩,λ_=>rfl⟩)) λh2=>?_) λh1=>?_
    ·exact .cnt ⟨⟨j+1,rfl,hlt,stp λh=>h2 h.2.2.2.2⟩,by grind⟩
    ·exact .cnt ⟨⟨j+1,rfl,hlt,stp λh=>by rw[hky.2 h.2.2.2.1]at h1;cases h1⟩,by grind⟩
   ·refine(hno y ?_ hy).elim;rw[aAh (by omega)]
    exact hy.2.2.1
  refine .beq (λh17=>?_) λh17=>inner λh=>h17 h.1
  have hB:=hf.uses _ hx.2 (Ns f k).B (by grind [Pm])
  rw[tg _ hA.1 hA.2,aA,tg _ hB.1 hB.2,aA];exact .beq (λh=>.pure ⟨λh=>(by cases h),λ⟨y,hy⟩=>(hy.2.1 ⟨h17,h⟩).elim⟩) λh=>inner λh'=>h h'.2
 ·rw[if_neg hdef];exact .pure ⟨λh=>(by cases h),λ⟨y,hy⟩=>(hdef hy.1).elim⟩
theorem ArJ (hf:NS f) (hd:QD f) {l:NN} (hl:Acc f l.Out) (hr:SO f r):Hs (Xb f l r) λq=>q.2.2=true↔∃ k y,k<f.Code.length/\Aac f l.Out r k y:=by
 have hlen:=hf.len';refine(Amn hf (hl.1.len hf)).bind λe he=>.bne (λh=>(h (he.2.2 hl)).elim) λ_=>?_
 refine(AiZ hf r).bind λe he=>.bne (λh=>(h (he.2.2 hr)).elim) λ_=>?_
 refine Hs.loop (λi=>∃ k:Nat,i=(k:Int)/\k<=f.Code.length/\∀ j y,j<k->¬ Aac f l.Out r j y) (λi=>f.Code.length-i.toNat) ⟨0,rfl,aAC _,λs _ hs=>absurd hs (aAJ _)⟩ ?_
 rintro _ ⟨k,rfl,hk,hall⟩;refine .dec (λhlt=>?_) λhge=>.lft (.pure ⟨λh=>(by cases h),λ⟨j,y,hj,hy⟩=>(hall j y (by omega) hy).elim⟩)
 have hlt:k<f.Code.length:=by omega
 refine(Aqy hf hd hl.1 hr hlt).bind λq hq=>.cond (λh=>?_) λh=>?_
 ·obtain⟨y,hy⟩:=hq.1 h;exact .lft (.pure ⟨λ_=>⟨k,y,hlt,hy⟩,λ_=>rfl⟩)
 ·rw[Nw (by omega)]
  refine .cnt ⟨⟨k+1,rfl,hlt,λj y hj hy=>?_⟩,by grind⟩
  grind
theorem Avh (hf:NS f) (hd:QD f) {l:NN} (hl:Qn l.Out) (r:ND) :
  Hs (XD f l r) λe=>(¬ Acc f l.Out/\e=11)\/(Acc f l.Out/\(¬ SO f r\/∃ k y,k<f.Code.length/\Aac f l.Out r k y)/\e=12)\/(Acc f l.Out/\SO f r/\(∀ k y,k<f.Code.length->¬ Aac f l.Out r k y)/\e=0):=by
 unfold XD;refine(Amn hf hl).bind λe he=>.bne (λh=>.pure (.inl ⟨λh'=>h (he.2.2 h'),rfl⟩)) λh=>?_
 have ha:=he.2.1 h;refine(AiZ hf r).bind λe he=>.bne (λh=>.pure (.inr (.inl ⟨ha,.inl λh'=>h (he.2.2 h'),rfl⟩))) λh=>?_
 have hr:=he.2.1 h;refine(ArJ hf hd ha hr).bind λq hq=>.cond (λh=>.pure (.inr (.inl ⟨ha,.inr (hq.1 h),rfl⟩))) λh=>.pure (.inr (.inr ⟨ha,hr,λk y hk hy=>?_,rfl⟩))
 simp_all
end Go.Proofs.YtcaoepecbgggcaaGreatDoor
namespace Go.Dw
open Go
theorem Avx (x k w:Nat) (hx:x<2 ^ w) (hk:k<=w):x &&& (2 ^ w-1-(2 ^ k-1))=x / 2 ^ k*2 ^ k:=by
 have hle:2 ^ k<=2 ^ w:=aAL (by omega) hk
 have h0:0<2 ^ k:=aAf k;apply Nat.eq_of_testBit_eq
 grind [Nat.testBit_lt_two_pow,Nat.lt_of_lt_of_le,aAL]
theorem Ayi (x:Int) (k:Nat) (hk:k<=24) (h0:0<=x) (h1:x<4611686018427387904) :
  IntKind.i64.wrap (((aAN IntKind.i64.bits x &&& ~~~ aAN IntKind.i64.bits ((2 ^ k-1:Nat):Int)).toNat:Nat):Int)=x-x % ((2 ^ k:Nat):Int):=by
 obtain⟨n,rfl⟩:∃ n:Nat,x=(n:Int):=⟨x.toNat,by omega⟩
 have hp:2 ^ k<=2 ^ 24:=aAL (by omega) hk
 have hp0:0<2 ^ k:=aAf k;have hn:n<2 ^ 64:=by omega
 have hb:IntKind.i64.bits=64:=rfl;rw[hb,aAc,BitVec.toNat_not];have e1:(aAN 64 (n:Int)).toNat=n:=by simp;omega
 have e2:(aAN 64 ((2 ^ k-1:Nat):Int)).toNat=2 ^ k-1:=by
  grind
 rw[e1,e2,Avx n k 64 hn (by omega)]
 have hm:=Nat.div_add_mod n (2 ^ k)
 grind [wrap64]
end Go.Dw
namespace Go.Proofs.YtcaoepecbgggcaaGreatDoor
open Go Go.Dw Go.Proofs
variable {a s:Int} {x:Lo} {p:Nv} {i k:Nat} {f:Nn} {l g:List (List Int)} {r:List Int×Int} {fr:NX} {z:PE×Int} {c:Mk}
theorem Akv (n:Int):SX n=some (decide (0<=n/\n<=2147483647)):=by
 rw[<- XK];rfl
theorem Apg (a:NH):Vu a=some (decide (Uc a)):=by
 rw[<- AmS]
 grind [Vu,Ro,Akv,XK]
theorem AiS {m:Nat} (hm:m<=24):Qu ((2 ^ m:Nat):Int)=some true:=by
 have hp:2 ^ m<=2 ^ 24:=aAL (by omega) hm
 have h0:0<2 ^ m:=aAf m;have hz:(2 ^ m) &&& (2 ^ m-1)=0:=by simp_all
 unfold Qu;generalize 2 ^ m=a at *;rw[decide_eq_true (show((a:Nat):Int)>=1 by omega),cond_true,decide_eq_true (show((a:Nat):Int)<=16777216 by omega),cond_true,wrap64 (n:=(a:Int)-1) (by omega) (by omega)]
 have hb:IntKind.i64.bits=64:=rfl;have e1:(aAN 64 (a:Int)).toNat=a:=by grind
 have e2:(aAN 64 ((a:Int)-1)).toNat=a-1:=by grind
 rw[hb,aAc,e1,e2,hz];rfl
theorem ArP {u v:Int} (ha:0<a) (hu:u % a=0) (hv:v % a=0) (h1:u-v<a) (h2:v-u<a):u=v:=by
 obtain⟨p,rfl⟩:=aAd hu;obtain⟨q,rfl⟩:=aAd hv;have key:∀ x y:Int,x<y->a*x+a<=a*y:=λx y h=>by
  have:=Int.mul_le_mul_of_nonneg_left (show x+1<=y by omega) (show 0<=a by omega)
  grind
 rcases Int.lt_trichotomy p q with h|h|h
 ·grind
 ·rw[h]
 ·have:=key q p h;omega
theorem Axx {n:Int} (h0:0<=n) (h1:n<=4000000000) (ha:Re a):AdP n a=some (upN n a):=by
 obtain⟨a1,a2⟩:=ha.rng;obtain⟨m,hm,rfl⟩:=ha;obtain⟨p1,p2,p3⟩:=Vh (n:=n) (a:=((2 ^ m:Nat):Int)) (by omega)
 unfold AdP;have w1:IntKind.i64.wrap (n+((2 ^ m:Nat):Int))=n+((2 ^ m:Nat):Int):=wrap64 (by omega) (by omega)
 have w2:IntKind.i64.wrap (n+((2 ^ m:Nat):Int)-1)=n+((2 ^ m:Nat):Int)-1:=wrap64 (by omega) (by omega)
 have w3:IntKind.i64.wrap (((2 ^ m:Nat):Int)-1)=((2 ^ m-1:Nat):Int):=by grind [wrap64]
 rw[w1,w2,w3,Ayi _ m hm (by omega) (by omega)]
 have key:n+((2 ^ m:Nat):Int)-1-(n+((2 ^ m:Nat):Int)-1) % ((2 ^ m:Nat):Int)=upN n ((2 ^ m:Nat):Int):=by
  refine ArP (a:=((2 ^ m:Nat):Int)) (by omega) ?_ p3 (by omega) (by omega)
  simp_all
 rw[key]
theorem Auh {n:Int} (h0:0<=n) (h1:n<=1000000000) (ha:Re a):Abm n a=some (upN n a,0):=by
 have h2:=Axx h0 (by omega) ha
 obtain⟨a1,a2⟩:=ha.rng;obtain⟨p1,p2,p3⟩:=Vh (n:=n) (a:=a) (by omega)
 have hp:Qu a=some true:=by obtain⟨m,hm,rfl⟩:=ha;exact AiS hm
 unfold Abm;rw[Akv,aA,decide_eq_true (show 0<=n/\n<=2147483647 by omega)]
 simp only[aAW,cond_false,hp,aA];unfold AbM TI
 grind
theorem Asg {x y:Int} (hx:0<=x/\x<=1000000000) (hy:0<=y/\y<=1000000000):UP x y=some (x+y,0):=by
 grind [UP,Ye,TI,Akv,wrap64]
theorem Ank (a:NH) (n:Int):So a n=some (decide (InI a n)):=by
 rw[<- Apj]
 grind [So,Uo,Apg,AmS]
theorem ArL (a b:NH):Xo a b=some (decide (Aiw a b)):=by
 unfold Xo Adj;simp only[Apg,aA]
 by_cases h1:Uc a
 ·by_cases h2:Uc b
  ·rw[h1.wrap,h2.wrap];simp only[h1,h2,decide_true,cond_true,Aiw,true_and,Option.some.injEq];refine decide_eq_decide.2 ?_
   grind [OA,Tw]
  grind [Aiw]
 grind [Aiw]
theorem AqX {i:Int} (hi:ixO p.Funcs i=some f) (hl:f.Code.length<=10000) (h:AaL p f):Zm p i=some (16*PI p f f.Code.length):=by
 have:Hs (Zm p i) λr=>r=16*PI p f f.Code.length:=by
  unfold Zm;rw[hi,aA];refine Hs.loop (λq=>∃ k:Nat,q=((k:Int),PI p f k)/\k<=f.Code.length) (λq=>f.Code.length-q.1.toNat) ⟨0,rfl,aAC _⟩ ?_
  rintro _ ⟨k,rfl,hk⟩;have hr:=XJ h hk;refine .dec (λhlt=>?_) λhge=>.lft (.pure ?_)
  ·have hlt:k<f.Code.length:=by omega
   have e:ixO f.Code (k:Int)=some f.Code[k]:=by simp_all
   obtain⟨h1,h2⟩:=h _ (aAI hlt);simp only[e,aA];rw[Nw (by omega)]
   refine .beq (λh18=>?_) λh18=>.beq (λh22=>?_) λh22=>?_
   ·rw[wrap64 (by omega) (by omega)]
    exact .cnt ⟨⟨k+1,by grind [Wc,VS],hlt⟩,by grind⟩
   ·obtain⟨a0,g,hg,hp⟩:=h2 h22;rw[OZ _ a0,hg,aA];exact .cnt ⟨⟨k+1,by grind [Wc,VS],hlt⟩,by grind⟩
   ·exact .cnt ⟨⟨k+1,by grind [Wc,VS],hlt⟩,by grind⟩
  ·have:k=f.Code.length:=by omega
   subst this;rw[wrap64 (by omega) (by omega)]
   exact rfl
 obtain⟨r,h,rfl⟩:=this;exact h
theorem AmB {i:Int} (hi:ixO p.Funcs i=some f) (hl:f.Code.length<=10000) (h:AaL p f) (hs:Aao f.Slots) {al:Int} (ha:Re al) (ha':al<=16777216):Tn p i al=some (QE p f al,0):=by
 have hr:=XJ h (k:=f.Code.length) (aAK _);have hsl:=hs.1;have:Hs (Tn p i al) λr=>r=(QE p f al,0):=by
  unfold Tn;rw[AqX hi hl h,aA,hi,aA];unfold QE;have hr2:0<=16*PI p f f.Code.length/\16*PI p f f.Code.length<=128:=by omega
  generalize 16*PI p f f.Code.length=a0 at *;refine Hs.loop (λq=>∃ k:Nat,q=((plK f.Slots a0 k).1,(k:Int),(plK f.Slots a0 k).2)/\k<=f.Slots.length) (λq=>f.Slots.length-q.2.1.toNat) ⟨0,rfl,aAC _⟩ ?_
  rintro _ ⟨k,rfl,hk⟩;obtain⟨q1,q2,q3⟩:=AcK hs (a:=a0) (by omega) hk
  dsimp only;refine .dec (λhlt=>?_) λhge=>.lft ?_
  ·have hlt:k<f.Slots.length:=by omega
   have e:ixO f.Slots (k:Int)=some f.Slots[k]:=by simp_all
   obtain⟨h1,h2,h3,h4⟩:=hs.2 _ (aAI hlt);obtain⟨u1,u2,_⟩:=Vh (n:=(plK f.Slots a0 k).2) (a:=f.Slots[k].Align) (by have:=h1.rng;omega)
   simp only[e,aA];rw[Auh (by omega) (by omega) h1,aA]
   rw[Asg (by omega) (by omega),aA]
   refine .chk (by simp;omega) ?_
   rw[Nw (by omega)]
   exact .cnt ⟨⟨k+1,by grind [AcL,Afq],hlt⟩,by grind⟩
  ·have:k=f.Slots.length:=by omega
   subst this;obtain⟨u1,u2,_⟩:=Vh (n:=(plK f.Slots a0 f.Slots.length).2) (a:=al) (by have:=ha.rng;omega)
   unfold AeK Yh;rw[Auh (by omega) (by omega) ha,aA]
   rw[Asg (by omega) (by omega),aA]
   exact .pure rfl
 obtain⟨r,h,rfl⟩:=this;exact h
section
variable {p:Nv} {i:Int} {f:Nn} {al:Int} (h:Aiv p i f al)
 include h
theorem AuB (y:NC) (hl:y.Off.length=f.Slots.length) (hk:k<f.Slots.length):Hs (SA ⟨p,i,al,f,y⟩ (k:Int)) λb=>b=true↔AeW f y k:=by
 have eo:y.Off[k]? =some (y.Off[k]'(by omega)):=aAA _
 have es:f.Slots[k]? =some f.Slots[k]:=aAA _;have hs:=(h.slots.2 _ (aAI hk)).1.rng;generalize(y.Off[k]'(by omega))=o at eo
 generalize f.Slots[k]=s at es hs;have key:AeW f y k↔y.Args<=o/\o.tmod s.Align=0/\InI ⟨o,s.Size⟩ y.Size:=by
  grind [AeW]
 rw[key];unfold SA;simp only[NT,eo,aA];refine .dec (λh1=>?_) λh1=>.pure ⟨λh=>(by cases h),λh=>(h1 h.1).elim⟩
 simp only[es,aA];refine .chk (by omega) (.beq (λh2=>?_) λh2=>.pure ⟨λh=>(by cases h),λh=>(h2 h.2.1).elim⟩)
 unfold PS;simp only[NT,eo,es,aA,Ank];exact .pure ⟨λh=>⟨h1,h2,of_decide_eq_true h⟩,λh=>decide_eq_true h.2.2⟩
theorem Ati (y:NC):Hs (SZ ⟨p,i,al,f,y⟩) λe=>(e=0\/e=13)/\(e=0↔Ti p f al y):=by
 have hal:=h.al16;have hsl:=h.slots.1;have no:∀ {Q:Prop},(Ti p f al y->False)->Hs (some (13:Int)) λe=>(e=0\/e=13)/\(e=0↔Ti p f al y):=λhn=>.pure ⟨.inr rfl,⟨λh=>(by cases h),λh=>(hn h).elim⟩⟩
 unfold SZ;rw[AmB h.hi h.Um.len' h.arg h.slots h.alok h.al64,aA,AqX h.hi h.Um.len' h.arg,aA];simp only[bne_self_eq_false,cond_false];refine .bne (λhA=>no (Q:=True) λhq=>hA hq.1) λhA=>.bne (λhL=>no (Q:=True) λhq=>hL (by rw[hq.2.1])) λhL=>?_
 have hL:y.Off.length=f.Slots.length:=by omega
 refine Hs.loop (λq=>∃ k:Nat,q=(k:Int)/\k<=f.Slots.length/\∀ j<k,AeW f y j) (λq=>f.Slots.length-q.toNat) ⟨0,rfl,aAC _,λj hj=>absurd hj (aAJ _)⟩ ?_
 rintro _ ⟨k,rfl,hk,hall⟩;refine .dec (λhlt=>?_) λhge=>.lft ?_
 ·have hlt:k<f.Slots.length:=by simp_all
  refine(AuB h y hL hlt).bind λb hb=>.cond (λhb'=>.lft (no (Q:=True) λhq=>?_)) λhb'=>?_
  ·have:=hb.2 (hq.2.2.1 k hlt);simp_all
  ·rw[Nw (by omega)]
   refine .cnt ⟨⟨k+1,rfl,hlt,λj hj=>?_⟩,by grind⟩
   grind
 ·have hkk:k=f.Slots.length:=by grind
  subst hkk;refine .chk (by grind) (.bne (λh1=>no (Q:=True) λhq=>h1 hq.2.2.2.1) λh1=>.dec (λh2=>no (Q:=True) λhq=>?_) λh2=>.dec (λh3=>no (Q:=True) λhq=>?_) λh3=>.pure ⟨.inl rfl,⟨λ_=>⟨hA,hL,hall,h1,?_,?_⟩,λ_=>rfl⟩⟩)
  ·have:=hq.2.2.2.2.1;grind
  ·have:=hq.2.2.2.2.2;grind
  all_goals simp_all
end
open Go Go.Dw Go.Proofs
def VN (y:NC) (s:Int):Int:=(y.Off[s.toNat]?).getD 0
def WT (f:Nn) (l:List (List Int)) (y:NC) (k:Nat) (s:Int):Prop :=
 ((Ns f k).Op=16\/(Ns f k).Op=17)/\¬ ((Ns f k).Op=17/\VN y (Ns f k).A=VN y (Ns f k).B)/\s∈NP l k/\s≠(Ns f k).A/\Aiw ⟨VN y s,Ph f s⟩ ⟨VN y (Ns f k).A,Ph f (Ns f k).A⟩
instance {f:Nn} {l:List (List Int)} {y:NC} {k:Nat} {s:Int}:Decidable (WT f l y k s):=by unfold WT;infer_instance
theorem WT.mono {l':List (List Int)} {y:NC} (h:WT f l' y k s) (hs:∀ v∈NP l' k,v∈NP l k):WT f l y k s :=
 ⟨h.1,h.2.1,hs s h.2.2.1,h.2.2.2⟩
def Vi (f:Nn) (l:List (List Int)) (y:NC) (k:Nat):Option Int:=(NP l k).find? λs=>decide (WT f l y k s)
def AqI (o:Option Int):Int×Bool:=match o with|some y=>(y,true)|none=>(0,false)
theorem AvT {l:List Int} {p:Int->Bool} {j:Nat} {y:Int} (h:l[j]? =some y) (hp:p y=true) (hn:∀ z∈l.take j,p z=false):l.find? p=some y:=by
 grind [List.getElem_cons_drop,List.take_append_drop]
theorem Akd {y:NC}:Vi f l y k=none↔∀ s,¬ WT f l y k s:=by
 unfold Vi;rw[List.find?_eq_none];exact⟨λh s hs=>by have:=h s hs.2.2.1;simp_all,λh s _=>by simp[h s]⟩
theorem Aqt {y:NC} (h:Vi f l y k=some s):WT f l y k s:=by
 grind [Vi]
theorem Alc {y:NC} (hl:y.Off.length=f.Slots.length) (h0:0<=s) (h1:s<f.Slots.length):ixO y.Off s=some (VN y s):=by
 grind [OZ,VN]
theorem Asu (h0:0<=s) (h1:s<f.Slots.length):∃ x,ixO f.Slots s=some x/\x.Size=Ph f s:=by
 have e:f.Slots[s.toNat]? =some (f.Slots[s.toNat]'(by omega)):=aAA _
 grind [OZ,ZV]
def Acv (f:Nn) (l:List (List Int)) (y:NC) (q:Int×Int×Bool):Prop :=
 (∃ (k:Nat) (s:Int),k<f.Code.length/\Vi f l y k=some s/\(∀ j<k,Vi f l y j=none)/\q=((k:Int),s,true))\/((∀ j<f.Code.length,Vi f l y j=none)/\q=(0,0,false))
theorem Acv.unique {y:NC} {q p:Int×Int×Bool} (h:Acv f l y q) (h':Acv f l y p):q=p:=by
 rcases h with⟨k,s,hk,h1,h2,rfl⟩|⟨h1,rfl⟩<;>rcases h' with⟨k',s',hk',h1',h2',rfl⟩|⟨h1',rfl⟩
 all_goals grind
theorem Acv.found {y:NC} {q:Int×Int×Bool} (h:Acv f l y q):q.2.2=true↔∃ k s,k<f.Code.length/\WT f l y k s:=by
 rcases h with⟨k,s,hk,h1,h2,rfl⟩|⟨h1,rfl⟩
 all_goals grind [Aqt,Akd]
def AeQ (p:Nv) (f:Nn) (al:Int) (l:List (List Int)) (y:NC) (e:Int):Prop :=
 (¬ Ti p f al y/\e=13)\/(Ti p f al y/\¬ Acc f l/\e=11)\/(Ti p f al y/\Acc f l/\(∃ k s,k<f.Code.length/\WT f l y k s)/\e=13)\/(Ti p f al y/\Acc f l/\(∀ k s,k<f.Code.length->¬ WT f l y k s)/\e=0)
theorem AeQ.unique {al:Int} {y:NC} {b:Int} (h:AeQ p f al l y a) (h':AeQ p f al l y b):a=b:=by
 rcases h with⟨h1,rfl⟩|⟨h1,h2,rfl⟩|⟨h1,h2,⟨k,s,hk,hc⟩,rfl⟩|⟨h1,h2,h3,rfl⟩<;>rcases h' with⟨k1,rfl⟩|⟨k1,k2,rfl⟩|⟨k1,k2,⟨k',s',hk',hc'⟩,rfl⟩|⟨k1,k2,k3,rfl⟩ <;>
  first|rfl|exact(h1 k1).elim|exact(k1 h1).elim|exact(h2 k2).elim|exact(k2 h2).elim|exact(k3 _ _ hk hc).elim|simp_all
section
variable {p:Nv} {i:Int} {f:Nn} {al:Int} (h:Aiv p i f al)
 include h
theorem AlY {y:NC} (hl:y.Off.length=f.Slots.length) (h0:0<=s) (h1:s<f.Slots.length):PS ⟨p,i,al,f,y⟩ s=some ⟨VN y s,Ph f s⟩:=by
 have:=h
 grind [PS,Asu,Alc]
theorem AvF {y:NC} (hyl:y.Off.length=f.Slots.length) {l:NN} (hl:RH f l.Out) (hk:k<f.Code.length) :
  Hs (SY ⟨p,i,al,f,y⟩ l (k:Int)) λq=>q=AqI (Vi f l.Out y k):=by
 have hx:=h.Um.at (j:=(k:Int)) (by omega) (by omega)
 have hrow:=hl.at (j:=(k:Int)) (by omega) (by omega)
 rw[aAD]at hx hrow;have hlo:=hrow.2.1.length_le;have none':(∀ s,¬ WT f l.Out y k s)->Vi f l.Out y k=none:=Akd.2;unfold SY;simp only[NT,hx.1,aA,AhH]
 by_cases hdef:(Ns f k).Op=16\/(Ns f k).Op=17
 ·rw[if_pos hdef];have hA:=h.defs _ hx.2 hdef;have inner:¬ ((Ns f k).Op=17/\VN y (Ns f k).A=VN y (Ns f k).B)->Hs (QZ l (k:Int) ((Ns f k).A,true) ⟨p,i,al,f,y⟩) λq=>q=AqI (Vi f l.Out y k):=by
   intro hnm;unfold QZ;rw[NT,hrow.1,aA];refine Hs.loop (λi=>∃ j:Nat,i=(j:Int)/\j<=(NP l.Out k).length/\∀ s∈(NP l.Out k).take j,¬ WT f l.Out y k s) (λi=>(NP l.Out k).length-i.toNat) ⟨0,rfl,aAC _,λy hy=>by simp at hy⟩ ?_
   rintro _ ⟨j,rfl,hj,hno⟩;refine .dec (λhlt=>?_) λhge=>.lft (.pure ?_)
   ·have hlt:j<(NP l.Out k).length:=by omega
    have hgx:(NP l.Out k)[j]? =some (NP l.Out k)[j]:=aAA _;have hxm:=aAI hlt;have htk:(NP l.Out k).take (j+1)=(NP l.Out k).take j++[(NP l.Out k)[j]]:=by simp_all
    generalize(NP l.Out k)[j]=s at hgx hxm htk;have hs0:=(hrow.2.1.2 s hxm).1;have hsn:=hrow.2.2 s hxm;have stp:¬ WT f l.Out y k s->∀ z∈(NP l.Out k).take (j+1),¬ WT f l.Out y k z:=by
     grind
    simp only[NT,hgx,aA,AlY h hyl hs0 hsn,AlY h hyl hA.1 hA.2,ArL];rw[Nw (by omega)]
    refine .bne (λh1=>.cond (λh2=>.lft (.pure ?_)) λh2=>?_) λh1=>?_
    ·have hL:WT f l.Out y k s:=⟨hdef,hnm,hxm,h1,of_decide_eq_true h2⟩;rw[Vi,AvT hgx (by simp[hL]) λz hz=>by simp_all]
     rfl
    ·exact .cnt ⟨⟨j+1,rfl,hlt,stp λh=>by rw[decide_eq_true h.2.2.2.2]at h2;cases h2⟩,by grind⟩
    ·exact .cnt ⟨⟨j+1,rfl,hlt,stp λh=>h.2.2.2.1 h1⟩,by grind⟩
   ·rw[none' λs hs=>hno s (by rw[aAh (by omega)];exact hs.2.2.1) hs]
    rfl
  refine .beq (λh17=>?_) λh17=>inner λh=>h17 h.1
  have hB:=h.Um.uses _ hx.2 (Ns f k).B (by grind [Pm])
  rw[Alc hyl hA.1 hA.2,aA,Alc hyl hB.1 hB.2,aA];refine .beq (λh=>.pure ?_) λh=>inner λh'=>h h'.2
  rw[none' λs hs=>hs.2.1 ⟨h17,h⟩]
  rfl
 ·rw[if_neg hdef];refine .pure ?_;rw[none' λs hs=>hdef hs.1]
  rfl
theorem Ath {y:NC} (hyl:y.Off.length=f.Slots.length) {l:NN} (hl:RH f l.Out):Hs (UQ ⟨p,i,al,f,y⟩ l) (Acv f l.Out y):=by
 have hlen:=h.Um.len';refine Hs.loop (λi=>∃ k:Nat,i=(k:Int)/\k<=f.Code.length/\∀ j<k,Vi f l.Out y j=none) (λi=>f.Code.length-i.toNat) ⟨0,rfl,aAC _,λj hj=>absurd hj (aAJ _)⟩ ?_
 rintro _ ⟨k,rfl,hk,hall⟩;refine .dec (λhlt=>?_) λhge=>.lft (.pure (Or.inr ⟨λj hj=>hall j (by grind),rfl⟩))
 have hlt:k<f.Code.length:=by simp_all
 refine(AvF h hyl hl hlt).bind λq hq=>?_
 subst hq;cases hlk:Vi f l.Out y k with
 | some s=>exact .lft (.pure (Or.inl ⟨k,s,hlt,hlk,hall,rfl⟩))
 | none =>
  simp only[AqI,cond_false];rw[Nw (by omega)]
  refine .cnt ⟨⟨k+1,rfl,hlt,λj hj=>?_⟩,by grind⟩
  grind
theorem Awu (y:NC) {l:NN} (hl:Qn l.Out):Hs (UR ⟨p,i,al,f,y⟩ l) λe=>(¬ Ti p f al y/\e=13)\/(Ti p f al y/\¬ Acc f l.Out/\e=11)\/(Ti p f al y/\Acc f l.Out/\e=0):=by
 refine(Ati h y).bind λe he=>.bne (λhne=>.pure (.inl ⟨λhs=>hne (he.2.2 hs),?_⟩)) λh0=>?_
 ·omega
 refine(Amn h.Um hl).bind λc hc=>.bne (λhne=>.pure (.inr (.inl ⟨he.2.1 h0,λha=>hne (hc.2.2 ha),rfl⟩))) λhc0=>.pure (.inr (.inr ⟨he.2.1 h0,hc.2.1 hc0,rfl⟩))
theorem Ant (y:NC) {l:NN} (hl:Qn l.Out):Hs (Xq p i al l y) (AeQ p f al l.Out y):=by
 unfold Xq;rw[h.hi,aA];refine(Awu h y hl).bind λe he=>.bne (λhne=>.pure ?_) λh0=>?_
 ·rcases he with⟨h1,h2⟩|⟨h1,h2,h3⟩|⟨_,_,h3⟩
  ·exact .inl ⟨h1,h2⟩
  ·exact .inr (.inl ⟨h1,h2,h3⟩)
  omega
 obtain⟨hs,ha⟩:Ti p f al y/\Acc f l.Out:=by
  simp_all
 refine(Ath h hs.2.1 ha.1).bind λq hq=>.cond (λhb=>.pure (.inr (.inr (.inl ⟨hs,ha,hq.found.1 hb,rfl⟩)))) λhb=>.pure (.inr (.inr (.inr ⟨hs,ha,λk s hk hc=>?_,rfl⟩)))
 rw[hq.found.2 ⟨k,s,hk,hc⟩]at hb;cases hb
end
open Go Go.Dw Go.Proofs
theorem AwC:∀ k:Fin 17,WB ((k:Nat):Int)=Ta ((k:Nat):Int)/\(Ta ((k:Nat):Int)).isSome=true:=by decide +kernel
theorem Apv (n:Int):∃ b,WB n=some b/\Ta n=some b:=by
 by_cases h:1<=n/\n<=16
 ·have:=AwC ⟨n.toNat,by omega⟩
  grind [Option.isSome_iff_exists]
 ·refine⟨false,?_,?_⟩
  ·grind [WB]
  ·unfold Ta;have e1:(n==1)=false:=by simp;omega
   have e2:(n==2)=false:=by simp;omega
   have e3:(n==4)=false:=by simp;omega
   have e4:(n==8)=false:=by simp;omega
   have e5:(n==16)=false:=by simp;omega
   grind
def Pw (n:Int):Prop:=∃ i:Nat,i<=24/\n=(2 ^ i:Nat)
theorem AkS (n:Int) (j:Nat) (hj:j<=24):RP n ((2 ^ j:Nat):Int)=if n=(2 ^ j:Nat)then some (.inr true)else some (.inl ((2 ^ (j+1):Nat):Int)):=by
 have h1:2 ^ j<=2 ^ 24:=aAL (by decide) hj
 have h2:(2 ^ j:Nat)<=16777216:=by omega
 have w:IntKind.i64.wrap (((2 ^ j:Nat):Int)*2)=((2 ^ (j+1):Nat):Int):=by
  grind [wrap64]
 unfold RP;have hd:decide (((2 ^ j:Nat):Int)<=16777216)=true:=by grind
 simp_all
theorem AuL (n:Int):∀ (d j:Nat),j+d<=24->n=(2 ^ (j+d):Nat)->NA (λs=>RP n s) ((2 ^ j:Nat):Int)=some true:=by
 intro d
 induction d with
 | zero =>
  intro j hj hn;rw[Vo];rw[AkS n j (by omega),if_pos (by omega)]
 | succ d ih =>
  intro j hj hn;rw[Vo];rw[AkS n j (by omega),if_neg]
  ·grind
  ·have:2 ^ j<2 ^ (j+(d+1)):=Nat.pow_lt_pow_right (by decide) (by omega)
   omega
theorem AnM (n:Int) (h:¬ Pw n):∀ (d j:Nat),j+d=25->NA (λs=>RP n s) ((2 ^ j:Nat):Int)=some false:=by
 intro d
 induction d with
 | zero =>
  simp_all[Vo,RP]
 | succ d ih =>
  intro j hj;rw[Vo];rw[AkS n j (by omega),if_neg (λe=>h ⟨j,by omega,e⟩)]
  grind
theorem AxM (h:2 ^ i<=16777216):i<=24:=by
 by_cases hi:i<=24
 ·exact hi
 ·have:2 ^ 25<=2 ^ i:=aAL (by decide) (by omega)
  omega
theorem Anx (n:Int):∃ b,Qu n=some b/\Qy n=some b:=by
 have hr:Qy n=NA (λs=>RP n s) ((2 ^ 0:Nat):Int):=rfl
 by_cases h:1<=n/\n<=16777216
 ·obtain⟨m,rfl⟩:∃ m:Nat,n=m:=⟨n.toNat,by omega⟩
  have e1:Qu (m:Int)=some (decide (m &&& (m-1)=0)):=by
   unfold Qu;have h1:((m:Int)>=1):=h.1;have h2:((m:Int)<=16777216):=h.2;have w:IntKind.i64.wrap ((m:Int)-1)=((m-1:Nat):Int):=by grind [wrap64]
   have t1:(aAN IntKind.i64.bits (m:Int)).toNat=m:=by
    show(aAN 64 (m:Int)).toNat=m
    grind
   have t2:(aAN IntKind.i64.bits ((m-1:Nat):Int)).toNat=m-1:=by
    grind
   have hle:m &&& (m-1)<=m:=Nat.and_le_left;have w2:IntKind.i64.wrap ((m &&& (m-1):Nat):Int)=((m &&& (m-1):Nat):Int):=wrap64 (by omega) (by omega)
   rw[decide_eq_true h1,cond_true,decide_eq_true h2,cond_true,w,aAc,t1,t2,w2];congr 1
   grind
  by_cases hp:m &&& (m-1)=0
  ·obtain⟨i,hi⟩:=(aAT (show m≠0 by omega)).1 hp
   refine⟨true,by simp_all,?_⟩
   exact AuL _ i 0 (by have:=AxM (i:=i) (by omega);omega) (by simp_all)
  ·refine⟨false,by simp_all,?_⟩
   refine AnM _ (λ⟨i,_,hi⟩=>hp ?_) 25 0 (by omega)
   exact(aAT (show m≠0 by omega)).2 ⟨i,by omega⟩
 ·refine⟨false,?_,?_⟩
  ·grind [Qu]
  ·rw[hr];refine AnM _ (λ⟨i,hi24,hi⟩=>h ?_) 25 0 (by omega)
   have h1:2 ^ i<=2 ^ 24:=aAL (by decide) hi24
   grind
noncomputable def AaT (x:NB):Bool:=(Ta x.Size).getD false&&(Qy x.Align).getD false
theorem Aug (x:NB):TH x=some (!AaT x):=by
 obtain⟨a,a1,a2⟩:=Apv x.Size;obtain⟨b,b1,b2⟩:=Anx x.Align
 grind [TH,AaT]
def AjT (s:List NB) (e:Int):Prop:=(512<s.length/\e=3)\/(s.length<=512/\(∀ x∈s,AaT x=true)/\e=0)\/(s.length<=512/\(∃ x∈s,AaT x=false)/\e=5)
theorem AjT.one {s:List NB} {b:Int} (h:AjT s a) (k:AjT s b):a=b:=by
 rcases h with⟨h1,h2⟩|⟨h1,h2,h3⟩|⟨h1,⟨x,h2,h3⟩,h4⟩<;>rcases k with⟨k1,k2⟩|⟨k1,k2,k3⟩|⟨k1,⟨y,k2,k3⟩,k4⟩<;>first
  | omega
  | (simp_all)
  | simp_all
theorem AqD (s:List NB):Hs (Ul s) (AjT s):=by
 refine .dec (λh=>.pure (.inl ⟨by omega,rfl⟩)) λh=>?_
 have hl:s.length<=512:=by omega
 have key:Hs (NA (λst=>Pu s st) 0) λr=>(r= -1/\∀ x∈s,AaT x=true)\/(0<=r/\∃ x∈s,AaT x=false):=by
  refine Hs.loop (λi=>0<=i/\i<=s.length/\∀ (j:Nat) x,(j:Int)<i->s[j]? =some x->AaT x=true) (λi=>s.length-i.toNat) ⟨by omega,by omega,λj x h=>by omega⟩ ?_
  rintro i ⟨h0,h1,h2⟩;refine .dec (λhlt=>?_) λhlt=>?_
  ·refine(Hs.ix h0 hlt λx hx=>hx).bind λx hx=>?_
   rw[Aug,aA];refine .cond (λhb=>.lft (.pure (.inr ⟨h0,x,aAB hx,by simp_all⟩))) λhb=>?_
   have w:IntKind.i64.wrap (i+1)=i+1:=wrap64 (by omega) (by omega)
   rw[w];refine .cnt ⟨⟨by omega,by omega,λj y hj hy=>?_⟩,by grind⟩
   grind
  ·refine .lft (.pure (.inl ⟨rfl,λx hx=>?_⟩))
   grind [aAj]
 refine Hs.bind (P:=λb=>(b=false/\∀ x∈s,AaT x=true)\/(b=true/\∃ x∈s,AaT x=false)) (key.bind λr hr=>.pure ?_) λb hb=>?_
 ·grind
 ·rcases hb with⟨rfl,h⟩|⟨rfl,h⟩
  ·exact .pure (.inr (.inl ⟨hl,h,rfl⟩))
  ·exact .pure (.inr (.inr ⟨hl,h,rfl⟩))
theorem AuG (s:List NB):Hs (WL s) (AjT s):=by
 refine .dec (λh=>.pure (.inl ⟨by omega,rfl⟩)) λh=>?_
 have hl:s.length<=512:=by omega
 refine Hs.loop (λi=>0<=i/\i<=s.length/\∀ (j:Nat) x,(j:Int)<i->s[j]? =some x->AaT x=true) (λi=>s.length-i.toNat) ⟨by omega,by omega,λj x h=>by omega⟩ ?_
 rintro i ⟨h0,h1,h2⟩;refine .dec (λhlt=>?_) λhlt=>?_
 ·refine(Hs.ix h0 hlt λx hx=>hx).bind λx hx=>?_
  obtain⟨a,a1,a2⟩:=Apv x.Size;obtain⟨b,b1,b2⟩:=Anx x.Align;have hg:AaT x=(a&&b):=by grind [AaT]
  rw[a2,aA];have hx':ixO s i=some x:=by grind [OZ]
  cases a
  ·exact .lft (.pure (.inr (.inr ⟨hl,⟨x,aAB hx,hg⟩,rfl⟩)))
  ·rw[hx',aA,b2,aA];cases b
   ·exact .lft (.pure (.inr (.inr ⟨hl,⟨x,aAB hx,hg⟩,rfl⟩)))
   ·simp only[aAW,cond_false];have w:IntKind.i64.wrap (i+1)=i+1:=wrap64 (by omega) (by omega)
    rw[w];refine .cnt ⟨⟨by omega,by omega,λj y hj hy=>?_⟩,by grind⟩
    grind
 ·refine .lft (.pure (.inr (.inl ⟨hl,λx hx=>?_,rfl⟩)))
  grind [aAj]
theorem Atx (s:List NB):∃ e,Ul s=some e/\WL s=some e/\(e=0->s.length<=512):=by
 obtain⟨a,a1,a2⟩:=AqD s;obtain⟨b,b1,b2⟩:=AuG s;obtain rfl:=a2.one b2;exact⟨a,a1,b1,λh=>by rcases a2 with h1|h1|h1<;>omega⟩
def AkL (s:List NB):Int:=s.foldl (λa x=>OA a x.Align) 16
theorem AmY (s:List NB):∃ a,Xn s=some a/\TX s=some a:=by
 obtain⟨e,h1,h2,h3⟩:=Atx s;unfold Xn TX;rw[h1,h2,aA,aA]
 by_cases he:e=0
 ·subst he;have hl:=h3 rfl;simp only[beq_self_eq_true,cond_true,bne_self_eq_false,cond_false];have p1:Hs (NA (λq=>AbL s q.1 q.2) (0,16)) λa=>a=AkL s:=by
   refine Hs.loop (λq=>∃ k:Nat,q.1=(k:Int)/\k<=s.length/\q.2=AkL (s.take k)) (λq=>s.length-q.1.toNat) ⟨0,rfl,aAC _,rfl⟩ ?_
   rintro⟨_,_⟩ ⟨k,rfl,hk,rfl⟩;refine .dec (λhlt=>?_) λhge=>.lft (.pure ?_)
   ·have hlt:k<s.length:=by omega
    rw[NT,aAA hlt,aA,Nw (by omega)]
    refine .cnt ⟨⟨k+1,rfl,hlt,?_⟩,by grind⟩
    grind [AkL,aAR]
   ·have hkk:k=s.length:=by omega
    subst hkk;show AkL _=_;simp_all
  have p2:Hs (NA (λq=>ZF s q.1 q.2) (16,0)) λa=>a=AkL s:=by
   refine Hs.loop (λq=>∃ k:Nat,q.2=(k:Int)/\k<=s.length/\q.1=AkL (s.take k)) (λq=>s.length-q.2.toNat) ⟨0,rfl,aAC _,rfl⟩ ?_
   rintro⟨_,_⟩ ⟨k,rfl,hk,rfl⟩;refine .dec (λhlt=>?_) λhge=>.lft (.pure ?_)
   ·have hlt:k<s.length:=by omega
    rw[NT,aAA hlt,aA,Nw (by omega)]
    refine .cnt ⟨⟨k+1,rfl,hlt,?_⟩,by grind⟩
    grind [AkL,aAR]
   ·have hkk:k=s.length:=by omega
    subst hkk;show AkL _=_;simp_all
  obtain⟨a,q1,rfl⟩:=p1;obtain⟨b,q2,rfl⟩:=p2;simp_all
 grind
theorem ArS (p:Nv) (hp:p.Funcs.length<=1000000):∃ a,SF p=some a/\Sm p=some a:=by
 have step:∀ k≤p.Funcs.length,∃ a:Int,∀ b:Int,True:=λ_ _=>⟨0,λ_=>trivial⟩
 let al:Nn->Int:=λf=>Classical.choose (AmY f.Slots)
 have hal:∀ f:Nn,Xn f.Slots=some (al f)/\TX f.Slots=some (al f):=λf=>Classical.choose_spec (AmY f.Slots)
 let A:List Nn->Int:=λl=>l.foldl (λa f=>OA a (al f)) 16
 have hA:∀ k (hk:k<p.Funcs.length),A (p.Funcs.take (k+1))=OA (A (p.Funcs.take k)) (al p.Funcs[k]):=λk hk=>by
  grind [aAR]
 have p1:Hs (SF p) λa=>a=A p.Funcs:=by
  refine Hs.loop (λq=>∃ k:Nat,q.2=(k:Int)/\k<=p.Funcs.length/\q.1=A (p.Funcs.take k)) (λq=>p.Funcs.length-q.2.toNat) ⟨0,rfl,aAC _,rfl⟩ ?_
  rintro⟨_,_⟩ ⟨k,rfl,hk,rfl⟩;refine .dec (λhlt=>?_) λhge=>.lft (.pure ?_)
  ·have hlt:k<p.Funcs.length:=by omega
   rw[NT,aAA hlt,aA,(hal _).1,aA,Nw (by omega)]
   exact .cnt ⟨⟨k+1,rfl,hlt,(hA k hlt).symm⟩,by grind⟩
  ·have hkk:k=p.Funcs.length:=by omega
   subst hkk;show A _=_;simp_all
 have p2:Hs (Sm p) λa=>a=A p.Funcs:=by
  refine Hs.loop (λq=>∃ k:Nat,q.2=(k:Int)/\k<=p.Funcs.length/\q.1=A (p.Funcs.take k)) (λq=>p.Funcs.length-q.2.toNat) ⟨0,rfl,aAC _,rfl⟩ ?_
  rintro⟨_,_⟩ ⟨k,rfl,hk,rfl⟩;refine .dec (λhlt=>?_) λhge=>.lft (.pure ?_)
  ·have hlt:k<p.Funcs.length:=by omega
   rw[NT,aAA hlt,aA,(hal _).2,aA,Nw (by omega)]
   exact .cnt ⟨⟨k+1,rfl,hlt,(hA k hlt).symm⟩,by grind⟩
  ·have hkk:k=p.Funcs.length:=by omega
   subst hkk;show A _=_;simp_all
 obtain⟨a,q1,rfl⟩:=p1;obtain⟨b,q2,rfl⟩:=p2;simp_all
theorem Asq (p:Nv) {i:Int} (f:Nn) (hp:p.Funcs.length<=1000000) (h0:0<=i) (h1:i<p.Funcs.length):Tm p i f=some ⟨p.Funcs.set i.toNat f⟩:=by
 unfold Tm Aqu YZ
 grind [Oa]
theorem Arh (p:Nv) {i:Int} (f:Nn) (hp:p.Funcs.length<=1000000) (h0:0<=i) (h1:i<p.Funcs.length):XY p i f=some ⟨p.Funcs.set i.toNat f⟩:=by
 grind [XY,AaR,Oa]
structure Amh (p:Nv) (i:Int) (f:Nn):Prop where
 hi:ixO p.Funcs i=some f
 arg:AaL p f
 so:∀ x∈f.Slots,Adh x
 sl:f.Slots.length<=40
 Um:NS f
 defs:QD f
 ml:YT f
 last:Ty f
 calls:Adx p.Funcs.length f
 pl:p.Funcs.length<=1000
 all:∀ g∈p.Funcs,Aao g.Slots
theorem PF.opt (h:PF p) {i:Int} (hi:ixO p.Funcs i=some f):Amh p i f:=by
 obtain⟨i0,i1,hif⟩:=WJ hi;have hm:=aAB hif;have hg:=h.all f hm;have hl:=h.few;exact⟨hi,h.args hm,hg.slot,hg.slots,hg.Um,hg.defs,hg.AhR,hg.last,by have:=hg.calls;simp_all,by omega,λg hgm=>(h.all g hgm).Azb⟩
section
variable {p:Nv} {i:Int} {f:Nn} (h:Amh p i f)
 include h
theorem Amh.align:∃ al,SF p=some al/\Sm p=some al/\Re al/\16<=al/\al<=16777216:=by
 obtain⟨al,eal,eal'⟩:=ArS p (by have:=h.pl;omega)
 obtain⟨a,e,ha⟩:=Awk (B:=16777216) (by omega) h.pl λg hg=>⟨by have:=(h.all g hg).1;omega,λx hx=>⟨((h.all g hg).2 x hx).1,((h.all g hg).2 x hx).2.1⟩⟩
 simp_all
theorem Amh.lay {al:Int} (ha:Re al/\16<=al/\al<=16777216):Aiv p i f al:=⟨h.hi,h.arg,⟨h.sl,λx hx=>(h.so x hx).al⟩,ha.1,ha.2.1,ha.2.2,h.Um,h.defs,h.ml⟩
theorem Amh.next {r:ND} (hr:SO f r) {q:Nn} (ha:QB f r=some (q,0)) (hx:Abt f r (q,0)) {al:Int} (hal:Re al/\16<=al/\al<=16777216):Aiv ⟨p.Funcs.set i.toNat q⟩ i q al/\q.Params=f.Params/\Adx p.Funcs.length q/\(∀ x∈q.Slots,Adh x):=by
 obtain⟨i0,i1,hif⟩:=WJ h.hi;have hf:=h.Um;obtain⟨qf,qd,qc⟩:NS q/\QD q/\Adx p.Funcs.length q:=by
  obtain⟨q',e,_,h1,h2,h3⟩:=ArA hf h.defs h.last h.calls hr;simp_all
 have hml:=hx.Ayo hf h.defs h.ml hr;obtain⟨_,hqp,used,to',pl,hu,hsx,hn,hpl,hcode⟩:=id hx;have hslot:=Xc.Azq h.so hr.1.1 hsx;have hul:q.Slots.length<=f.Slots.length:=by
  rw[hsx.len];have:=AkZ (l:=used) (a:=0) (n:=(f.Slots.length:Int)) hu.1.1 λv hv=>by
   obtain⟨_,j,hj,hk,hv'⟩:=(hu.2 v).1 hv;exact Abo hf h.defs hr.1 (hf.at (j:=(j:Int)) (by omega) (by omega)).2 v hv'
  omega
 have harg:AaL ⟨p.Funcs.set i.toNat q⟩ q:=by
  intro y hy;rw[hcode]at hy;obtain⟨pn,hp⟩:=aAG hy;obtain⟨j,h1,_,_,rfl⟩:=(Vx (f:=f) (keep:=r.Keep) (to:=to') (pl:=pl) _ (by rw[hr.2.1];omega)).2 pn y hp
  have hm:=(hf.at (j:=(j:Int)) (by omega) (by omega)).2
  rw[AoV,Ach];refine⟨λe=>?_,λe=>?_⟩
  ·rw[ArB (.inl e)];exact(h.arg _ hm).1 e
  ·rw[ArB (.inr e)];obtain⟨a0,gg,hgg,hpp⟩:=(h.arg _ hm).2 e
   grind
 have hset:ixO (⟨p.Funcs.set i.toNat q⟩:Nv).Funcs i=some q:=by
  grind [OZ]
 have hsl:Aao q.Slots:=⟨by have:=h.sl;omega,λx hx=>(hslot x hx).al⟩
 exact⟨⟨hset,harg,hsl,hal.1,hal.2.1,hal.2.2,qf,qd,hml⟩,hqp,qc,hslot⟩
end
open Go Go.Dw Go.Proofs
attribute [local simp] Oa aAP
inductive Aad (n size params frames:Int):Lo->Prop
 | load (a o s:Int):Tt a->s∈([1,2,4,8,16]:List Int)->0<=o->o+s<=size+16*params->Aad n size params frames ⟨15,a,o,s,0⟩
 | store (o b s:Int):Tt b->s∈([1,2,4,8,16]:List Int)->0<=o->o+s<=size->Aad n size params frames ⟨16,o,b,s,0⟩
 | move (o o' s:Int):s∈([1,2,4,8,16]:List Int)->0<=o->o+s<=size->0<=o'->o'+s<=size->Aad n size params frames ⟨17,o,o',s,0⟩
 | const (a w:Int):Tt a->Aad n size params frames ⟨0,a,0,0,w⟩
 | bin (op a b c:Int):2<=op->op<12->Tt a->Tt b->Tt c->Aad n size params frames ⟨op,a,b,c,0⟩
 | one (op a:Int):(op=13\/op=14)->Tt a->Aad n size params frames ⟨op,a,0,0,0⟩
 | two (op a b:Int):(op=1\/op=12)->Tt a->Tt b->Aad n size params frames ⟨op,a,b,0,0⟩
 | call (j:Int):0<=j->j<frames->Aad n size params frames ⟨22,j,0,0,0⟩
 | jump (t:Int):0<=t->t<n->Aad n size params frames ⟨20,t,0,0,0⟩
 | branch (a t:Int):Tt a->0<=t->t<n->Aad n size params frames ⟨21,a,t,0,0⟩
 | ret:Aad n size params frames ⟨23,0,0,0,0⟩
 | trap (w:Int):Aad n size params frames ⟨24,0,0,0,w⟩
theorem QL (n l:Int):Rn n l=some (decide (0<=n/\n<l)):=by
 grind [Rn]
theorem VZ:∀ {s:List Int},s.length<=1000->(∀ x∈s,0<=x/\x<8)->Pd s=some false:=by
 intro s hl hs;unfold Pd;have hh:Hs (Ps s) λr=>r= -1:=by
  unfold Ps;refine Hs.loop (λi=>∃ k:Nat,i=(k:Int)/\k<=s.length) (λi=>s.length-i.toNat) ⟨0,rfl,aAC _⟩ λi ⟨k,hi,hk⟩=>?_
  subst hi;unfold QX;refine .dec (λhlt=>?_) λhlt=>.lft (.pure rfl)
  refine(Hs.ix (l:=s) (i:=(k:Int)) (by omega) hlt λz hz=>hz).bind λx hx=>?_
  have hr:=hs x (aAB hx);have hb:Un x=some false:=by grind [Un,QL]
  rw[hb,aA];refine .cond (λe=>absurd e (by simp)) λe=>.cnt ⟨⟨k+1,Nw (by omega),by omega⟩,?_⟩
  grind [Nw]
 obtain⟨r,h1,rfl⟩:=hh;rw[h1];rfl
theorem Adb (h:s∈([1,2,4,8,16]:List Int)):WB s=some true/\1<=s/\s<=16:=by
 simp only[aAl,List.not_mem_nil,or_false]at h;rcases h with rfl|rfl|rfl|rfl|rfl<;>exact⟨by decide +kernel,by decide,by decide⟩
section
variable {f:OG} {n size params:Int} (hn:(f.Frame.Code.length:Int)=n) (hs:f.Frame.Size=size) (hp:f.Frame.Params=params) (hs0:0<=size) (hs1:size<=2147483519) (hp0:0<=params) (hp1:params<=8)
 include hn hs hp hs0 hs1 hp0 hp1
theorem Azm (h:Aad n size params f.frames x):OM f x=some 0:=by
 have hw:IntKind.i64.wrap (f.Frame.Size+IntKind.i64.wrap (16*f.Frame.Params))=size+16*params:=by
  grind [wrap64]
 have ins:∀ {o s k:Int},0<=o->1<=s->o+s<=k->k<=2147483647->So ⟨o,s⟩ k=some true:=by
  intro o s k h0 h1 h2 h3;rw[Ank];congr 1;rw[decide_eq_true_eq]
  grind [InI,Uc]
 cases h with
 | load a o s ha hsz h0 h1 =>
  obtain⟨z1,z2,z3⟩:=Adb hsz;obtain⟨a0,a1⟩:=ha;have hr:=VZ (s:=[a]) (by simp) (by simp;omega)
  have hi:=ins h0 z2 h1 (by omega)
  simp[OM,QL,OC,Qx,Pj,Pa,OI,Qm,Px,OJ,ON,Ou,hr,Oq,z1,Ot,Rb,Qw,hw,hi,Oi]
 | store o b s hb hsz h0 h1 =>
  obtain⟨z1,z2,z3⟩:=Adb hsz;obtain⟨a0,a1⟩:=hb;have hr:=VZ (s:=[b]) (by simp) (by simp;omega)
  have hi:=ins h0 z2 h1 (by omega)
  simp[OM,QL,OC,Qx,Pj,Pa,OI,Qm,Px,OJ,ON,Ou,hr,Oq,z1,Ot,Rb,Qw,hs,hi,Oi]
 | move o o' s hsz h0 h1 h2 h3 =>
  obtain⟨z1,z2,z3⟩:=Adb hsz;have hr:=VZ (s:=[]) (by simp) (by simp)
  have hi:=ins h0 z2 h1 (by omega)
  have hi':=ins (k:=size+16*params) h2 z2 (by omega) (by omega)
  have hw2:=hw;rw[hs]at hw2;simp[OM,QL,OC,Qx,Pj,Pa,OI,Qm,Px,OJ,ON,Ou,hr,Oq,z1,Ot,Rb,Qw,hw2,hs,hi,hi',Oi]
 | const a w ha =>
  obtain⟨a0,a1⟩:=ha;have hr:=VZ (s:=[a]) (by simp) (by simp;omega)
  simp[OM,QL,OC,Qx,Pj,Pa,Py,OI,Qm,Px,OJ,ON,Ou,hr,Oq,Ot,Rb,Qw,Oi]
 | bin op a b c h0 h1 ha hb hc =>
  obtain⟨a0,a1⟩:=ha;obtain⟨b0,b1⟩:=hb;obtain⟨c0,c1⟩:=hc;have hr:=VZ (s:=[a,b,c]) (by simp) (by simp;omega)
  have ho:op=2\/op=3\/op=4\/op=5\/op=6\/op=7\/op=8\/op=9\/op=10\/op=11:=by omega
  rcases ho with rfl|rfl|rfl|rfl|rfl|rfl|rfl|rfl|rfl|rfl<;>simp[OM,QL,OC,Qx,Pj,Pa,OI,Qm,Px,OJ,hr,Oq,Ot,Rb,Qw,Oi]
 | one op a ho ha =>
  obtain⟨a0,a1⟩:=ha;have hr:=VZ (s:=[a]) (by simp) (by simp;omega)
  rcases ho with rfl|rfl<;>simp[OM,QL,OC,Qx,Pj,Pa,Py,OI,Qm,Px,OJ,ON,Ou,hr,Oq,Ot,Rb,Qw,Oi]
 | two op a b ho ha hb =>
  obtain⟨a0,a1⟩:=ha;obtain⟨b0,b1⟩:=hb;have hr:=VZ (s:=[a,b]) (by simp) (by simp;omega)
  rcases ho with rfl|rfl<;>simp[OM,QL,OC,Qx,Pj,Pa,Py,OI,Qm,Px,OJ,ON,Ou,hr,Oq,Ot,Rb,Qw,Oi]
 | call j h0 h1 =>
  have hr:=VZ (s:=[]) (by simp) (by simp)
  simp[OM,QL,OC,Qx,Pj,Pa,Py,OI,Qm,Px,OJ,ON,Ou,hr,Oq,Ot,Rb,Qw,Oi,h0,h1]
 | jump t h0 h1 =>
  have hr:=VZ (s:=[]) (by simp) (by simp)
  simp[OM,QL,OC,Qx,Pj,Pa,Py,OI,Qm,Px,OJ,ON,Ou,hr,Oq,Ot,Rb,Qw,Oi,h0,h1,hn]
 | branch a t ha h0 h1 =>
  obtain⟨a0,a1⟩:=ha;have hr:=VZ (s:=[a]) (by simp) (by simp;omega)
  simp[OM,QL,OC,Qx,Pj,Pa,Py,OI,Qm,Px,OJ,ON,Ou,hr,Oq,Ot,Rb,Qw,Oi,h0,h1,hn]
 | ret =>
  have hr:=VZ (s:=[]) (by simp) (by simp)
  simp[OM,QL,OC,Qx,Pj,Pa,Py,OI,Qm,Px,OJ,ON,Ou,hr,Oq,Ot,Rb,Qw,Oi]
 | trap w =>
  have hr:=VZ (s:=[]) (by simp) (by simp)
  simp[OM,QL,OC,Qx,Pj,Pa,Py,OI,Qm,Px,OJ,ON,Ou,hr,Oq,Ot,Rb,Qw,Oi]
end
open Go Go.Dw Go.Proofs
attribute [local simp] Oa aAP
structure Amg (frames:List NX) (al:Int) (fr:NX):Prop where
 par:0<=fr.Params/\fr.Params<=8
 size:0<=fr.Size/\fr.Size<=2147483519
 al_:fr.Size.tmod al=0
 len:1<=fr.Code.length/\fr.Code.length<=1024
 code:∀ x∈fr.Code,Aad fr.Code.length fr.Size fr.Params frames.length x
 last:∀ x,fr.Code[fr.Code.length-1]? =some x->PA x.Op=some true
 call:∀ x∈fr.Code,x.Op=22->∃ g,ixO frames x.A=some g/\0<=g.Params/\g.Params<=8/\16*g.Params<=fr.Size
section
variable {t:Og} (hal:Qu t.Align=some true) (h16:16<=t.Align) (hl:1<=t.Frames.length/\t.Frames.length<=80) (hfr:∀ fr∈t.Frames,Amg t.Frames t.Align fr)
 include hal h16 hl hfr
theorem Auw (hi:t.Frames[i]? =some fr):AeT t (i:Int)=some (⟨fr,t.Align,t.Frames.length⟩,true):=by
 have _:=hl;have h:=hfr fr (aAB hi);have hil:=(aAF.1 hi).1;have hp:=h.par;have hs:=h.size;unfold AeT;rw[QL,decide_eq_true (by omega),aA]
 rw[OZ _ (by omega),aAD,hi,aA,hal,aA,cond_true,QL,decide_eq_true (by omega),aA,cond_true,QL,decide_eq_true (by omega),aA,cond_true,Oa (by omega),h.al_]
 rfl
theorem Auu (hi:t.Frames[i]? =some fr):Wo t (i:Int)=some 0:=by
 have h:=hfr fr (aAB hi);have hlen:=h.len;unfold Wo;rw[Auw hal h16 hl hfr hi,aA];simp only[aAW,cond_false];rw[decide_eq_false (by omega),cond_false]
 have hh:Hs (NA (λs=>Wp (⟨fr,t.Align,t.Frames.length⟩,true) s) 0) λr=>r=0:=by
  refine Hs.loop (λi=>∃ k:Nat,i=(k:Int)/\k<=fr.Code.length) (λi=>fr.Code.length-i.toNat) ⟨0,rfl,aAC _⟩ λi ⟨k,hi,hk⟩=>?_
  subst hi;unfold Wp;dsimp only;refine .dec (λhlt=>?_) λhlt=>.lft ?_
  ·refine(Hs.ix (l:=fr.Code) (i:=(k:Int)) (by omega) hlt λz hz=>hz).bind λx hx=>?_
   simp only[aAD]at hx;rw[Azm (f:=⟨fr,t.Align,t.Frames.length⟩) rfl rfl rfl h.size.1 h.size.2 h.par.1 h.par.2 (h.code x (aAB hx)),aA];refine .bne (λe=>absurd rfl e) λe=>.cnt ⟨⟨k+1,Nw (by omega),by omega⟩,?_⟩
   grind [Nw]
  ·refine .beq (λe=>by omega) λe=>?_
   obtain⟨x,hx⟩:∃ x,fr.Code[fr.Code.length-1]? =some x:=⟨fr.Code[fr.Code.length-1]'(by omega),aAA (by omega)⟩
   rw[wrap64 (by omega) (by omega),OZ _ (by omega),show((fr.Code.length:Int)-1).toNat=fr.Code.length-1 by omega,hx,aA,h.last x hx,aA]
   exact .pure rfl
 obtain⟨r,h1,rfl⟩:=hh;exact h1
theorem Aus (h:Amg t.Frames t.Align fr):Vw ⟨fr,t.Align,t.Frames.length⟩ t=some true:=by
 have _:=hal;have _:=h16;have _:=hl;have _:=hfr;have hlen:=h.len;unfold Vw OV;have hh:Hs (OE fr.Code t ⟨fr,t.Align,t.Frames.length⟩) λr=>r= -1:=by
  unfold OE;refine Hs.loop (λi=>∃ k:Nat,i=(k:Int)/\k<=fr.Code.length) (λi=>fr.Code.length-i.toNat) ⟨0,rfl,aAC _⟩ λi ⟨k,hi,hk⟩=>?_
  subst hi;unfold PL;refine .dec (λhlt=>?_) λhlt=>.lft (.pure rfl)
  refine(Hs.ix (l:=fr.Code) (i:=(k:Int)) (by omega) hlt λz hz=>hz).bind λx hx=>?_
  simp only[aAD]at hx;have hb:RA x t ⟨fr,t.Align,t.Frames.length⟩=some false:=by
   unfold RA
   by_cases e:x.Op=22
   ·obtain⟨g,hg,g0,g1,g2⟩:=h.call x (aAB hx) e;rw[show(x.Op==22)=true by simp[e],cond_true,hg,aA,wrap64 (by omega) (by omega)]
    simp_all
   simp_all
  rw[hb,aA];refine .cond (λe=>absurd e (by simp)) λe=>.cnt ⟨⟨k+1,Nw (by omega),by omega⟩,?_⟩
  grind [Nw]
 obtain⟨r,h1,rfl⟩:=hh;rw[h1];rfl
theorem Aut (h0:∀ fr,t.Frames[0]? =some fr->fr.Params=0):ZD t=some 0:=by
 obtain⟨x,hx⟩:∃ x,t.Frames[0]? =some x:=⟨t.Frames[0]'(by omega),aAA (by omega)⟩
 unfold ZD;rw[decide_eq_false (by omega),cond_false,show((t.Frames.length:Int)==0)=false by grind,cond_false,hal,aA]
 rw[decide_eq_false (by omega)]
 unfold Yg;rw[cond_false,OZ _ (by omega)]
 simp only[Int.toNat_zero,hx,aA,h0 x hx,bne_self_eq_false,cond_false];have hh:Hs (AaN t) λr=>r=0:=by
  refine Hs.loop (λi=>∃ k:Nat,i=(k:Int)/\k<=t.Frames.length) (λi=>t.Frames.length-i.toNat) ⟨0,rfl,aAC _⟩ λi ⟨k,hi,hk⟩=>?_
  subst hi;refine .dec (λhlt=>?_) λhlt=>.lft ?_
  ·obtain⟨x,hx⟩:∃ x,t.Frames[k]? =some x:=⟨t.Frames[k]'(by omega),aAA (by omega)⟩
   rw[Auu hal h16 hl hfr hx,aA];refine .bne (λe=>absurd rfl e) λe=>.cnt ⟨⟨k+1,Nw (by omega),by omega⟩,?_⟩
   grind [Nw]
  ·refine Hs.loop (λi=>∃ k:Nat,i=(k:Int)/\k<=t.Frames.length) (λi=>t.Frames.length-i.toNat) ⟨0,rfl,aAC _⟩ λi ⟨k,hi,hk⟩=>?_
   subst hi;unfold Aeh;refine .dec (λhlt=>?_) λhlt=>.lft (.pure rfl)
   obtain⟨x,hx⟩:∃ x,t.Frames[k]? =some x:=⟨t.Frames[k]'(by omega),aAA (by omega)⟩
   rw[Auw hal h16 hl hfr hx,aA];simp only;rw[Aus hal h16 hl hfr (hfr x (aAB hx)),aA];refine .cond (λe=>absurd e (by simp)) λe=>.cnt ⟨⟨k+1,Nw (by omega),by omega⟩,?_⟩
   grind [Nw]
 obtain⟨r,h1,rfl⟩:=hh;exact h1
end
open Go Go.Dw Go.Proofs
attribute [local simp] Oa aAP
def Pl (f:Nn) (y:NC) (x:Lo):Lo :=
 if x.Op=15 then⟨15,x.A,VN y x.B,Ph f x.B,0⟩
 else if x.Op=16 then⟨16,VN y x.A,x.B,Ph f x.A,0⟩
 else if x.Op=17 then⟨17,VN y x.A,VN y x.B,Ph f x.A,0⟩
 else if x.Op=18 then⟨16,16*x.A,x.B,16,0⟩
 else if x.Op=19 then⟨15,x.A,y.Size+16*x.B,16,0⟩
 else x
theorem AsF (p:Nv) (n:Int) (x:Lo):n<=VS p n x:=by
 unfold VS;split
 ·simp_all[AhQ]
 ·split
  all_goals simp_all[AhQ]
theorem Agi {p:Nv} {f:Nn}:∀ {m k:Nat},k<=m->m<=f.Code.length->PI p f k<=PI p f m
 | 0,k,h,_=>by simp_all
 | m+1,k,h,hm=>by
  by_cases e:k=m+1
  ·simp_all
  ·have h1:=Agi (p:=p) (f:=f) (m:=m) (k:=k) (by omega) (by omega)
   have h2:=AsF p (PI p f m) (f.Code[m]'(by omega))
   grind [Wc]
theorem Ase (hx:x∈f.Code):(x.Op=18->x.A+1<=PI p f f.Code.length)/\(x.Op=22->∀ g,p.Funcs[x.A.toNat]? =some g->g.Params<=PI p f f.Code.length):=by
 obtain⟨k,hk⟩:=aAG hx;obtain⟨hkl,he⟩:=aAF.1 hk;have hm:=Agi (p:=p) (f:=f) (m:=f.Code.length) (k:=k+1) (by omega) (aAK _)
 rw[Wc hkl,he]at hm;unfold VS at hm;constructor
 ·intro h;have:=(AhQ (PI p f k) (x.A+1)).2;omega
 ·intro h g hg;rw[if_neg (by omega),if_pos h,hg]at hm
  have:=(AhQ (PI p f k) g.Params).2
  grind
section
variable {nf:Int} {p:Nv} {f:Nn} {al:Int} {y:NC} (hg:GW nf f) (hy:Ti p f al y) (hs:y.Size<=1100000000)
 include hg hy hs
theorem AwD (h0:0<=s) (h1:s<f.Slots.length):ixO y.Off s=some (VN y s)/\(∃ z,ixO f.Slots s=some z/\z.Size=Ph f s)/\Ph f s∈([1,2,4,8,16]:List Int)/\0<=VN y s/\VN y s+Ph f s<=y.Size:=by
 have _:=hs;obtain⟨_,hl,hpl,_⟩:=hy;obtain⟨o,z,e1,e2,e3,e4,e5⟩:=hpl s.toNat (by omega)
 have ho:VN y s=o:=by grind [VN]
 obtain⟨z',e6,e7⟩:=Asu (f:=f) h0 h1;rw[OZ _ h0,e2]at e6;cases e6;have hz:=hg.slot z (aAB e2);unfold InI Uc at e5;simp only at e5;refine⟨Alc hl h0 h1,⟨z,by grind [OZ],e7⟩,?_,by omega,by omega⟩
 rw[<- e7];exact hz.1
theorem Auq (hx:x∈f.Code):Pn f y x=some (Pl f y x)/\(0<=x.Op/\x.Op<25)/\Aad f.Code.length y.Size f.Params nf (Pl f y x)/\((Pl f y x).Op=22->x.Op=22/\(Pl f y x).A=x.A)/\(∀ b,PA x.Op=some b->PA (Pl f y x).Op=some b):=by
 have sl:=fun{s:Int}=>AwD hg hy hs (s:=s)
 obtain⟨ha,_,_,_,hA,_⟩:=id hy;have hat:=(Ase (p:=p) hx).1;have hpar:=hg.par;have hreg16:(16:Int)∈([1,2,4,8,16]:List Int):=by decide
 have hmx:=hg.AhR x hx;cases hg.body x hx with
 | store a b h1 h2 h3 =>
  obtain⟨s1,⟨z,s2,s3⟩,s4,s5,s6⟩:=sl h1 h2;refine⟨by grind [Pn,Pl],by simp,.store _ _ _ h3 s4 s5 s6,by simp[Pl],by grind [Pl]⟩
 | load a b h1 h2 h3 =>
  obtain⟨s1,⟨z,s2,s3⟩,s4,s5,s6⟩:=sl h2 h3;refine⟨by grind [Pn,Pl],by simp,.load _ _ _ h1 s4 s5 (by grind),by simp[Pl],by grind [Pl]⟩
 | move a b h1 h2 h3 =>
  obtain⟨a0,a1,b0,b1,hsz⟩:=hmx rfl;obtain⟨s1,⟨z,s2,s3⟩,s4,s5,s6⟩:=sl a0 a1;obtain⟨t1,_,t4,t5,t6⟩:=sl b0 b1;refine⟨by grind [Pn,Pl],by simp,.move _ _ _ s4 s5 s6 t5 (by simp_all),by simp[Pl],by grind [Pl]⟩
 | const a w h1=>exact⟨by simp[Pn,Pl],by simp,.const _ _ h1,by simp[Pl],by simp[Pl]⟩
 | bin op a b c h1 h2 h3 h4 h5 =>
  have e:∀ n:Int,12<=n->¬ op=n:=λn h=>by omega
  refine⟨by simp[Pn,Pl,e],by grind,?_,by simp[Pl,e],by simp[Pl,e]⟩
  have:Pl f y ⟨op,a,b,c,0⟩=⟨op,a,b,c,0⟩:=by simp[Pl,e]
  rw[this];exact .bin _ _ _ _ h1 h2 h3 h4 h5
 | one op a h1 h2 =>
  rcases h1 with rfl|rfl
  ·exact⟨by simp[Pn,Pl],by simp,.one _ _ (by simp) h2,by simp[Pl],by simp[Pl]⟩
  ·exact⟨by simp[Pn,Pl],by simp,.one _ _ (by simp) h2,by simp[Pl],by simp[Pl]⟩
 | two op a b h1 h2 h3 =>
  rcases h1 with rfl|rfl
  ·exact⟨by simp[Pn,Pl],by simp,.two _ _ _ (by simp) h2 h3,by simp[Pl],by simp[Pl]⟩
  ·exact⟨by simp[Pn,Pl],by simp,.two _ _ _ (by simp) h2 h3,by simp[Pl],by simp[Pl]⟩
 | param a b h1 h2 h3 =>
  have w1:IntKind.i64.wrap (16*b)=16*b:=wrap64 (by omega) (by omega)
  have hy0:0<=y.Size:=by
   have:0<=PI p f f.Code.length:=by have:=Agi (p:=p) (f:=f) (m:=f.Code.length) (k:=0) (aAC _) (aAK _);grind [PI]
   omega
  have w2:IntKind.i64.wrap (y.Size+16*b)=y.Size+16*b:=wrap64 (by omega) (by omega)
  exact⟨by simp_all[Pn,Pl],by simp,.load _ _ _ h1 hreg16 (by grind) (by grind),by simp[Pl],by simp[Pl,PA]⟩
 | arg a b h1 h2 h3 =>
  have w1:IntKind.i64.wrap (16*a)=16*a:=wrap64 (by omega) (by omega)
  have:=hat rfl;simp only at this;exact⟨by grind [Pn,Pl],by simp,.store _ _ _ h3 hreg16 (by grind) (by grind),by simp[Pl],by simp[Pl,PA]⟩
 | call j h1 h2=>exact⟨by simp[Pn,Pl],by simp,.call _ h1 h2,by simp[Pl],by simp[Pl]⟩
 | jump t h1=>exact⟨by simp[Pn,Pl],by simp,.jump _ h1.1 h1.2,by simp[Pl],by simp[Pl]⟩
 | branch a t h1 h2=>exact⟨by simp[Pn,Pl],by simp,.branch _ _ h1 h2.1 h2.2,by simp[Pl],by simp[Pl]⟩
 | ret=>exact⟨by simp[Pn,Pl],by simp,.ret,by simp[Pl],by simp[Pl]⟩
 | trap w=>exact⟨by simp[Pn,Pl],by simp,.trap _,by simp[Pl],by simp[Pl]⟩
end
open Go Go.Dw Go.Proofs
structure ChY (p:Nv) (i:Int) (f:Nn) (al:Int) (r:Nn×NC×Int×Int):Prop where
 err:r.2.2.2=0
 gok:GW p.Funcs.length r.1
 arg:AaL ⟨p.Funcs.set i.toNat r.1⟩ r.1
 par:r.1.Params=f.Params
 shape:Ti ⟨p.Funcs.set i.toNat r.1⟩ r.1 al r.2.1
 size:r.2.1.Size<=(QE p f al).Size
theorem Asp (h:NS f):¬ Acc f []:=λha=>by
 have:=ha.1.1;have:=h.len
 grind
theorem AeQ.shape {al:Int} {y:NC} (h:AeQ p f al l y 0):Ti p f al y/\Acc f l:=by
 rcases h with⟨_,h⟩|⟨_,_,h⟩|⟨_,_,_,h⟩|⟨h1,h2,_⟩
 all_goals simp_all
section
variable {p:Nv} {i:Int} {f:Nn} (h:Amh p i f) (hg:GW p.Funcs.length f)
 include h hg
theorem AsL {al:Int} (ea:SF p=some al) (hal:Re al/\16<=al/\al<=16777216) (x:NL) (hx1:Qn x.Live.Out) (hx2:Qn x.LiveAfter.Out):∃ r,RE p i x=some r/\ChY p i f al r/\r.1.Code.length<=f.Code.length/\(x.Live.Out=[]->r=(f,QE p f al,0,0)):=by
 obtain⟨i0,i1,hif⟩:=WJ h.hi;have hL:=h.lay hal;have eb:=AmB h.hi h.Um.len' h.arg hL.slots hal.1 hal.2.2;obtain⟨e,ev,hv⟩:=Avh h.Um h.defs hx1 x.Rename;obtain⟨c,ec,hc⟩:=Ant hL x.Layout hx1;have hset:(⟨p.Funcs.set i.toNat f⟩:Nv)=p:=by
  have:p.Funcs.set i.toNat f=p.Funcs:=by
   apply List.ext_getElem?
   grind
  rw[this]
 have old:∀ (y:NC) (n:Int),Ti p f al y->ChY p i f al (f,y,n,0):=λy n hy=>⟨rfl,hg,by simp only[hset];exact h.arg,rfl,by simp_all,hy.2.2.2.2.2⟩
 have j1:∃ r,TF p i al x f (QE p f al,0)=some r/\ChY p i f al r/\r.1.Code.length<=f.Code.length/\(x.Live.Out=[]->r=(f,QE p f al,0,0)):=by
  unfold TF;rw[ec,aA]
  by_cases h0:c=0
  ·subst h0;exact⟨_,rfl,old _ _ hc.shape.1,aAK _,λhn=>absurd (hn▸hc.shape.2) (Asp h.Um)⟩
  ·rw[show(c==0)=false by simp[h0]]
   exact⟨_,rfl,old _ _ (AsG hL.bas),aAK _,λ_=>rfl⟩
 unfold RE;simp only[ea,eb,h.hi,aA,bne_self_eq_false,cond_false,ev]
 by_cases he:e=0
 ·subst he;simp only[beq_self_eq_true,cond_true];obtain⟨hacc,hr⟩:Acc f x.Live.Out/\SO f x.Rename:=by
   simp_all
  have hne:x.Live.Out=[]->False:=λhn=>absurd (hn▸hacc) (Asp h.Um)
  obtain⟨⟨q,qe⟩,ep,er,hx⟩:=AsE h.Um h.defs hr;have qe0:qe=0:=hx.1;subst qe0;simp only[ep,aA,Asq p q (show p.Funcs.length<=1000000 by have:=h.pl;omega) i0 (by omega)]
  obtain⟨hL2,hqp,_⟩:=h.next hr er hx hal;obtain⟨d,h1,h2⟩:=Ant hL2 x.Layout hx2;obtain⟨hgq,hql⟩:GW p.Funcs.length q/\q.Code.length<=f.Code.length:=by
   obtain⟨q',e1,_,used,nm,pl,hw⟩:=AoX h.Um h.defs hr;rw[er]at e1;cases e1;have h1:=hw.len;have h2:=AeS x.Rename.Keep f.Code.length;refine⟨hw.gw hg,?_⟩;simp_all
  have j2:∀ b:Bool,(b=true->ChY p i f al (q,x.Layout,2,0))->∃ r,Su (q,0) x p i al f (QE p f al,0) b=some r/\ChY p i f al r/\r.1.Code.length<=f.Code.length/\(x.Live.Out=[]->r=(f,QE p f al,0,0)):=by
   grind [Su]
  simp only[beq_self_eq_true,cond_true]
  by_cases hs:x.Layout.Size<=(QE p f al).Size
  ·rw[decide_eq_true hs,cond_true,h1,aA]
   by_cases hd:d=0
   ·subst hd;exact j2 _ λ_=>⟨rfl,hgq,hL2.arg,hqp,h2.shape.1,hs⟩
   ·rw[show(d==0)=false by simp[hd]]
    simp_all
  simp_all[decide_eq_false]
 grind
end
open Go Go.Dw Go.Proofs
def Way (g:List (List Int)):Nat->Int->Int->Prop
 | 0,i,k=>i=k
 | n+1,i,k=>∃ j,Way g n i j/\k∈g.getD j.toNat []
theorem AsS (S:Int->Prop) (hr:∀ v,S v->0<=v/\v<g.length) (hn:∀ v,S v->∃ u∈g.getD v.toNat [],S u) {v:Int} (hv:S v):∃ (i:Nat) (n:Nat),i<g.length/\n<g.length/\Way g (n+1) i i:=by
 obtain⟨nx,hnx⟩:∃ nx:Int->Int,∀ v,S v->nx v∈g.getD v.toNat []/\S (nx v):=by
  refine⟨λv=>Classical.epsilon λu=>u∈g.getD v.toNat []/\S u,λv hv=>?_⟩
  obtain⟨u,h1,h2⟩:=hn v hv;exact Classical.epsilon_spec (p:=λu=>u∈g.getD v.toNat []/\S u) ⟨u,h1,h2⟩
 obtain⟨f,hf0,hf⟩:∃ f:Nat->Int,f 0=v/\∀ n,f (n+1)=nx (f n):=⟨λn=>n.rec v λ_ x=>nx x,rfl,λ_=>rfl⟩
 have hS:∀ n,S (f n):=by
  intro n
  induction n<;>simp_all
 have hw:∀ a d,Way g d (f a) (f (a+d)):=by
  intro a d
  induction d with
  | zero=>rfl
  | succ d ih=>exact⟨_,ih,by grind⟩
 have hnot:¬ ((aAE (g.length+1)).map f).Nodup:=by
  intro hd
  have:=(AeI g.length _ hd λx hx=>by
   grind).1
  grind
 have hex:∃ a b:Nat,a<b/\b<=g.length/\f a=f b:=by
  apply aAM;intro hne;refine hnot (aAb.2 λa b ha hb hab=>?_)
  simp only[aAX,aAa]at ha hb;simp only[List.getElem_map,List.getElem_range];exact λe=>hne ⟨a,b,hab,by omega,e⟩
 obtain⟨a,b,hab,hbl,e⟩:=hex;have h1:=hw a (b-a);rw[show a+(b-a)=b by omega,<- e]at h1
 have h2:=hr _ (hS a);refine⟨(f a).toNat,b-a-1,by omega,by omega,?_⟩
 rw[show((f a).toNat:Int)=f a by omega,show b-a-1+1=b-a by omega]
 exact h1
theorem AqW {g:List (List Int)} {done:List Int}:∀ (d k:Nat),nxY g done d k<0->∀ j,k<=j->j<k+d->¬ (¬ (j:Int)∈done/\∀ v∈g.getD j [],v∈done)
 | 0,_,_=>λj h1 h2=>by omega
 | d+1,k,h=>λj h1 h2=>by
  unfold nxY at h;split at h
  ·omega
  ·rename_i hn
   by_cases e:j=k
   ·simp_all
   ·exact AqW d (k+1) h j (by omega) (by omega)
theorem Apo:∀ {l m:List Int},l.Nodup->(∀ x∈l,x∈m)->l.length<=m.length
 | [],_,_,_=>aAC _
 | x::l,m,hd,hs=>by
  have hx:x∈m:=hs x (by simp)
  have hd':=List.nodup_cons.1 hd;have:=Apo (m:=m.erase x) hd'.2 λy hy=>(List.mem_erase_of_ne (λe=>hd'.1 (by simp_all))).2 (hs y (by simp[hy]))
  grind
theorem ArR (hg:GrY g) (he:SN g=some ([],8)):∃ (i:Nat) (n:Nat),i<g.length/\n<g.length/\Way g (n+1) i i:=by
 have hh:Hs (SN g) λr=>r.2=8->∃ (i:Nat) (n:Nat),i<g.length/\n<g.length/\Way g (n+1) i i:=by
  refine Hs.loop (λs:List Int×List Int=>TC g s.1 s.2/\s.1.length<=g.length) (λs=>g.length-s.1.length) ⟨TC.nil g,aAC _⟩ λs ⟨hs,hsl⟩=>?_
  refine⟨Adu g s.1 s.2,Apx hg hs,?_⟩;cases hst:Adu g s.1 s.2 with
  | inl s' =>
   obtain⟨h1,h2,h3⟩:=Arv hg hs hst;exact⟨⟨h1,by omega⟩,by grind⟩
  | inr r =>
   unfold Adu at hst;split at hst
   ·split at hst
    ·rename_i hneg;intro _;have hno:∀ j:Nat,j<g.length->(j:Int)∉s.2->∃ v∈g.getD j [],v∉s.2:=by
      intro j hj hd;apply aAM;intro hall;have hc:∀ v∈g.getD j [],v∈s.2:=λv hv=>aAM λhn=>hall ⟨v,hv,hn⟩
      exact AqW (g.length) 0 hneg j (aAC _) (by omega) ⟨hd,hc⟩
     have hex:∃ j:Nat,j<g.length/\(j:Int)∉s.2:=by
      apply aAM;intro hall;have hin:∀ x∈(aAE g.length).map (λn:Nat=>(n:Int)),x∈s.1:=by
       intro x hx;obtain⟨k,hk,rfl⟩:=aAS.1 hx;have hk:=aAk.1 hk;exact(hs.mem _).1 (aAM λhn=>hall ⟨k,hk,hn⟩)
      have hnd:((aAE g.length).map (λn:Nat=>(n:Int))).Nodup:=by
       grind [aAb]
      have:=Apo hnd hin
      grind
     obtain⟨j,hj,hjd⟩:=hex;refine AsS (λv=>(0<=v/\v<g.length)/\v∉s.2) (λv hv=>hv.1) (λv hv=>?_) (v:=(j:Int)) ⟨by omega,hjd⟩
     have e:((v.toNat:Nat):Int)=v:=by omega
     obtain⟨u,hu,hud⟩:=hno v.toNat (by omega) (by simp_all)
     have hrow:g[v.toNat]? =some (g[v.toNat]'(by omega)):=aAA _
     have hg1:g.getD v.toNat []=g[v.toNat]'(by omega):=by simp_all
     have h2:=(hg.at_ hrow);refine⟨u,hu,⟨(h2.1.2 u (hg1▸hu)).1,h2.2 u (hg1▸hu)⟩,hud⟩
    ·cases hst
   ·cases hst;intro e;cases e
 obtain⟨r,h1,h2⟩:=hh;simp_all
theorem Aur {b a' b':Int} (h1:a'<=a) (h2:b'<=b):OA a' b'<=OA a b:=by
 grind [OA]
theorem Anm {f f':Nat->Option Int} (hf:∀ i x,f i=some x->∃ x',f' i=some x'/\x'<=x):∀ {s:List Int} {b b' m:Int},b'<=b->s.foldlM (λa j=>(f j.toNat).map (OA a)) b=some m->∃ m',s.foldlM (λa j=>(f' j.toNat).map (OA a)) b'=some m'/\m'<=m
 | [],b,b',m,hb,h=>by simp_all
 | x::s,b,b',m,hb,h=>by
  simp only[List.foldlM_cons,Option.bind_eq_bind,aAH]at h;obtain⟨c,hc,h⟩:=h;obtain⟨y,hy,rfl⟩:=aAi.1 hc;obtain⟨y',hy',hle⟩:=hf _ _ hy;obtain⟨m',h1,h2⟩:=Anm hf (Aur hb hle) h;simp_all
def LeW (w' w:List Int):Prop:=w'.length=w.length/\∀ (i:Nat) x,w[i]? =some x->∃ x',w'[i]? =some x'/\0<=x'/\x'<=x
theorem AnY {g:List (List Int)} {w w':List Int} (hw:LeW w' w):∀ (n i:Nat) (x:Int),bF g w n i=some x->∃ x',bF g w' n i=some x'/\x'<=x
 | 0,_,_,h=>by cases h
 | n+1,i,x,h=>by
  unfold bF at h;simp only[aAH]at h;obtain⟨s,hs,y,hy,m,hm,h⟩:=h;obtain⟨y',hy',y0,y1⟩:=hw.2 i y hy;obtain⟨m',hm',h2⟩:=Anm (AnY hw n) (Int.le_refl 0) hm;split at h
  ·cases h;refine⟨y'+m',?_,by omega⟩
   unfold bF
   grind
  ·cases h
theorem YC.mono {w w':List Int} {o r':List Int×Int} (h:YC g w o r) (h':YC g w' o r') (h0:r.2=0) (hw:LeW w' w):r'.2=0:=by
 rcases h with⟨_,rfl⟩|⟨⟨hz,hwt⟩,⟨h2,rfl⟩|⟨h2,⟨_,rfl⟩|⟨h3,h4,h5⟩⟩⟩
 ·omega
 ·omega
 ·omega
 have hwt':WtY g w':=⟨hw.1.trans hwt.1,λx hx=>by
  obtain⟨k,hk⟩:=aAG hx;have hkl:=(aAF.1 hk).1;have hk2:w[k]? =some (w[k]'(by have:=hw.1;omega)):=aAA _
  obtain⟨x',e1,e2,e3⟩:=hw.2 k _ hk2;rw[hk]at e1;cases e1;have:=hwt.2 _ (aAB hk2)
  omega⟩
 rcases h' with⟨g1,_⟩|⟨_,⟨g2,_⟩|⟨_,⟨⟨i,hi,hn⟩,_⟩|⟨g3,_⟩⟩⟩
 all_goals grind [AnY,vB]
attribute [local simp] Oa aAP
def zB:PE:=⟨⟨0,[]⟩,0,[],[]⟩
theorem Asv (p:Nv) (l:List NL) (g:List (List Int)) (hn:p.Funcs.length<=1000) {e:Int} (he:e≠0):RZ p l g e=some (zB,e):=by
 have hh:Hs (RZ p l g e) λr=>r=(zB,e):=by
  have hb:(e==0)=false:=by simp[he]
  refine Hs.loop (λz=>z.1=e/\z.2.1=[]/\z.2.2.1=[]/\∃ k:Nat,z.2.2.2=(k:Int)/\k<=p.Funcs.length) (λz=>p.Funcs.length-z.2.2.2.toNat) ⟨rfl,rfl,rfl,0,rfl,aAC _⟩ ?_
  rintro⟨x7,x8,x9,x10⟩ ⟨h7,h8,h9,k,hk,hkl⟩;subst h7;subst h8;subst h9;subst hk;dsimp only;have nx:k<p.Funcs.length->Hs (cnt (R:=PE×Int) (x7,([]:List NX),([]:List Int),IntKind.i64.wrap ((k:Int)+1))) (Rnd (λz:Int×List NX×List Int×Int=>z.1=x7/\z.2.1=[]/\z.2.2.1=[]/\∃ k:Nat,z.2.2.2=(k:Int)/\k<=p.Funcs.length) (λz=>p.Funcs.length-z.2.2.2.toNat) (x7,[],[],(k:Int)) λr:PE×Int=>r=(zB,x7)):=by
   intro hlt;refine .cnt ⟨⟨rfl,rfl,rfl,k+1,Nw (by omega),by omega⟩,?_⟩
   grind [Nw]
  refine .dec (λhlt=>?_) λhlt=>.lft ?_
  ·refine .dec (λhl=>?_) λhl=>?_
   ·refine(Hs.ix (l:=l) (i:=(k:Int)) (by omega) hl λz hz=>hz).bind λx _=>?_
    rw[hb,cond_false];exact nx (by omega)
   ·rw[hb,cond_false];exact nx (by omega)
  ·rw[hb,cond_false];unfold Ut;rw[show(x7 != 0)=true by simp[he],cond_true]
   exact .pure rfl
 obtain⟨r,h1,rfl⟩:=hh;exact h1
section
variable {p:Nv} (h:PF p)
 include h
theorem PF.at (hf:p.Funcs[i]? =some f):Amh p i f:=h.opt (by simp_all)
theorem PF.gw (hf:p.Funcs[i]? =some f):GW p.Funcs.length f:=h.all f (aAB hf)
theorem PF.calls:CallsIn p:=by
 intro f hf;obtain⟨i,hi⟩:=aAG hf;exact(h.at hi).calls
theorem PF.short:∀ f∈p.Funcs,f.Code.length<=1000000:=by
 intro f hf;have:=(h.all f hf).len';omega
theorem PF.gr:GrY (cgR p):=Ayx (by have:=h.few;omega) h.calls
theorem PF.align:∃ al,SF p=some al/\Sm p=some al/\Re al/\16<=al/\al<=16777216:=by
 have:=h.few;exact(h.at (aAA (show 0<p.Funcs.length by omega))).align
theorem PF.Azp {al:Int} (ea:SF p=some al) (hal:Re al/\16<=al/\al<=16777216) (l:List NL) (g:List (List Int)) (hr:Wd g (p.Funcs.map (λf=>(QE p f al).Size))=some r) (hz:TE p l g r.2=some z) :
  RY p l g 0=some z:=by
 have hf:=h.few;have hh:Hs (RY p l g 0) λx=>x=z:=by
  unfold RY;refine Hs.loop (λz=>∃ k:Nat,z.2=(k:Int)/\k<=p.Funcs.length/\z.1=(p.Funcs.take k).map (λf=>(QE p f al).Size)) (λz=>p.Funcs.length-z.2.toNat) ⟨0,rfl,aAC _,rfl⟩ ?_
  rintro⟨out,k4⟩ ⟨k,hk,hkl,ho⟩;simp only at hk ho;subst hk;refine .dec (λhlt=>?_) λhlt=>.lft ?_
  ·obtain⟨f,hx⟩:∃ f,p.Funcs[k]? =some f:=⟨p.Funcs[k]'(by omega),aAA (by omega)⟩
   have hO:=h.at hx;rw[ea,aA,AmB hO.hi hO.Um.len' hO.arg (hO.lay hal).slots hal.1 hal.2.2,aA];refine .bne (λe=>absurd rfl e) λ_=>.chk (by grind) (.cnt ⟨⟨k+1,Nw (by omega),by omega,?_⟩,?_⟩)
   ·simp_all[XZ]
   grind [Nw]
  ·have:k=p.Funcs.length:=by omega
   rw[this,aAQ]at ho;rw[ho,hr,aA,hz];exact .pure rfl
 obtain⟨r,h1,rfl⟩:=hh;exact h1
end
open Go Go.Dw Go.Proofs
set_option maxHeartbeats 4000000 in
def Vy (l:List NL) (i:Nat):NL:=(l[i]?).getD ⟨⟨[]⟩,⟨[],[]⟩,⟨[]⟩,⟨0,0,[]⟩⟩
def frY (p:Nv) (R:Nat->Nn×NC×Int×Int) (i:Nat):NX:=⟨((p.Funcs[i]?).map Nn.Params).getD 0,(R i).2.1.Size,(R i).1.Code.map (Pl (R i).1 (R i).2.1)⟩
section
variable {p:Nv} (h:PF p) {al:Int} (hal:Re al/\16<=al/\al<=16777216)
 include h hal
theorem PF.params (hf:p.Funcs[i]? =some f):0<=f.Params/\f.Params<=8:=by
 have _:=hal;exact(h.gw hf).par
theorem PF.small (hf:p.Funcs[i]? =some f):(QE p f al).Size<=1000000000:=(AjV ((h.at hf).lay hal).bas).2.2.2.2.2
theorem PF.Atc {R:Nat->Nn×NC×Int×Int} (hR:∀ (i:Nat) f,p.Funcs[i]? =some f->ChY p i f al (R i)) (hf:p.Funcs[i]? =some f):Amg ((aAE p.Funcs.length).map (frY p R)) al (frY p R i):=by
 have hc:=hR i f hf;have hp:=h.params hal hf;have hb:=h.small hal hf;have hg:=hc.gok;have hsz:=hc.size;obtain⟨s1,s2,s3,s4,s5,s6⟩:=id hc.shape;have hpar:(frY p R i).Params=f.Params:=by grind [frY]
 have hA0:0<=PI ⟨p.Funcs.set (i:Int).toNat (R i).1⟩ (R i).1 (R i).1.Code.length:=by
  have:=Agi (p:=⟨p.Funcs.set (i:Int).toNat (R i).1⟩) (f:=(R i).1) (m:=(R i).1.Code.length) (k:=0) (aAC _) (aAK _)
  grind [PI]
 have low:=λx hx=>Auq hg hc.shape (by omega) (x:=x) hx
 have hcl:(frY p R i).Code.length=(R i).1.Code.length:=by simp[frY]
 have hsize:(frY p R i).Size=(R i).2.1.Size:=rfl;refine⟨by omega,by omega,s4,by have:=hg.len;have:=hg.len';omega,λx hx=>?_,λx hx=>?_,λx hx hop=>?_⟩
 ·obtain⟨x0,hx0,rfl⟩:=aAS.1 hx;have:=(low x0 hx0).2.2.1;rw[hcl,hpar,hsize,<- hc.par];simp_all
 ·rw[hcl]at hx;have hln:=hg.len;have hk:(R i).1.Code[(R i).1.Code.length-1]? =some (Ns (R i).1 ((R i).1.Code.length-1:Nat)):=by
   grind [Ns]
  have hx':(frY p R i).Code[(R i).1.Code.length-1]? =some (Pl (R i).1 (R i).2.1 (Ns (R i).1 ((R i).1.Code.length-1:Nat))):=by
   grind [frY]
  rw[hx']at hx;cases hx;refine(low _ (aAB hk)).2.2.2.2 true ?_;rcases hg.last with e|e|e<;>rw[e]<;>simp[PA]
 ·obtain⟨x0,hx0,rfl⟩:=aAS.1 hx;obtain⟨e1,e2⟩:=(low x0 hx0).2.2.2.1 hop;obtain⟨a0,g,hg1,g0,g1⟩:=(hc.arg x0 hx0).2 e1;have hge:=(Ase hx0).2 e1 g hg1;rw[e2];simp only at hg1;have hAl:x0.A.toNat<p.Funcs.length:=by
   grind
  have hpg:((p.Funcs[x0.A.toNat]?).map Nn.Params).getD 0=g.Params:=by
   have hsp:=Asb (p:=p) (i:=(i:Int)) (f:=f) (q:=(R i).1) (by simp_all) hc.par x0.A.toNat
   simp_all
  grind [frY,OZ]
end
open Go Go.Dw Go.Proofs
structure ApY (p:Nv) (al:Int) (o r:List Int×Int):Prop where
 ea:SF p=some al
 hal:Re al/\16<=al/\al<=16777216
 ord:SN (cgR p)=some o
 ho:o=([],8)\/(o.2=0/\o.1.length=(cgR p).length/\∃ done,TC (cgR p) o.1 done)
 b1:Wd (cgR p) (p.Funcs.map λf=>(QE p f al).Size)=some r
 out:YC (cgR p) (p.Funcs.map λf=>(QE p f al).Size) o r
theorem Asd (hg:GrY g) (w:List Int):∃ o r,SN g=some o/\Wd g w=some r/\YC g w o r/\(o=([],8)\/(o.2=0/\o.1.length=g.length/\∃ done,TC g o.1 done)):=by
 obtain⟨o,e1,e3⟩:=Apq hg;obtain⟨r,h1,h2⟩:=AtM hg (w:=w) e1;simp_all
theorem PF.AwU (h:PF p):∃ al o r,ApY p al o r:=by
 obtain⟨al,ea,_,hal⟩:=h.align;obtain⟨o,r,c1,b1,oW,ho⟩:=Asd h.gr (p.Funcs.map λf=>(QE p f al).Size)
 exact⟨al,o,r,ea,hal,c1,ho,b1,oW⟩
def ChD (p:Nv) (al:Int) (l:List NL) (R:Nat->Nn×NC×Int×Int):Prop:=∀ (i:Nat) f,p.Funcs[i]? =some f->RE p i (Vy l i)=some (R i)/\ChY p i f al (R i)/\(R i).1.Code.length<=f.Code.length/\((Vy l i).Live.Out=[]->R i=(f,QE p f al,0,0))
inductive Ahq (p:Nv) (l:List NL) (al:Int) (o r:List Int×Int):PE×Int->Prop
 | cyc:o=([],8)->Ahq p l al o r (zB,o.2)
 | over:o.2=0->r.2≠0->Ahq p l al o r (zB,r.2)
 | ok (R:Nat->Nn×NC×Int×Int) (rT:List Int×Int) (x0:Int):o.2=0->r.2=0->ChD p al l R->YC (cgR p) (((aAE p.Funcs.length).map (frY p R)).map (·.Size)) o rT->rT.2=0->rT.1[0]? =some x0 ->
  AnS (cgR p) (((aAE p.Funcs.length).map (frY p R)).map (·.Size)) rT.1->Ahq p l al o r (⟨⟨al,(aAE p.Funcs.length).map (frY p R)⟩,x0,rT.1,(aAE p.Funcs.length).map λi=>(R i).2.2.1⟩,0)
theorem Auo (n:Int):∀ l,Aog n l=UB n l
 | []=>rfl
 | x::r=>by unfold Aog UB;rw[Auo n r]
theorem AvE (l:List Lo):YY l=UF l:=by
 grind [AnU,Rf,Auo,YY,UF]
theorem PF.cg (h:PF p):Aoa p=some (cgR p):=by
 have hc:=h.calls;unfold Aoa;rw[@Oa _ _ (aAe _) _ ⟨h.few,λf hf=>⟨⟨(h.all f hf).len,(h.all f hf).len'⟩,hc f hf⟩⟩]
 grind [cgR,AvE]
theorem AnS.broken {w c:List Int} (h:AnS g w c):AeR g w c=some (0,false):=by
 unfold AeR;rw[@Oa _ _ (aAe _) _ ⟨h.size,h.row,h.wt,h.cl,h.ge⟩]
theorem Amf {t:Og} (hn:t.Frames.length<=1000000):Yd t=some (t.Frames.map (·.Size)):=by
 have hh:Hs (Yd t) λr=>r=t.Frames.map (·.Size):=by
  refine Hs.loop (λz=>∃ k:Nat,z.2=(k:Int)/\k<=t.Frames.length/\z.1=(t.Frames.take k).map (·.Size)) (λz=>t.Frames.length-z.2.toNat) ⟨0,rfl,aAC _,rfl⟩ ?_
  rintro⟨w,_⟩ ⟨k,rfl,hk,hw⟩;replace hw:w=(t.Frames.take k).map (·.Size):=hw;refine .dec (λhlt=>?_) λ_=>.lft (.pure ?_)
  ·have hx:t.Frames[k]? =some (t.Frames[k]'(by omega)):=aAA _
   rw[NT,hx,aA,Nw (by omega)]
   refine .chk (by grind) (.cnt ⟨⟨k+1,rfl,by omega,?_⟩,by grind⟩)
   rw[hw,XZ hx,List.map_append];rfl
  ·have:k=t.Frames.length:=by omega
   subst this;rw[aAQ]at hw;exact hw
 obtain⟨r,h1,rfl⟩:=hh;exact h1
theorem AlZ {α:Type} (f:Nat->α) (k:Nat):(aAE (k+1)).map f=(aAE k).map f++[f k]:=by grind [List.range_succ]
section
variable {p:Nv} (h:PF p) {al:Int} (hal:Re al/\16<=al/\al<=16777216)
 include h hal
theorem PF.Amo (ea:SF p=some al) (l:List NL) (hl:∀ x∈l,Qn x.Live.Out/\Qn x.LiveAfter.Out):∃ R:Nat->Nn×NC×Int×Int,ChD p al l R:=by
 have key:∀ i:Nat,∃ r:Nn×NC×Int×Int,∀ f,p.Funcs[i]? =some f->RE p i (Vy l i)=some r/\ChY p i f al r/\r.1.Code.length<=f.Code.length/\((Vy l i).Live.Out=[]->r=(f,QE p f al,0,0)):=by
  intro i;cases hf:p.Funcs[i]? with
  | none=>simp_all
  | some f =>
   have hx:Qn (Vy l i).Live.Out/\Qn (Vy l i).LiveAfter.Out:=by
    unfold Vy;cases hx:l[i]? with
    | none=>exact⟨⟨by simp,by simp⟩,⟨by simp,by simp⟩⟩
    | some x=>grind
   obtain⟨r,h1⟩:=AsL (h.at hf) (h.gw hf) ea hal (Vy l i) hx.1 hx.2;simp_all
 exact Classical.axiomOfChoice key
variable {l:List NL} {R:Nat->Nn×NC×Int×Int} (hR:ChD p al l R)
 include hR
theorem PF.Azx (hk:k<p.Funcs.length):RE p k (Vy l k)=some (R k)/\(R k).2.2.2=0/\Tm p k (R k).1=some ⟨p.Funcs.set k (R k).1⟩/\WK ⟨p.Funcs.set k (R k).1⟩ k (R k).2.1=some (frY p R k):=by
 have hf:p.Funcs[k]? =some p.Funcs[k]:=aAA hk;obtain⟨h1,h3,_⟩:=hR k _ hf;have hfew:=h.few;have hsm:=h.small hal hf;have hg:=h3.gok;have hsz:=h3.size;have hx:=λx hx=>Auq hg h3.shape (by omega) (x:=x) hx
 have hfs:(⟨p.Funcs.set k (R k).1⟩:Nv).Funcs[k]? =some (R k).1:=aAg (by omega)
 have hl:=hg.len';have e1:=AvW hfs (by omega) (y:=(R k).2.1) (T:=Pl (R k).1 (R k).2.1) (λx hm=>(hx x hm).1) (λx hm=>(hx x hm).2.1)
 have o1:=Asq p (R k).1 (i:=(k:Int)) (by omega) (by omega) (by omega)
 rw[aAD]at o1;refine⟨h1,h3.err,o1,?_⟩;rw[e1,h3.par]
 grind [frY]
theorem PF.Azl (hz:Wm p l g 0 ((aAE p.Funcs.length).map (frY p R)) ((aAE p.Funcs.length).map (λi=>(R i).2.2.1)) (p.Funcs.length:Int)=lft (some z)):RZ p l g 0=some z:=by
 have hfew:=h.few;have hh:Hs (RZ p l g 0) λr=>r=z:=by
  refine Hs.loop (λs=>∃ k:Nat,s=(0,(aAE k).map (frY p R),(aAE k).map (λi=>(R i).2.2.1),(k:Int))/\k<=p.Funcs.length) (λs=>p.Funcs.length-s.2.2.2.toNat) ⟨0,rfl,aAC _⟩ ?_
  rintro _ ⟨k,rfl,hkl⟩
  by_cases hlt:k<p.Funcs.length
  ·obtain⟨c1,c3,o1,f1⟩:=h.Azx hal hR hlt;have l1:((aAE k).map (frY p R)).length+([frY p R k]:List NX).length<=16777216:=by simp;omega
   have l2:((aAE k).map (λi=>(R i).2.2.1)).length+([(R k).2.2.1]:List Int).length<=16777216:=by simp;omega
   have nx:Hs (cnt (R:=PE×Int) ((0:Int),(aAE k).map (frY p R)++[frY p R k],(aAE k).map (λi=>(R i).2.2.1)++[(R k).2.2.1],IntKind.i64.wrap ((k:Int)+1))) (Rnd (λs:Int×List NX×List Int×Int=>∃ k:Nat,s=(0,(aAE k).map (frY p R),(aAE k).map (λi=>(R i).2.2.1),(k:Int))/\k<=p.Funcs.length) (λs=>p.Funcs.length-s.2.2.2.toNat) ((0:Int),(aAE k).map (frY p R),(aAE k).map (λi=>(R i).2.2.1),(k:Int)) λr:PE×Int=>r=z):=by
    rw[Nw (by omega),<- AlZ,<- AlZ (λi=>(R i).2.2.1)]
    exact .cnt ⟨⟨k+1,rfl,hlt⟩,by grind⟩
   unfold Wm;dsimp only;rw[decide_eq_true (show(k:Int)<(p.Funcs.length:Int)by omega),cond_true]
   have go:∀ {x},Vy l k=x->RE p k x=some (R k):=λe=>e▸c1
   refine .dec (λhl=>?_) λhl=>?_
   ·refine(Hs.ix (l:=l) (i:=(k:Int)) (by omega) hl λz hz=>hz).bind λx hx=>?_
    simp only[aAD]at hx;simp only[go (show Vy l k=x by grind [Vy]),beq_self_eq_true,cond_true,aA,c3,bne_self_eq_false,cond_false,o1,f1]
    rw[Oa l1,Oa l2];exact nx
   ·simp only[go (show Vy l k=⟨⟨[]⟩,⟨[],[]⟩,⟨[]⟩,⟨0,0,[]⟩⟩by grind [Vy]),beq_self_eq_true,cond_true,aA,c3,bne_self_eq_false,cond_false,o1,f1]
    rw[Oa l1,Oa l2];exact nx
  ·have:k=p.Funcs.length:=by omega
   subst this;rw[hz];exact .lft (.pure rfl)
 obtain⟨r,h1,rfl⟩:=hh;exact h1
end
theorem Akc (h:PF p) (s1:Abp p=some 0) {al:Int} {o:List Int×Int} (B:ApY p al o r) {l:List NL} (hR:∃ R,ChD p al l R):∃ z,SW p l=some z/\Ahq p l al o r z:=by
 obtain⟨ea,hal,c1,ho,b1,oW⟩:=B;have hfew:=h.few;have hgr:=h.gr;have hgl:(cgR p).length=p.Funcs.length:=by simp[cgR]
 have start:∀ z,RY p l (cgR p) o.2=some z->SW p l=some z:=by
  intro z hz;unfold SW;simp only[beq_self_eq_true,cond_true,s1,aA];unfold Wn;simp only[beq_self_eq_true,cond_true,h.cg,aA,c1];exact hz
 rcases ho with ho|⟨ho0,hol,done,hord⟩
 ·refine⟨_,start _ ?_,.cyc ho⟩;rw[ho];exact Asv p l _ (by omega) (by decide)
 rw[ho0]at start;have psz:∀ z,TE p l (cgR p) r.2=some z->SW p l=some z:=λz hz=>start z (h.Azp ea hal l (cgR p) b1 hz)
 by_cases hr0:r.2=0
 ·rw[hr0]at psz;obtain⟨R,hR⟩:=hR;have hF:∀ (i:Nat) f,p.Funcs[i]? =some f->ChY p i f al (R i):=λi f hf=>(hR i f hf).2.1
  obtain⟨t,ht⟩:∃ t:Og,t=⟨al,(aAE p.Funcs.length).map (frY p R)⟩:=⟨_,rfl⟩;have htl:t.Frames.length=p.Funcs.length:=by simp_all
  have w1:=Amf (t:=t) (by omega)
  obtain⟨o',rT,c1',b1',oT,_⟩:=Asd hgr (t.Frames.map (·.Size));rw[c1]at c1';cases c1';have hle:LeW (t.Frames.map (·.Size)) (p.Funcs.map λf=>(QE p f al).Size):=by
   refine⟨by simp[htl],λi x hx=>?_⟩
   rw[aAV]at hx;obtain⟨f,hf,rfl⟩:=aAi.1 hx;have hil:=(aAF.1 hf).1;have hfr:=(h.Atc hal hF hf).size;refine⟨(frY p R i).Size,?_,hfr.1,(hF i f hf).size⟩;simp_all
  have hT0:=YC.mono oW oT hr0 hle;have hbrk:=oT.Azt hgr hT0 hord hol;have hrl:=hbrk.cl;obtain⟨x0,hx0⟩:∃ x0,rT.1[0]? =some x0:=⟨rT.1[0]'(by omega),aAA _⟩
  have hcert:UG (cgR p) (t.Frames.map (·.Size)) rT.1=some 0:=by
   unfold UG;rw[AkK hbrk,aA];rw[hbrk.broken,aA];rfl
  have hmach:ZD t=some 0:=by
   obtain⟨m,hm,hme⟩:=hal.1;refine Aut (t:=t) (by grind [AiS]) (by simp_all) (by omega) (λfr hfr=>?_) λfr hfr=>?_
   ·rw[ht]at hfr ⊢;obtain⟨i,hi,rfl⟩:=aAS.1 hfr;exact h.Atc hal hF (aAA (aAk.1 hi))
   ·have h0:0<p.Funcs.length:=by omega
    rw[ht,aAV,aAZ h0]at hfr;cases hfr;unfold frY;rw[aAA h0];exact h.zero _ (aAA h0)
  refine⟨(⟨t,x0,rT.1,(aAE p.Funcs.length).map (λi=>(R i).2.2.1)⟩,0),psz _ (h.Azl hal hR ?_),?_⟩
  ·unfold Wm;rw[show(decide ((p.Funcs.length:Int)<(p.Funcs.length:Int)))=false by simp,cond_false]
   simp only[beq_self_eq_true,cond_true,ea,aA,<- ht];simp_all[TD,Ut]
  ·rw[ht]at oT hbrk ⊢;exact .ok R rT _ ho0 hr0 hR oT hT0 hx0 hbrk
 ·exact⟨(zB,r.2),psz _ (Asv p l _ (by omega) hr0),.over ho0 hr0⟩
open Go Go.Dw Go.Proofs
theorem Ann {f:Nat->Option Int} {C:Int}:∀ {s:List Int} {b:Int},(∀ j∈s,∃ x,f j.toNat=some x/\0<=x/\x<=C)->0<=b/\b<=C->∃ m,s.foldlM (λa j=>(f j.toNat).map (OA a)) b=some m/\0<=m/\m<=C
 | [],b,_,hb=>⟨b,rfl,hb⟩
 | x::s,b,h,hb=>by
  obtain⟨y,hy,hr⟩:=h x (by simp)
  obtain⟨m,hm,hr'⟩:=Ann (f:=f) (C:=C) (s:=s) (b:=OA b y) (λj hj=>h j (by simp[hj])) (by grind [OA])
  simp_all
theorem Asx {g:List (List Int)} (hg:GrY g) {w order done:List Int} (ho:TC g order done) (hl:order.length=g.length) {M:Int} (hw:w.length=g.length) (hM:∀ x∈w,0<=x/\x<=M) (hmax:(g.length:Int)*M<=2147483647) :
  ∀ (n b:Nat),b<n->∀ i:Nat,order[b]? =some (i:Int)->∃ x,vB g w i=some x/\0<=x/\x<=((b+1:Nat):Int)*M
 | 0,_,h=>by omega
 | n+1,b,hbn=>λi hi=>by
  have hr:=ho.rng _ (aAB hi);have hbl:=(aAF.1 hi).1;obtain⟨s,hs⟩:∃ s,g[i]? =some s:=⟨g[i]'(by omega),aAA _⟩
  obtain⟨y,hy⟩:∃ y,w[i]? =some y:=⟨w[i]'(by omega),aAA _⟩
  have hyr:=hM y (aAB hy);have hM0:0<=M:=by omega
  have hb0:0<=(b:Int)*M:=Int.mul_nonneg (by omega) hM0
  have hb1:((b+1:Nat):Int)*M=(b:Int)*M+M:=by grind
  have hb2:((b+1:Nat):Int)*M<=(g.length:Int)*M:=aAY (by omega) hM0
  have hgd:g.getD (i:Int).toNat []=s:=by simp_all
  obtain⟨m,hm,hmr⟩:=Ann (f:=vB g w) (C:=(b:Int)*M) (s:=s) (b:=0) (λj hj=>by
   have hrow:=hg.at_ hs;have hj0:=(hrow.1.2 j hj).1;obtain⟨a,ha⟩:=aAG (ho.top b i hi j (hgd▸hj));rw[List.getElem?_take]at ha;split at ha
   ·obtain⟨x,hx,h0,h1⟩:=Asx hg ho hl hw hM hmax n a (by omega) j.toNat (by grind)
    exact⟨x,hx,h0,Int.le_trans h1 (aAY (by omega) hM0)⟩
   ·cases ha) ⟨Int.le_refl 0,hb0⟩
  refine⟨y+m,?_,by omega,by omega⟩
  rw[Aqf hg ho hl hi hs hy];unfold mB
  grind
theorem YC.fits (hg:GrY g) (h1:1<=g.length/\g.length<=80) {w:List Int} {o:List Int×Int} (h:YC g w o r) (h0:o.2=0) {done:List Int} (ho:TC g o.1 done) (hl:o.1.length=g.length) {M:Int} (hw:w.length=g.length) (hM:∀ x∈w,0<=x/\x<=M) (hmax:(g.length:Int)*M<=2147483647) (hM':M<=2147483647):r.2=0:=by
 rcases h with⟨g1,_⟩|⟨_,⟨g2,_⟩|⟨_,⟨⟨i,hi,hn⟩,_⟩|⟨g3,_⟩⟩⟩
 ·exact absurd ⟨h1,hw,λx hx=>by grind⟩ g1
 ·omega
 ·obtain⟨p,hp⟩:=ho.full hl hi
  grind [Asx]
 ·exact g3
set_option maxHeartbeats 40000000
section
theorem Ady {ι R:Type} (body:ι->Option (ι⊕R)) (s:ι):NA body s=(body s).bind (Sum.elim (NA body) some):=by
 grind [Vo]
theorem AnR {n:Int} (h:decide (-9223372036854775808<=n/\n<=9223372036854775807)=true):IntKind.i64.wrap n=n:=by
 grind [wrap64]
theorem AwB (h:UL f.Slots f.Params p.Funcs.length (λt=>0<=t/\t<f.Code.length) x):Wy p f x=some 0:=by
 have ten:∀ {op:Int},2<=op->op<12->op=2\/op=3\/op=4\/op=5\/op=6\/op=7\/op=8\/op=9\/op=10\/op=11:=by omega
 cases h with
 | move a b h1 h2 h3 =>
  obtain⟨a0,a1,x,y,hx,hy,e⟩:=h1;have e1:ixO f.Slots a=some x:=by grind [OZ]
  have e2:ixO f.Slots b=some y:=by grind [OZ]
  (try simp only[Tt]at *);simp(config:={decide:=true}) [Wy,Sq,Ady,VC,Tc,Wz,VD,Ts,QN.toList,RI.toList,chk,lft,cnt,AnR, *]
 | bin op a b c h1 h2 h3 h4 h5=>rcases ten h1 h2 with rfl|rfl|rfl|rfl|rfl|rfl|rfl|rfl|rfl|rfl<;>(try simp only[Tt]at *)<;>simp(config:={decide:=true}) [Wy,Sq,Ady,VC,Tc,Wz,VD,Ts,QN.toList,RI.toList,chk,lft,cnt,AnR, *]
 | one op a h1 h2=>rcases h1 with rfl|rfl<;>(try simp only[Tt]at *)<;>simp(config:={decide:=true}) [Wy,Sq,Ady,VC,Tc,Wz,VD,Ts,QN.toList,RI.toList,chk,lft,cnt,AnR, *]
 | two op a b h1 h2 h3=>rcases h1 with rfl|rfl<;>(try simp only[Tt]at *)<;>simp(config:={decide:=true}) [Wy,Sq,Ady,VC,Tc,Wz,VD,Ts,QN.toList,RI.toList,chk,lft,cnt,AnR, *]
 | _ =>
  (try simp only[Tt]at *);simp(config:={decide:=true}) [Wy,Sq,Ady,VC,Tc,Wz,VD,Ts,QN.toList,RI.toList,chk,lft,cnt,AnR, *]
theorem Ayb {s:List NB} (hl:s.length<=512) (h:∀ x∈s,Adh x):Ul s=some 0:=by
 unfold Ul Pt PN;have hh:Hs (NA (λst=>Pu s st) 0) λr=>r= -1:=by
  refine Hs.loop (λi=>∃ k:Nat,i=(k:Int)/\k<=s.length) (λi=>s.length-i.toNat) ⟨0,rfl,aAC _⟩ ?_
  rintro _ ⟨k,rfl,hk⟩;refine .dec (λhlt=>?_) λ_=>.lft (.pure rfl)
  obtain⟨x,hx⟩:∃ x,s[k]? =some x:=⟨s[k]'(by omega),aAA _⟩
  obtain⟨h1,m,hm,h2⟩:=h x (aAB hx);have e:TH x=some false:=by
   grind [TH,Adb,AiS]
  rw[NT,hx,aA,e,aA,Nw (by omega)]
  exact .cond (λe=>absurd e (by simp)) λ_=>.cnt ⟨⟨k+1,rfl,by omega⟩,by grind⟩
 obtain⟨r,h1,rfl⟩:=hh
 grind
theorem AxW (hi:p.Funcs[i]? =some f) (h:GW p.Funcs.length f):Yp p i=some 0:=by
 have hil:=(aAF.1 hi).1;have hl:=h.len';have hl0:=h.len;have hp:=h.par;have hsl:=h.slots;unfold Yp Sq;rw[decide_eq_true (by omega),cond_true,decide_eq_true (by omega),aA,NT,hi,aA,decide_eq_false (by omega),Ayb (by omega) h.slot,decide_eq_true (by omega),cond_true,decide_eq_true (by omega)]
 have hh:Hs (NA (λs=>Abd f p s) 0) λr=>r=0:=by
  refine Hs.loop (λi=>∃ k:Nat,i=(k:Int)/\k<=f.Code.length) (λi=>f.Code.length-i.toNat) ⟨0,rfl,aAC _⟩ ?_
  rintro _ ⟨k,rfl,hk⟩;refine .dec (λhlt=>?_) λhlt=>.lft ?_
  ·obtain⟨x,hx⟩:∃ x,f.Code[k]? =some x:=⟨f.Code[k]'(by omega),aAA _⟩
   rw[NT,hx,aA,AwB (h.body x (aAB hx)),aA,Nw (by omega)]
   exact .bne (λe=>absurd rfl e) λe=>.cnt ⟨⟨k+1,rfl,by omega⟩,by grind⟩
  ·refine .beq (λe=>by omega) λe=>?_
   have hx:f.Code[f.Code.length-1]? =some (f.Code[f.Code.length-1]'(by omega)):=aAA _
   have hcd:Ns f (f.Code.length-1:Nat)=f.Code[f.Code.length-1]'(by omega):=by
    grind [Ns]
   have hlast:=h.last;unfold Ty at hlast;rw[hcd]at hlast;have ht:PA (f.Code[f.Code.length-1]'(by omega)).Op=some true:=by
    grind [PA]
   rw[wrap64 (by omega) (by omega),OZ _ (by omega),show((f.Code.length:Int)-1).toNat=f.Code.length-1 by omega,hx,aA,ht,aA]
   exact .pure rfl
 obtain⟨r,h1,rfl⟩:=hh;exact h1
theorem PF.Arj (h:PF p):Abp p=some 0:=by
 have hfew:=h.few;unfold Abp;have hz0:((p.Funcs.length:Int)==0)=false:=by grind
 have h0:p.Funcs[0]? =some (p.Funcs[0]'(by omega)):=aAA _
 rw[decide_eq_false (by omega),cond_false,hz0,cond_false,show(0:Int)=((0:Nat):Int)from rfl,NT,h0,aA,h.zero _ h0]
 have hh:Hs (NA (λs=>AfJ p s) 0) λr=>r=0:=by
  refine Hs.loop (λi=>∃ k:Nat,i=(k:Int)/\k<=p.Funcs.length) (λi=>p.Funcs.length-i.toNat) ⟨0,rfl,aAC _⟩ ?_
  rintro _ ⟨k,rfl,hk⟩;refine .dec (λhlt=>?_) λhlt=>.lft (.pure rfl)
  have hx:p.Funcs[k]? =some (p.Funcs[k]'(by omega)):=aAA _
  rw[AxW hx (h.all _ (aAB hx)),aA,Nw (by omega)]
  exact .bne (λe=>absurd rfl e) λe=>.cnt ⟨⟨k+1,rfl,by omega⟩,by grind⟩
 obtain⟨r,h1,rfl⟩:=hh;exact h1
end
open Go Go.Dw Go.Proofs
theorem Ahq.err {l:List NL} {al:Int} {o:List Int×Int} (h:Ahq p l al o r z) (hr:o.2=0->r.2=0):z.2=o.2:=by
 cases h<;>simp_all
section
variable {p:Nv} (h:PF p) {al:Int} (hal:Re al/\16<=al/\al<=16777216)
 include h hal
theorem PF.AsH (hf:p.Funcs[i]? =some f) (hs:f.Slots.length<=7):0<=(QE p f al).Size/\(QE p f al).Size<=134218024:=by
 have hop:=h.at hf;obtain⟨b1,b2,b3,b4,b5,b6⟩:=AjV (hop.lay hal).bas;have ha:=XJ hop.arg (k:=f.Code.length) (aAK _);have:=AcK ⟨hop.sl,λx hx=>(hop.so x hx).al⟩ (a:=16*PI p f f.Code.length) (by omega) (k:=f.Slots.length) (aAK _)
 omega
end
theorem ApY.fits (h:PF p) (hn:p.Funcs.length<=4) (hs:∀ f∈p.Funcs,f.Slots.length<=7) {al:Int} {o:List Int×Int} (B:ApY p al o r) (h0:o.2=0):r.2=0:=by
 have hfew:=h.few;have hgl:(cgR p).length=p.Funcs.length:=by simp[cgR]
 obtain⟨hl,done,ho⟩:o.1.length=(cgR p).length/\∃ done,TC (cgR p) o.1 done:=by
  rcases B.ho with e|⟨_,h2⟩
  all_goals simp_all
 refine YC.fits h.gr (by omega) B.out h0 ho hl (M:=134218024) (by simp[hgl]) (λx hx=>?_) (by omega) (by omega)
 obtain⟨f,hf,rfl⟩:=aAS.1 hx;obtain⟨i,hi⟩:=aAG hf;exact h.AsH B.hal hi (hs f hf)
theorem YC.AwP {w:List Int} {o:List Int×Int} (hO:YC g w o r) (ho:o.2=0) (hr0:r.2=0):∀ i,i<g.length->∃ x,vB g w i=some x/\r.1[i]? =some x:=by
 rcases hO with⟨_,rfl⟩|⟨_,⟨h2,rfl⟩|⟨_,⟨_,rfl⟩|⟨_,_,h5⟩⟩⟩
 all_goals omega
def prS:Nv:=⟨[⟨0,[],[⟨23,0,0,0,0⟩]⟩]⟩
theorem Ald:PF prS:=by
 refine⟨λf hf=>by cases hf;rfl,by decide,λf hf=>?_⟩
 rw[aAU.1 hf];exact⟨by decide,by decide,(λ_ h=>by cases h),by decide,by decide,(λx hx=>by rw[aAU.1 hx];exact .ret),.inr (.inl rfl)⟩
theorem Ayv:Adk=some true:=by
 obtain⟨al,o,r,B⟩:=Ald.AwU;obtain⟨z,e,hz⟩:=Akc Ald Ald.Arj B (Ald.Amo B.hal B.ea [] nofun);have hg:cgR prS=[[]]:=rfl;have ho:o.2=0:=by
  rcases B.ho with e|⟨h,_⟩
  ·have hc:=B.ord;rw[e]at hc;obtain⟨i,n,_,_,hw⟩:=ArR Ald.gr hc;obtain⟨j,_,hm⟩:=hw
   grind
  ·exact h
 change ((SW prS []).bind _).bind _=_;rw[e];have hf:=B.fits Ald (by decide) (λf hf=>by rw[aAU.1 hf];decide) ho
 cases hz with
 | cyc h=>simp_all
 | over _ h=>omega
 | ok R rT x0 _ _ hR oT hT hx0 hb =>
  have hbl:=hb.cl;have hR0:=(hR 0 _ (show prS.Funcs[0]? =some _ from rfl)).2.2.2 rfl
  have hs:(frY prS R 0).Size=0:=by
   show(R 0).2.1.Size=0;rw[hR0];show upN 0 al=0;simp[upN]
  obtain⟨x,hx,hx1⟩:=oT.AwP ho hT 0 (by decide)
  rw[hx0]at hx1;cases hx1;have:vB (cgR prS) (((aAE prS.Funcs.length).map (frY prS R)).map (·.Size)) 0=some 0:=by
   show vB [[]] [(frY prS R 0).Size] 0=some 0;rw[hs];rfl
  rw[hx]at this;cases this;rw[hg]at hbl;simp[hbl,prS]
open Go Go.Dw Go.Proofs
theorem VG (n l:Int):Pg n l=some (decide (0<=n/\n<l)):=by
 grind [Pg]
theorem AmT (h:s∈([1,2,4,8,16]:List Int)):Ta s=some true:=by
 simp only[aAl,List.not_mem_nil,or_false]at h;rcases h with rfl|rfl|rfl|rfl|rfl<;>rfl
section
attribute [local simp] Oa aAP
variable {t:Og} {fr:NX} {i k:Nat} {x:Lo} (hi:t.Frames[i]? =some fr) (hk:fr.Code[k]? =some x) (hs:0<=fr.Size/\fr.Size<=2147483519) (hp:0<=fr.Params/\fr.Params<=8)
 include hi hk hs hp
theorem Azo (h:Aad fr.Code.length fr.Size fr.Params t.Frames.length x):Tz t i k=some 0:=by
 have hw:IntKind.i64.wrap (fr.Size+IntKind.i64.wrap (16*fr.Params))=fr.Size+16*fr.Params:=by
  grind [wrap64]
 have ins:∀ {o s k:Int},0<=o->1<=s->o+s<=k->k<=2147483647->Uo ⟨o,s⟩ k=some true:=by
  intro o s k h0 h1 h2 h3;rw[Apj];congr 1;rw[decide_eq_true_eq]
  grind [InI,Uc]
 unfold Tz;rw[NT,hi,aA,NT,hk,aA];cases h with
 | load a o s ha hsz h0 h1 =>
  obtain⟨z1,z2,z3⟩:=Adb hsz;obtain⟨a0,a1⟩:=ha;have hi:=ins h0 z2 h1 (by omega)
  simp[VG,OD,Pz,PU,NK,QA,OL,a0,a1,AmT hsz,Ow,Qz,Pk,hw,hi,Ox,Qi,OY,Oy]
 | store o b s hb hsz h0 h1 =>
  obtain⟨z1,z2,z3⟩:=Adb hsz;obtain⟨a0,a1⟩:=hb;have hi:=ins h0 z2 h1 (by omega)
  simp[VG,OD,Pz,PU,NK,QA,OL,PM,Oz,a0,a1,AmT hsz,Ow,Qz,Pk,hi,Ox,Qi,OY,Oy]
 | move o o' s hsz h0 h1 h2 h3 =>
  obtain⟨z1,z2,z3⟩:=Adb hsz;have hi:=ins h0 z2 h1 (by omega)
  have hi':=ins (k:=fr.Size+16*fr.Params) h2 z2 (by omega) (by omega)
  simp[VG,OD,Pz,PU,NK,QA,OL,PM,Oz,AmT hsz,Ow,Qz,Pk,hw,hi,hi',Ox,Qi,OY,Oy]
 | const a w ha =>
  obtain⟨a0,a1⟩:=ha;simp[VG,OD,Pz,Qr,PU,NK,QA,OL,a0,a1,Ow,Qz,Pk,Ox,Qi,OY,Oy]
 | bin op a b c h0 h1 ha hb hc =>
  obtain⟨a0,a1⟩:=ha;obtain⟨b0,b1⟩:=hb;obtain⟨c0,c1⟩:=hc;have ho:op=2\/op=3\/op=4\/op=5\/op=6\/op=7\/op=8\/op=9\/op=10\/op=11:=by omega
  rcases ho with rfl|rfl|rfl|rfl|rfl|rfl|rfl|rfl|rfl|rfl<;>simp[VG,OD,Pz,Qr,Ov,Om,OX,PU,NK,QA,OL,PM,Oz,a0,a1,b0,b1,c0,c1,Ow,Qz,Pk,Ox,Qi,OY,Oy]
 | one op a ho ha =>
  obtain⟨a0,a1⟩:=ha;rcases ho with rfl|rfl<;>simp[VG,OD,Pz,Qr,Ov,Om,OX,PU,NK,QA,OL,PM,Oz,a0,a1,Ow,Qz,Pk,Ox,Qi,OY,Oy]
 | two op a b ho ha hb =>
  obtain⟨a0,a1⟩:=ha;obtain⟨b0,b1⟩:=hb;rcases ho with rfl|rfl<;>simp[VG,OD,Pz,Qr,Ov,Om,OX,PU,NK,QA,OL,PM,Oz,a0,a1,b0,b1,Ow,Qz,Pk,Ox,Qi,OY,Oy]
 | call j h0 h1 =>
  simp[VG,OD,Pz,Qr,Ov,Om,OX,PU,NK,QA,OL,PM,Oz,h0,h1,Ow,Qz,Pk,Ox,Qi,OY,Oy]
 | jump q h0 h1 =>
  simp[VG,OD,Pz,Qr,Ov,Om,OX,PU,NK,QA,OL,PM,Oz,h0,h1,Ow,Qz,Pk,Ox,Qi,OY,Oy]
 | branch a q ha h0 h1 =>
  obtain⟨a0,a1⟩:=ha;simp[VG,OD,Pz,Qr,Ov,Om,OX,PU,NK,QA,OL,PM,Oz,a0,a1,h0,h1,Ow,Qz,Pk,Ox,Qi,OY,Oy]
 | ret =>
  simp[VG,OD,Pz,Qr,Ov,Om,OX,PU,NK,QA,OL,PM,Oz,Ow,Qz,Pk,Ox,Qi,OY,Oy]
 | trap w =>
  simp[VG,OD,Pz,Qr,Ov,Om,OX,PU,NK,QA,OL,PM,Oz,Ow,Qz,Pk,Ox,Qi,OY,Oy]
end
section
variable {t:Og} (hal:Qy t.Align=some true) (h16:16<=t.Align) (hl:1<=t.Frames.length/\t.Frames.length<=80) (hfr:∀ fr∈t.Frames,Amg t.Frames t.Align fr)
 include hal h16 hl hfr
theorem AxX (h:Amg t.Frames t.Align fr):Yx t fr=some true:=by
 have _:=hl;have _:=hfr;have hp:=h.par;have hs:=h.size;unfold Yx;rw[hal,aA,cond_true,decide_eq_true (by omega),cond_true,decide_eq_true (by omega),cond_true,decide_eq_true (by omega),cond_true,decide_eq_true (by omega),cond_true,Oa (by omega),h.al_]
 rfl
theorem AxB (hi:t.Frames[i]? =some fr):Vz t i=some 0:=by
 have h:=hfr fr (aAB hi);have hil:=(aAF.1 hi).1;have hlen:=h.len;have hsh:=AxX hal h16 hl hfr h;unfold Vz;rw[VG,decide_eq_true (by omega),aA]
 rw[NT,hi,aA,hsh,aA];unfold VO;rw[NT,hi,aA,decide_eq_false (by omega),cond_false]
 have hh:Hs (NA (λs=>YD fr t i s) 0) λr=>r=0:=by
  refine Hs.loop (λi=>∃ k:Nat,i=(k:Int)/\k<=fr.Code.length) (λi=>fr.Code.length-i.toNat) ⟨0,rfl,aAC _⟩ ?_
  rintro _ ⟨k,rfl,hk⟩;refine .dec (λhlt=>?_) λhlt=>.lft ?_
  ·obtain⟨x,hx⟩:∃ x,fr.Code[k]? =some x:=⟨fr.Code[k]'(by omega),aAA _⟩
   have hc:VA t i k=some 0:=by
    unfold VA;rw[VG,decide_eq_true (by omega),aA]
    rw[NT,hi,aA,VG,decide_eq_true (by omega),aA]
    rw[aA,hsh,aA];exact Azo hi hx h.size h.par (h.code x (aAB hx))
   rw[hc,aA,Nw (by omega)]
   exact .bne (λe=>absurd rfl e) λe=>.cnt ⟨⟨k+1,rfl,by omega⟩,by grind⟩
  ·refine .beq (λe=>by omega) λe=>?_
   obtain⟨x,hx⟩:∃ x,fr.Code[fr.Code.length-1]? =some x:=⟨fr.Code[fr.Code.length-1]'(by omega),aAA (by omega)⟩
   rw[wrap64 (by omega) (by omega),OZ _ (by omega),show((fr.Code.length:Int)-1).toNat=fr.Code.length-1 by omega,hx,aA,show XU=PA from rfl,h.last x hx,aA]
   exact .pure rfl
 obtain⟨r,h1,rfl⟩:=hh;exact h1
theorem Axm (h:Amg t.Frames t.Align fr):Adl t fr=some true:=by
 have _:=hal;have _:=h16;have _:=hl;have _:=hfr;have hlen:=h.len;have hh:Hs (NA (λs=>AcP fr t s) 0) λr=>r=true:=by
  refine Hs.loop (λi=>∃ k:Nat,i=(k:Int)/\k<=fr.Code.length) (λi=>fr.Code.length-i.toNat) ⟨0,rfl,aAC _⟩ ?_
  rintro _ ⟨k,rfl,hk⟩;refine .dec (λhlt=>?_) λhlt=>.lft (.pure rfl)
  obtain⟨x,hx⟩:∃ x,fr.Code[k]? =some x:=⟨fr.Code[k]'(by omega),aAA _⟩
  rw[NT,hx,aA,aA,Nw (by omega)]
  have fin:Hs (cnt (((k+1:Nat):Int)):Option (Int⊕Bool)) (Rnd (λi=>∃ k:Nat,i=(k:Int)/\k<=fr.Code.length) (λi=>fr.Code.length-i.toNat) (k:Int) λr=>r=true):=.cnt ⟨⟨k+1,rfl,by omega⟩,by grind⟩
  refine .beq (λe=>?_) λe=>fin
  obtain⟨g,hg,g0,g1,g2⟩:=h.call x (aAB hx) e;rw[hg,aA,wrap64 (by omega) (by omega),decide_eq_false (by omega),cond_false]
  exact fin
 obtain⟨r,h1,rfl⟩:=hh;exact h1
theorem Axp (hz:∀ fr,t.Frames[0]? =some fr->fr.Params=0):Yw t=some 0:=by
 unfold Yw;have hz0:((t.Frames.length:Int)==0)=false:=by grind
 rw[decide_eq_false (by omega),cond_false,hz0,cond_false,hal,aA]
 rw[decide_eq_false (by omega),cond_false]
 unfold ZI;have h0:t.Frames[0]? =some (t.Frames[0]'(by omega)):=aAA _
 rw[show(0:Int)=((0:Nat):Int)from rfl,NT,h0,aA,hz _ h0]
 have hh:Hs (NA (λs=>AcO t s) 0) λr=>r=0:=by
  refine Hs.loop (λi=>∃ k:Nat,i=(k:Int)/\k<=t.Frames.length) (λi=>t.Frames.length-i.toNat) ⟨0,rfl,aAC _⟩ ?_
  rintro _ ⟨k,rfl,hk⟩;refine .dec (λhlt=>?_) λhlt=>.lft ?_
  ·have hx:t.Frames[k]? =some (t.Frames[k]'(by omega)):=aAA _
   rw[AxB hal h16 hl hfr hx,aA,Nw (by omega)]
   exact .bne (λe=>absurd rfl e) λe=>.cnt ⟨⟨k+1,rfl,by omega⟩,by grind⟩
  ·refine Hs.loop (λi=>∃ k:Nat,i=(k:Int)/\k<=t.Frames.length) (λi=>t.Frames.length-i.toNat) ⟨0,rfl,aAC _⟩ ?_
   rintro _ ⟨k,rfl,hk⟩;refine .dec (λhlt=>?_) λhlt=>.lft (.pure rfl)
   have hx:t.Frames[k]? =some (t.Frames[k]'(by omega)):=aAA _
   rw[NT,hx,aA,Axm hal h16 hl hfr (hfr _ (aAB hx)),aA,Nw (by omega)]
   exact .cond (λe=>absurd e (by simp)) λe=>.cnt ⟨⟨k+1,rfl,by omega⟩,by grind⟩
 obtain⟨r,h1,rfl⟩:=hh;exact h1
end
open Go Go.Dw Go.Proofs
section
variable {g:List (List Int)} {w order done c:List Int} (hg:GrY g) (hsz:SzY g) (hw:WtY g w) (ho:TC g order done) (hl:order.length=g.length) (hcl:c.length=g.length) (hc:∀ i,i<g.length->∃ x,vB g w i=some x/\c[i]? =some x)
 include hg hw ho hl hc
theorem AxH (hi:i<g.length) (ha:c[i]? =some a):Wv g w c i=some a/\0<=a/\a<=2147483647:=by
 obtain⟨p,hp⟩:=ho.full hl hi;obtain⟨s,hs⟩:∃ s,g[i]? =some s:=⟨g[i],aAA hi⟩;have hwl:=hw.1;obtain⟨x,hx⟩:∃ x,w[i]? =some x:=⟨w[i]'(by omega),aAA _⟩
 have hxr:=hw.2 x (aAB hx);obtain⟨v,hv,hcv⟩:=hc i hi;rw[ha]at hcv;cases hcv;rw[Aqf hg ho hl hp hs hx]at hv;obtain⟨m,hm,hv⟩:=aAH.1 hv;have hmr:=AqT hw hm;split at hv
 ·cases hv;refine⟨?_,by omega,by omega⟩
  obtain⟨hrow,hrl⟩:=hg.at_ hs;have hsl:=hrow.length_le;have hh:Hs (Wv g w c i) λr=>r=x+m:=by
   unfold Wv;rw[NT,hx,aA];refine Hs.loop (λz:Int×Int=>∃ (k:Nat) (b:Int),z=((k:Int),x+b)/\k<=s.length/\(s.take k).foldlM (λa j=>(vB g w j.toNat).map (OA a)) 0=some b) (λz=>s.length-z.1.toNat) ⟨0,0,by simp,aAC _,rfl⟩ ?_
   rintro _ ⟨k,b,rfl,hk,hb⟩;unfold Ael;rw[NT,hs,aA];refine .dec (λhlt=>?_) λhge=>.lft (.pure ?_)
   ·have hk':k<s.length:=by omega
    have hj:s[k]? =some s[k]:=aAA hk';have hjm:=aAB hj;have j0:=(hrow.2 _ hjm).1;have j1:=hrl _ hjm;obtain⟨y,hy,hcy⟩:=hc s[k].toNat (by omega)
    have hyr:=Avg hw hy;rw[NT,hx,aA,aA,NT,hj,aA,OZ _ j0,hcy,aA,Nw (by omega),wrap64 (n:=x+y) (by omega) (by omega)]
    refine .cnt ⟨⟨k+1,OA b y,?_,hk',?_⟩,by grind⟩
    ·grind [OA]
    ·rw[XZ hj,List.foldlM_append,hb];simp[hy]
   ·have:k=s.length:=by omega
    subst this;rw[aAQ]at hb;show x+b=x+m;rw[Option.some.inj (hb.symm.trans hm)]
  obtain⟨r,h1,rfl⟩:=hh;exact h1
 ·cases hv
 include hcl hsz
theorem AwI:AaH g w c=some true:=by
 have hgl:=hg.len;have ned:∀ k:Nat,k<c.length->∃ a,c[k]? =some a/\Wv g w c k=some a/\0<=a/\a<=2147483647:=λk hk=>⟨c[k],aAA hk,AxH hg hw ho hl hc (by omega) (aAA hk)⟩
 have hck:AaG g w c=some 0:=by
  unfold AaG;rw[Avj hg,decide_eq_true ⟨hsz,hw⟩,aA];rw[show((c.length:Int) != (g.length:Int))=false by simp[hcl],cond_false]
  have hh:Hs (NA (λs=>AcY c g w s) 0) λr=>r=0:=by
   refine Hs.loop (λs=>∃ k:Nat,s=(k:Int)/\k<=c.length) (λs=>c.length-s.toNat) ⟨0,rfl,aAC _⟩ ?_
   rintro _ ⟨k,rfl,hk⟩;refine .dec (λhlt=>?_) λ_=>.lft ?_
   ·obtain⟨a,a1,a2,a3,a4⟩:=ned k (by omega)
    rw[NT,a1,aA,XK,decide_eq_true ⟨a3,a4⟩,aA,Nw (by omega)]
    exact .cond (λe=>absurd e (by simp)) λ_=>.cnt ⟨⟨k+1,rfl,by omega⟩,by grind⟩
   ·refine Hs.loop (λs=>∃ k:Nat,s=(k:Int)/\k<=c.length) (λs=>c.length-s.toNat) ⟨0,rfl,aAC _⟩ ?_
    rintro _ ⟨k,rfl,hk⟩;refine .dec (λhlt=>?_) λ_=>.lft (.pure rfl)
    obtain⟨a,a1,a2,a3,a4⟩:=ned k (by omega)
    rw[NT,a1,aA,a2,aA,Nw (by omega)]
    exact .dec (λe=>by omega) λ_=>.cnt ⟨⟨k+1,rfl,by omega⟩,by grind⟩
  obtain⟨r,h1,rfl⟩:=hh;exact h1
 unfold AaH;rw[hck,aA];have hh:Hs (NA (λs=>Ada c g w s) 0) λr=>r=true:=by
  refine Hs.loop (λs=>∃ k:Nat,s=(k:Int)/\k<=c.length) (λs=>c.length-s.toNat) ⟨0,rfl,aAC _⟩ ?_
  rintro _ ⟨k,rfl,hk⟩;refine .dec (λhlt=>?_) λ_=>.lft (.pure rfl)
  obtain⟨a,a1,a2,a3,a4⟩:=ned k (by omega)
  rw[NT,a1,aA,a2,aA,Nw (by omega)]
  exact .bne (λe=>absurd rfl e) λ_=>.cnt ⟨⟨k+1,rfl,by omega⟩,by grind⟩
 obtain⟨r,h1,rfl⟩:=hh;exact h1
end
open Go Go.Dw Go.Proofs
theorem AsM (hlen:f.Code.length<=10000) (hsl:f.Slots.length<=500) (hml:YT f) {Q:Nat->Int->Prop} (hg:Ri f.Slots.length g Q) (hsym:∀ (x y:Nat) r s,g[x]? =some r->g[y]? =some s->(y:Int)∈r->(x:Int)∈s) (hirr:∀ (x:Nat) r,g[x]? =some r->(x:Int)∉r):Hs (VX f g) λto=>Abu f g to:=by
 unfold VX;refine Hs.loop (λs=>∃ k:Nat,s.2=(k:Int)/\k<=f.Slots.length/\s.1.length=k/\∀ j:Nat,j<k->s.1[j]? =some (j:Int)) (λs=>f.Slots.length-s.2.toNat) ⟨0,rfl,aAC _,rfl,λj hj=>absurd hj (aAJ _)⟩ ?_
 rintro⟨to,_⟩ ⟨k,rfl,hk,htl,hto⟩;replace htl:to.length=k:=htl;replace hto:∀ j:Nat,j<k->to[j]? =some (j:Int):=hto;refine .dec (λhlt=>?_) λhge=>.lft ?_
 ·have hlt:k<f.Slots.length:=by omega
  refine .chk (by simp;omega) ?_
  rw[Nw (by omega)]
  refine .cnt ⟨⟨k+1,rfl,hlt,by simp[htl],λj hj=>?_⟩,by grind⟩
  grind
 have hkk:k=f.Slots.length:=by omega
 subst hkk;have hid:∀ j:Nat,j<f.Slots.length->NJ to j=(j:Int):=by
  grind [NJ]
 have hc0:Abu f g to:=by
  refine⟨⟨htl,λs hs=>?_⟩,λx y row hx hy he hr hyr=>?_⟩
  all_goals grind
 clear hto hid;refine(AxU hlen).bind λmv hmv=>?_
 obtain⟨hmvl,hmv⟩:=hmv;refine Hs.loop (λs=>∃ i:Nat,s.2=(i:Int)/\i<=mv.length/\Abu f g s.1) (λs=>mv.length-s.2.toNat) ⟨0,rfl,aAC _,hc0⟩ ?_
 clear hc0 htl hge;rintro⟨to,_⟩ ⟨i,rfl,hi,hc⟩;replace hc:Abu f g to:=hc;have htl:=hc.ok.1;unfold AaX;refine .dec (λhlt=>?_) λ_=>.lft (.pure hc)
 have hlt:i<mv.length:=by omega
 have hgp:mv[i]? =some mv[i]:=aAA _;have hpm:=aAI hlt;generalize mv[i]=p at hgp hpm;obtain⟨x,hx,hop,rfl⟩:=hmv p hpm;obtain⟨a0,a1,b0,b1,hsz⟩:=hml x hx hop;have hA:=QQ (to:=to) (s:=x.A) a0 (by omega)
 have hB:=QQ (to:=to) (s:=x.B) b0 (by omega)
 simp only[aAD,hgp,aA,hA,hB];have skip:Hs (RB (i:Int) to) (Rnd (λs:List Int×Int=>∃ i:Nat,s.2=(i:Int)/\i<=mv.length/\Abu f g s.1) (λs=>mv.length-s.2.toNat) (to,(i:Int)) λto=>Abu f g to):=by
  unfold RB;rw[Nw (by omega)]
  exact .cnt ⟨⟨i+1,rfl,hlt,hc⟩,by grind⟩
 refine .chk (by omega) (.chk (by omega) (.chk (by omega) (.chk (by omega) (.beq (λ_=>skip) λhne=>?_))))
 refine(Avy hg htl hsl (NJ to x.A) (NJ to x.B)).bind λr hr=>.cond (λ_=>skip) λhrt=>?_
 have hap:=hr (by simp_all)
 have nat:∀ {s:Int},0<=s->s<to.length->0<=NJ to s/\NJ to s<to.length/\Ph f (NJ to s)=Ph f s/\NJ to (NJ to s)=NJ to s:=by
  intro s h0 h1;obtain⟨j,rfl⟩:∃ j:Nat,s=(j:Int):=⟨s.toNat,by omega⟩
  exact hc.ok.2 j (by omega)
 obtain⟨qa1,qa2,qa3,qa4⟩:=nat a0 (by omega)
 obtain⟨qb1,qb2,qb3,qb4⟩:=nat b0 (by omega)
 generalize NJ to x.A=a at *;generalize NJ to x.B=b at *;unfold XW;refine Hs.loop (λs=>∃ k:Nat,s.2=(k:Int)/\k<=to.length/\s.1.length=to.length/\∀ j:Nat,j<to.length->NJ s.1 j=if j<k then Si a b (NJ to j)else NJ to j) (λs=>to.length-s.2.toNat) ⟨0,rfl,aAC _,rfl,λj _=>(by simp)⟩ ?_
 rintro⟨t2,_⟩ ⟨k,rfl,hk,h2l,h2⟩;replace h2l:t2.length=to.length:=h2l;replace h2:∀ j:Nat,j<to.length->NJ t2 j=if j<k then Si a b (NJ to j)else NJ to j:=h2
 unfold AaY;refine .dec (λhlt2=>?_) λhge2=>.lft ?_
 ·have hlt2:k<to.length:=by simp_all
  have hgk:=QQ (to:=t2) (s:=(k:Int)) (by omega) (by omega)
  rw[h2 k hlt2,if_neg (Nat.lt_irrefl _)]at hgk;refine .chk (by omega) ?_
  rw[hgk,aA];have fin:∀ q:Bool,(q=true↔NJ to k=a\/NJ to k=b)->Hs (TN (k:Int) t2 a b q) (Rnd (λs:List Int×Int=>∃ k:Nat,s.2=(k:Int)/\k<=to.length/\s.1.length=to.length/\∀ j:Nat,j<to.length->NJ s.1 j=if j<k then Si a b (NJ to j)else NJ to j) (λs=>to.length-s.2.toNat) (t2,(k:Int)) (Rnd (λs:List Int×Int=>∃ i:Nat,s.2=(i:Int)/\i<=mv.length/\Abu f g s.1) (λs=>mv.length-s.2.toNat) (to,(i:Int)) λto=>Abu f g to)):=by
   intro q hq;unfold TN;rw[Nw (by omega)]
   refine .cond (λh=>.chk (by omega) ?_) λh=>.cnt ⟨⟨k+1,rfl,hlt2,h2l,λj hj=>?_⟩,by grind⟩
   ·rw[hgk,aA];refine .cnt ⟨⟨k+1,rfl,hlt2,by simp[h2l],λj hj=>?_⟩,by grind⟩
    by_cases e:j=k
    ·simp_all[NJ,Si]
    ·have:=h2 j hj;simp only[NJ,aAD]at this ⊢
     grind
   ·show NJ t2 j=_;rw[h2 j hj]
    by_cases e:j=k
    ·simp_all[Si]
    omega
  refine .beq (λh=>fin true ⟨λ_=>.inl h,λ_=>rfl⟩) λh=>.chk (by omega) ?_
  exact fin _ ⟨λh'=>.inr (by simp_all),λh'=>by simp_all⟩
 ·have hkk:k=to.length:=by grind
  subst hkk;unfold RB;rw[Nw (by omega)]
  refine .cnt ⟨⟨i+1,rfl,hlt,?_⟩,by simp only;omega⟩
  refine hc.join hg hsym (a:=a) (b:=b) ⟨qa1,by omega⟩ ⟨qb1,by omega⟩ qa4 qb4 (by rw[qa3,qb3,hsz]) hap h2l λj hj=>?_
  simp_all
def Agg (f:Nn) (l:List (List Int)) (k:Nat):Prop:=((Ns f k).Op=16\/(Ns f k).Op=17)/\(Ns f k).A∉NP l k
theorem Axt (hf:NS f) {l:NN} (hl:RH f l.Out) (hk:k<f.Code.length):Hs (AbZ f l (k:Int)) λb=>b=true↔Agg f l.Out k:=by
 have hx:=hf.at (j:=(k:Int)) (by omega) (by omega)
 have hrow:=hl.at (j:=(k:Int)) (by omega) (by omega)
 rw[aAD]at hx hrow;have hlo:=hrow.2.1.length_le;unfold AbZ;simp only[NT,hx.1,aA,Ale,AgZ]
 by_cases hd:(Ns f k).Op=16\/(Ns f k).Op=17
 ·rw[if_pos hd];simp only[cond_true,hrow.1,aA];rw[Afj _ _ (by omega),aA]
  exact .pure ⟨λh=>⟨hd,by simp_all⟩,λh=>by simpa using h.2⟩
 ·rw[if_neg hd];exact .pure ⟨λh=>(by cases h),λh=>(hd h.1).elim⟩
theorem AxE (hf:NS f) {l:NN} (hl:RH f l.Out) {to:List Int} (hml:YT f) (htl:to.length=f.Slots.length):Hs (AbY f l to) λkeep=>keep.length=f.Code.length/\∀ k:Nat,k<f.Code.length->(NU keep k=true↔¬ Agg f l.Out k/\¬ ((Ns f k).Op=17/\NJ to (Ns f k).A=NJ to (Ns f k).B)):=by
 have hlen:=hf.len';refine Hs.loop (λs=>∃ k:Nat,s.2=(k:Int)/\k<=f.Code.length/\s.1.length=k/\∀ j:Nat,j<k->(NU s.1 j=true↔¬ Agg f l.Out j/\¬ ((Ns f j).Op=17/\NJ to (Ns f j).A=NJ to (Ns f j).B))) (λs=>f.Code.length-s.2.toNat) ⟨0,rfl,aAC _,rfl,λj hj=>absurd hj (aAJ _)⟩ ?_
 rintro⟨keep,_⟩ ⟨k,rfl,hk,hkl,hkp⟩;replace hkl:keep.length=k:=hkl;refine .dec (λhlt=>?_) λhge=>.lft (.pure ?_)
 ·have hlt:k<f.Code.length:=by omega
  have hx:=hf.at (j:=(k:Int)) (by omega) (by omega)
  rw[aAD]at hx;simp only[NT,hx.1,aA];rw[Nw (by omega)]
  have fin:∀ q:Bool,(q=true↔¬ Agg f l.Out k/\¬ ((Ns f k).Op=17/\NJ to (Ns f k).A=NJ to (Ns f k).B))->Hs (chk (keep.length+([q]:List Bool).length<=16777216) (cnt (keep++([q]:List Bool),((k+1:Nat):Int)):Option ((List Bool×Int)⊕List Bool))) (Rnd (λs:List Bool×Int=>∃ k:Nat,s.2=(k:Int)/\k<=f.Code.length/\s.1.length=k/\∀ j:Nat,j<k->(NU s.1 j=true↔¬ Agg f l.Out j/\¬ ((Ns f j).Op=17/\NJ to (Ns f j).A=NJ to (Ns f j).B))) (λs=>f.Code.length-s.2.toNat) (keep,(k:Int)) λkeep=>keep.length=f.Code.length/\∀ k:Nat,k<f.Code.length->(NU keep k=true↔¬ Agg f l.Out k/\¬ ((Ns f k).Op=17/\NJ to (Ns f k).A=NJ to (Ns f k).B))):=by
   intro q hq;refine .chk (by simp;omega) (.cnt ⟨⟨k+1,rfl,hlt,by simp[hkl],λj hj=>?_⟩,by grind⟩)
   grind [NU,List.getElem?_concat_length]
  refine(Axt hf hl hlt).bind λr hr=>.cond (λh=>?_) λh=>fin false ⟨λh=>(by cases h),λh'=>(h'.1 (hr.1 (by simp_all))).elim⟩
  have hnd:¬ Agg f l.Out k:=λh'=>by simp_all
  refine .beq (λh17=>?_) λh17=>fin true ⟨λ_=>⟨hnd,λh=>h17 h.1⟩,λ_=>rfl⟩
  obtain⟨a0,a1,b0,b1,_⟩:=hml _ hx.2 h17
  grind [OZ,QQ]
 ·have hkk:k=f.Code.length:=by omega
  subst hkk;exact⟨hkl,hkp⟩
def Zv (n:Nat) (f:Nn):Prop:=∀ x∈f.Code,x.Op=22->0<=x.A/\x.A<n
theorem Sc.calls {ps:List Int} {i most:Int} (h:Sc ps i most f) (hi:0<=i):Zv ps.length f:=by
 intro x hx hop;obtain⟨k,hk⟩:=aAG hx;have hkl:=(aAF.1 hk).1
 by_cases hk1:k+1<f.Code.length
 ·have hins:=h.body k x hk hk1;cases hins<;>grind
 ·have he:=h.last x (by grind)
  rcases he with rfl|⟨w,_,rfl⟩<;>simp at hop
theorem Atm {n:Nat} (h:Zv n f) {keep:List Bool} {to pl:List Int} (hk:f.Code.length<=keep.length):∀ x∈TJ f keep to pl f.Code.length,x.Op=22->0<=x.A/\x.A<n:=by
 intro x hx hop;obtain⟨p,hp⟩:=aAG hx;obtain⟨j,h1,_,_,rfl⟩:=(Vx (f:=f) (keep:=keep) (to:=to) (pl:=pl) _ hk).2 p x hp;have hm:Ns f (j:Nat)∈f.Code:=by
  grind [Ns]
 have ho:(mvI pl (rnI to (Ns f (j:Nat)))).Op=(Ns f (j:Nat)).Op:=by
  refine Eq.trans ?_ (Ach to _)
  grind [mvI]
 rw[ho]at hop;have e:mvI pl (rnI to (Ns f (j:Nat)))=Ns f (j:Nat):=by grind [mvI,rnI]
 rw[e];exact h _ hm hop
theorem ArE (hf:NS f) (hd:QD f) (hlast:Ty f) {n:Nat} (hc:Zv n f) {r:ND} (hr:SO f r):Hs (QB f r) λq=>q.2=0/\NS q.1/\QD q.1/\Zv n q.1:=by
 obtain⟨q,e,h1,h2,h3⟩:=AmZ hf hd hlast hr;obtain⟨q',e',_,used,to,pl,_,_,_,_,_,_,_,_,cd⟩:=Ami hf hd hr;rw[e]at e';cases e';refine⟨q,e,h1,h2,h3,?_⟩;unfold Zv;rw[cd];exact Atm hc (by rw[hr.2.1];omega)
theorem AsN (hf:NS f) (hd:QD f) (hml:YT f) {l:NN} (hacc:Acc f l.Out):Hs (Adp f l) λg=>Hs (VX f g.1) λto=>Hs (AbY f l to) λkeep=>SO f ⟨to,keep⟩:=by
 have hlen:=hf.len';have hsl:=hf.slots;refine Hs.mono (P:=Aam Alb f l.Out) ?_ λg hg=>?_
 ·exact(Apu hf hd (hacc.1.len hf) false).bind λr hr=>.pure hr
 rcases hg with⟨_,_,hg⟩|⟨_,hn,_⟩
 rotate_left
 ·simp_all
 refine(AsM hlen hsl hml hg (λx y r s hr hs hy=>((hg.2 y s hs).2 _).2 (((hg.2 x r hr).2 _).1 hy).symm) λx r hr hx=>?_).mono λto hto=>?_
 ·rcases((hg.2 x r hr).2 _).1 hx with⟨_,_,_,_,_,_,h',_⟩|⟨_,_,_,_,_,_,h',_⟩<;>exact h' rfl
 refine(AxE hf hacc.1 hml hto.ok.1).mono λkeep ⟨hkl,hkp⟩=>⟨hto.ok,hkl,λk hk h=>?_⟩
 by_cases h1:Agg f l.Out k
 ·exact h1.1
 grind
theorem AiW {i:Int} (hi:ixO p.Funcs i=some f) (hf:NS f) (hd:QD f) (hml:YT f) (hlast:Ty f) (hc:Zv p.Funcs.length f) (hp:p.Funcs.length<=1000):Hs (UD p i) λq=>SO f q.Rename/\Acc f q.Live.Out/\Qn q.LiveAfter.Out:=by
 obtain⟨i0,i1,_⟩:=WJ hi;unfold UD;rw[hi,aA];refine(AmV hf).bind λl hl=>?_
 have hacc:=hl.acc hf;refine(AsN hf hd hml hacc).bind λg hg=>hg.bind λto hto=>hto.bind λkeep hr=>?_
 refine(ArE hf hd hlast hc hr).bind λq ⟨_,qf,qd,qc⟩=>?_
 refine(AmV qf).bind λl2 hl2=>?_
 have hacc2:=hl2.acc qf;refine Hs.bind (P:=Aam AmA q.1 l2.Out) ?_ λs hs=>?_
 ·exact(Apu qf qd (hacc2.1.len qf) true).bind λr hr=>.pure hr
 have hrows:∀ row∈s.1,row.length<=512:=by
  rcases hs with⟨_,_,hs⟩|⟨_,hn,_⟩
  ·intro row hrow;obtain⟨k,hk⟩:=aAG hrow;exact(hs.2 k row hk).1.1.length_le
  simp_all
 refine(Asf hi hf.len' hc).bind λa _=>(AtH _ qf.slots hrows a).bind λo _=>.bne (λ_=>.pure ⟨hr,hacc,hacc2.1.len qf⟩) λ_=>?_
 have hset:ixO (p.Funcs.set i.toNat q.1) i=some q.1:=by
  grind [OZ]
 refine Hs.bind (P:=λr=>r=⟨p.Funcs.set i.toNat q.1⟩) ?_ λr hr'=>?_
 ·refine Hs.bind (P:=λr=>r=⟨p.Funcs.set i.toNat q.1⟩) (.chk (by simp;omega) (.chk (by simp;omega) ((Hs.get (P:=λ_=>True) i0 (by simp;omega) λ_ _=>trivial).bind λ_ _=>.pure (by simp)))) λr h=>.pure h
 subst hr';exact(AuA p hp).bind λal _=>(Auj hset qf.len' qf.slots (by grind [Zv]) al _).bind λy _=>.pure ⟨hr,hacc,hacc2.1.len qf⟩
theorem AhL (h:okC c):Hs (RL c) λp=>okC p.2/\I64 p.1:=by
 refine(NM h (by omega) (by omega)).bind λr hr=>.beq (λ_=>?_) λ_=>?_
 ·refine(NM hr.1 (by simp) (by simp)).bind λq hq=>.chk ?_ ?_
  ·omega
  ·refine(Hs.get hq.2.1 (by omega) λx hx=>aAB hx).bind λx hx=>.pure ⟨hq.1,?_⟩
   simp at hx
   grind [I64]
 ·exact(NM hr.1 (by omega) (by omega)).bind λq hq=>(NM hq.1 (by omega) (by omega)).bind λu hu=>.chk hu.2.1 (.pure ⟨hu.1,AxD _⟩)
theorem Asm (h:okC c) (hf:NS f):Hs (Wf c f) λp=>okC p.2/\p.1.Out.length<=f.Code.length/\AdB p.1.Out:=by
 have hlen:=hf.len;have hlen':=hf.len';have hsl:=hf.slots;refine(AmV hf).bind λl hl=>(NM h (by omega) (by omega)).bind λr hr=>.beq (λ_=>?_) λ_=>?_
 ·exact .pure ⟨hr.1,by have:=hl.ok.1;simp_all,YU.rows λs hs=>(hl.ok.2 s hs).1⟩
 ·refine .chk (by have:=hl.ok.1;simp;omega) ((NM hr.1 (by omega) (by omega)).bind λq hq=>?_)
  have j1:∀ {l:List Int} {a:Int} {x:List (List Int)},okC ⟨l,a⟩->x.length=f.Code.length->YU x->Hs (Uf l a x) λp=>okC p.2/\p.1.Out.length<=f.Code.length/\AdB p.1.Out:=by
   intro l a x hc hx hs;refine(NM hc (by omega) (by omega)).bind λr hr=>.beq (λ_=>?_) λ_=>.beq (λ_=>?_) λ_=>?_
   ·refine .chk (by omega) (.pure ⟨hr.1,by simp;omega,λs hm=>hs.rows s (List.mem_of_mem_drop hm)⟩)
   ·refine(AhL hr.1).bind λu hu=>(AhL hu.1).bind λv hv=>.chk (by omega) ((Hs.get (by omega) (by omega) λx hx=>hx).bind λ_ _=>.pure ⟨hv.1,by simp;omega,λs hm=>?_⟩)
    rcases aAO hm with h1|rfl
    ·exact hs.rows s h1
    simp_all
   ·exact .pure ⟨hr.1,by simp_all,hs.rows⟩
  refine Hs.loop (λs=>okC ⟨s.1,s.2.1⟩/\s.2.2.1.length=f.Code.length/\YU s.2.2.1/\0<=s.2.2.2/\s.2.2.2<4) (λs=>s.2.2.2.toNat) ⟨hq.1,by simpa using hl.ok.1,λs hs=>(hl.ok.2 s (by simp_all)).1,hq.2⟩ ?_
  rintro⟨l,a,x,n⟩ ⟨hc,hx,hs,hn0,hn1⟩;simp only at hc hx hs hn0 hn1;have w:IntKind.i64.wrap (n-1)=n-1:=wrap64 (by omega) (by omega)
  refine .dec (λhlt=>.dec (λhsl0=>?_) λ_=>.lft (j1 hc hx hs)) λ_=>.lft (j1 hc hx hs)
  have hlt:0<n:=hlt;have j4:∀ {l:List Int} {a:Int} {y:List (List Int)},okC ⟨l,a⟩->y.length=f.Code.length->YU y->Hs (Sz n l a y) (Rnd (λs:List Int×Int×List (List Int)×Int=>okC ⟨s.1,s.2.1⟩/\s.2.2.1.length=f.Code.length/\YU s.2.2.1/\0<=s.2.2.2/\s.2.2.2<4) (λs=>s.2.2.2.toNat) (‹List Int›,‹Int›,x,n) (λp:NN×Mk=>okC p.2/\p.1.Out.length<=f.Code.length/\AdB p.1.Out)):=by
   intro l a y hc hy hs;exact .cnt ⟨⟨hc,hy,hs,by grind,by grind⟩,by grind⟩
  refine(NM hc (by omega) (by omega)).bind λu hu=>(NM hu.1 (by omega) (by omega)).bind λv hv=>.beq (λ_=>?_) λ_=>?_
  ·refine Hs.loop (λs=>s.1.length=f.Code.length/\YU s.1/\0<=s.2/\s.2<=f.Code.length) (λs=>f.Code.length-s.2.toNat) ⟨hx,hs,by simp,by simp⟩ ?_
   rintro⟨y,k⟩ ⟨hy,hys,hk0,hk1⟩;refine .dec (λhk=>?_) λ_=>.lft (j4 hv.1 hy hys)
   have wk:IntKind.i64.wrap (k+1)=k+1:=wrap64 (by omega) (by omega)
   refine .chk ⟨hk0,hk⟩ ((Hs.get hk0 hk λz hz=>hys z (aAB hz)).bind λz hz=>?_)
   rw[add_eq z u.1 (by have:=hz.length_le;omega),aA]
   refine .chk ⟨hk0,hk⟩ ((Hs.get hk0 hk λz hz=>hz).bind λ_ _=>.cnt ⟨⟨by simp_all,hys.set (hz.add _),by grind,by grind⟩,by grind⟩)
  ·refine(NM hv.1 (n:=(x.length:Int)) (by omega) (by omega)).bind λk hk=>(NM hk.1 (by omega) (by omega)).bind λt ht=>.beq (λ_=>?_) λ_=>?_
   ·refine .chk hk.2 ((Hs.get hk.2.1 hk.2.2 λz hz=>hs z (aAB hz)).bind λz hz=>?_)
    rw[add_eq z u.1 (by have:=hz.length_le;omega),aA]
    exact .chk hk.2 ((Hs.get hk.2.1 hk.2.2 λz hz=>hz).bind λ_ _=>j4 ht.1 (by simp_all) (hs.set (hz.add _)))
   ·refine .chk hk.2 ((Hs.get hk.2.1 hk.2.2 λz hz=>hs z (aAB hz)).bind λz hz=>?_)
    rw[Apt z u.1 (by have:=hz.length_le;omega),aA]
    exact .chk hk.2 ((Hs.get hk.2.1 hk.2.2 λz hz=>hz).bind λ_ _=>j4 ht.1 (by simp_all) (hs.set (hz.filter _)))
theorem AtC (h:okC c) {i:Int} (hi:ixO p.Funcs i=some f) (hf:NS f) (hd:QD f) (hml:YT f) (hlast:Ty f) (hc:Zv p.Funcs.length f) (hp:p.Funcs.length<=1000) :
  Hs (UJ c p i) λq=>okC q.2/\q.1.To.length=f.Slots.length/\q.1.Keep.length=f.Code.length:=by
 have hlen:=hf.len';have hlen1:=hf.len;have hsl:=hf.slots;unfold UJ;rw[hi,aA];refine(AiW hi hf hd hml hlast hc hp).bind λq hq=>?_
 obtain⟨⟨hto,hkl,_⟩,_⟩:=hq;have htl:=hto.1;refine .chk (by simp;omega) (.chk (by simp;omega) ?_)
 have j1:∀ {l:List Int} {a:Int} {x:List Int} {y:List Bool},okC ⟨l,a⟩->x.length=f.Slots.length->y.length=f.Code.length->Hs (SS f l a x y) λq=>okC q.2/\q.1.To.length=f.Slots.length/\q.1.Keep.length=f.Code.length:=by
  intro l a x y hc hx hy;refine(NM hc (by omega) (by omega)).bind λr hr=>?_
  refine Hs.loop (λs=>okC ⟨s.1,s.2.1⟩/\s.2.2.1.length=f.Slots.length/\s.2.2.2.1.length=f.Code.length/\0<=s.2.2.2.2/\s.2.2.2.2<4) (λs=>s.2.2.2.2.toNat) ⟨hr.1,hx,hy,hr.2.1,hr.2.2⟩ ?_
  rintro⟨l,a,x,y,n⟩ ⟨hc,hx,hy,hn0,hn1⟩;replace hx:x.length=f.Slots.length:=hx;replace hy:y.length=f.Code.length:=hy;replace hn0:0<=n:=hn0;replace hn1:n<4:=hn1;have w:IntKind.i64.wrap (n-1)=n-1:=wrap64 (by omega) (by omega)
  dsimp only;refine .dec (λhp=>?_) λ_=>.lft (.pure ⟨hc,hx,hy⟩)
  have j5:∀ {l:List Int} {a:Int} {x:List Int} {y:List Bool},okC ⟨l,a⟩->x.length=f.Slots.length->y.length=f.Code.length->Hs (Pe n l a x y) (Rnd (λs:List Int×Int×List Int×List Bool×Int=>okC ⟨s.1,s.2.1⟩/\s.2.2.1.length=f.Slots.length/\s.2.2.2.1.length=f.Code.length/\0<=s.2.2.2.2/\s.2.2.2.2<4) (λs=>s.2.2.2.2.toNat) (‹List Int›,‹Int›,x,y,n) (λq:ND×Mk=>okC q.2/\q.1.To.length=f.Slots.length/\q.1.Keep.length=f.Code.length)):=by
   intro l a x y hc hx hy;unfold Pe;exact .cnt ⟨⟨hc,hx,hy,by grind,by grind⟩,by grind⟩
  refine(NM hc (by omega) (by omega)).bind λr hr=>(NM hr.1 (by omega) (by omega)).bind λu hu=>?_
  have j7:∀ {l:List Int} {a:Int} (b:Bool),okC ⟨l,a⟩->Hs (RN r y n x l a b) (Rnd (λs:List Int×Int×List Int×List Bool×Int=>okC ⟨s.1,s.2.1⟩/\s.2.2.1.length=f.Slots.length/\s.2.2.2.1.length=f.Code.length/\0<=s.2.2.2.2/\s.2.2.2.2<4) (λs=>s.2.2.2.2.toNat) (‹List Int›,‹Int›,x,y,n) (λq:ND×Mk=>okC q.2/\q.1.To.length=f.Slots.length/\q.1.Keep.length=f.Code.length)):=by
   intro l a b hc;refine .cond (λ_=>.chk (by omega) ((Hs.get (P:=λ_=>True) (by omega) (by omega) λ_ _=>trivial).bind λv _=>.chk (by omega) ((Hs.get (P:=λ_=>True) (by omega) (by omega) λ_ _=>trivial).bind λ_ _=>j5 hc hx (by simp_all)))) λ_=>j5 hc hx hy
  have j9:∀ {l:List Int} {a:Int} (b:Bool),okC ⟨l,a⟩->0<f.Slots.length\/b=false->Hs (SV f x n y l a b) (Rnd (λs:List Int×Int×List Int×List Bool×Int=>okC ⟨s.1,s.2.1⟩/\s.2.2.1.length=f.Slots.length/\s.2.2.2.1.length=f.Code.length/\0<=s.2.2.2.2/\s.2.2.2.2<4) (λs=>s.2.2.2.2.toNat) (‹List Int›,‹Int›,x,y,n) (λq:ND×Mk=>okC q.2/\q.1.To.length=f.Slots.length/\q.1.Keep.length=f.Code.length)):=by
   intro l a b hc hb;refine .cond (λe=>?_) λ_=>j5 hc hx hy
   have h0:0<f.Slots.length:=by
    simp_all
   exact(NM hc (n:=(f.Slots.length:Int)) (by omega) (by omega)).bind λs hs=>(AhL hs.1).bind λt ht=>.chk (by omega) ((Hs.get (P:=λ_=>True) (by omega) (by omega) λ_ _=>trivial).bind λ_ _=>j5 ht.1 (by simp_all) hy)
  have j6:∀ b:Bool,Hs (SU f r y n x u b) (Rnd (λs:List Int×Int×List Int×List Bool×Int=>okC ⟨s.1,s.2.1⟩/\s.2.2.1.length=f.Slots.length/\s.2.2.2.1.length=f.Code.length/\0<=s.2.2.2.2/\s.2.2.2.2<4) (λs=>s.2.2.2.2.toNat) (‹List Int›,‹Int›,x,y,n) (λq:ND×Mk=>okC q.2/\q.1.To.length=f.Slots.length/\q.1.Keep.length=f.Code.length)):=by
   intro b;refine .cond (λ_=>?_) λ_=>.beq (λ_=>.dec (λh0=>?_) λ_=>j5 hu.1 hx hy) λ_=>.beq (λ_=>.dec (λh0=>?_) λ_=>j9 false hu.1 (.inr rfl)) λ_=>j5 hu.1 hx hy
   ·refine(Hs.ix (P:=λ_=>True) hr.2.1 hr.2.2 λ_ _=>trivial).bind λz _=>.cond (λ_=>j7 true hu.1) λ_=>.cond (λ_=>j7 true hu.1) λ_=>?_
    exact(NM hu.1 (by omega) (by omega)).bind λv hv=>j7 _ hv.1
   ·refine(NM hu.1 (n:=(f.Slots.length:Int)) (by omega) (by omega)).bind λs hs=>(Asl hs.1 hs.2.1 hs.2.2 (by omega)).bind λt ht=>?_
    obtain⟨t0,t1,_⟩:=ht.2;refine .chk (by omega) ((Hs.get (P:=λ_=>True) (by omega) (by omega) λ_ _=>trivial).bind λv _=>?_)
    refine Hs.loop (λq=>∃ k:Nat,q.2=(k:Int)/\k<=f.Slots.length/\q.1.length=f.Slots.length) (λq=>f.Slots.length-q.2.toNat) ⟨0,rfl,aAC _,hx⟩ ?_
    rintro⟨z,_⟩ ⟨k,rfl,hk,hz⟩;replace hz:z.length=f.Slots.length:=hz;dsimp only;refine .dec (λhlt=>?_) λ_=>.lft (j5 ht.1 hz hy)
    have hlt:k<f.Slots.length:=by omega
    rw[Nw (by omega)]
    exact .chk (by omega) ((Hs.get (P:=λ_=>True) (by omega) (by omega) λ_ _=>trivial).bind λ_ _=>.beq (λ_=>.chk (by omega) ((Hs.get (P:=λ_=>True) (by omega) (by omega) λ_ _=>trivial).bind λ_ _=>.cnt ⟨⟨k+1,rfl,hlt,by simp_all⟩,by grind⟩)) λ_=>.cnt ⟨⟨k+1,rfl,hlt,hz⟩,by grind⟩)
   ·have h0:0<f.Slots.length:=by omega
    exact(NM hu.1 (by omega) (by omega)).bind λv hv=>j9 _ hv.1 (.inl h0)
  exact .cond (λ_=>j6 _) λ_=>j6 _
 refine(NM h (by omega) (by omega)).bind λr hr=>.cond (λ_=>?_) λ_=>j1 hr.1 (by simp_all) (by simp_all)
 refine Hs.loop (λq=>∃ k:Nat,q.2=(k:Int)/\k<=f.Slots.length/\q.1.length=f.Slots.length) (λq=>f.Slots.length-q.2.toNat) ⟨0,rfl,aAC _,by simp_all⟩ ?_
 rintro⟨x,_⟩ ⟨k,rfl,hk,hx⟩;replace hx:x.length=f.Slots.length:=hx;dsimp only;refine .dec (λhlt=>?_) λ_=>.lft ?_
 ·have hlt:k<f.Slots.length:=by omega
  rw[Nw (by omega)]
  exact .chk (by omega) ((Hs.get (P:=λ_=>True) (by omega) (by omega) λ_ _=>trivial).bind λ_ _=>.cnt ⟨⟨k+1,rfl,hlt,by simp_all⟩,by grind⟩)
 ·refine Hs.loop (λq=>∃ k:Nat,q.2=(k:Int)/\k<=f.Code.length/\q.1.length=f.Code.length) (λq=>f.Code.length-q.2.toNat) ⟨0,rfl,aAC _,by simp_all⟩ ?_
  rintro⟨y,_⟩ ⟨k,rfl,hk,hy⟩;replace hy:y.length=f.Code.length:=hy;dsimp only;refine .dec (λhlt=>?_) λ_=>.lft (j1 hr.1 hx hy)
  have hlt:k<f.Code.length:=by omega
  rw[Nw (by omega)]
  exact .chk (by omega) ((Hs.get (P:=λ_=>True) (by omega) (by omega) λ_ _=>trivial).bind λ_ _=>.cnt ⟨⟨k+1,rfl,hlt,by simp_all⟩,by grind⟩)
theorem AsZ (h:okC c) {i:Int} {al:Int} (hL:Aiv p i f al) (hlast:Ty f) (hc:Zv p.Funcs.length f) (hp:p.Funcs.length<=1000):Hs (UI c p i al) λq=>okC q.2:=by
 have hr:=XJ hL.arg (k:=f.Code.length) (aAK _);have hbl:(QE p f al).Off.length<=40:=by
  have:=(AcK hL.slots (a:=16*PI p f f.Code.length) (by omega) (k:=f.Slots.length) (aAK _)).1
  have:=hL.slots.1
  grind [QE]
 have j1:∀ {l:List Int} {a:Int} (y z:Int) {x:List Int},okC ⟨l,a⟩->x.length<=40->Hs (Ra l a y z x) λq=>okC q.2:=by
  intro l a y z x hc hx;unfold Ra;refine .chk (by simp;omega) ((NM hc (by omega) (by omega)).bind λr hr=>?_)
  refine Hs.loop (λs=>okC ⟨s.1,s.2.1⟩/\(s.2.2.1.length:Int)+s.2.2.2.2.2<=60/\0<=s.2.2.2.2.2) (λs=>s.2.2.2.2.2.toNat) ⟨hr.1,by grind,hr.2.1⟩ ?_
  rintro⟨l,a,x,y,z,n⟩ ⟨hc,hx,hn0⟩;replace hx:(x.length:Int)+n<=60:=hx;replace hn0:0<=n:=hn0;have w:IntKind.i64.wrap (n-1)=n-1:=wrap64 (by omega) (by omega)
  unfold XM;dsimp only;refine .dec (λhp=>?_) λ_=>.lft (.pure hc)
  have hp:0<n:=hp;have fin:∀ {l':List Int} {a':Int} (x':List Int) (y' z':Int),okC ⟨l',a'⟩->x'.length<=x.length+1->Hs (cnt (l',a',x',y',z',IntKind.i64.wrap (n-1)):Option ((List Int×Int×List Int×Int×Int×Int)⊕(NC×Mk))) (Rnd (λs=>okC ⟨s.1,s.2.1⟩/\(s.2.2.1.length:Int)+s.2.2.2.2.2<=60/\0<=s.2.2.2.2.2) (λs=>s.2.2.2.2.2.toNat) (l,a,x,y,z,n) λq=>okC q.2):=by
   intro l' a' x' y' z' hc' hx';exact .cnt ⟨⟨hc',by grind,by grind⟩,by grind⟩
  have hm:1<=OA 1 (x.length:Int)/\OA 1 (x.length:Int)<=70:=by grind [OA]
  refine(NM hc hm.1 (by omega)).bind λr hr=>(NM hr.1 (by omega) (by omega)).bind λu hu=>?_
  have kx:∀ {b:Bool},(b=true->r.1<(x.length:Int))->(b=true->r.1.toNat<x.length):=λhb e=>by simp_all
  have j5:∀ {l':List Int} {a':Int} (b:Bool),okC ⟨l',a'⟩->(b=true->r.1<(x.length:Int))->Hs (SR r x y z n l' a' b) (Rnd (λs=>okC ⟨s.1,s.2.1⟩/\(s.2.2.1.length:Int)+s.2.2.2.2.2<=60/\0<=s.2.2.2.2.2) (λs=>s.2.2.2.2.2.toNat) (l,a,x,y,z,n) λq=>okC q.2):=by
   intro l' a' b hc' hb;refine .cond (λe=>(AhL hc').bind λv hv=>.chk (by simp_all) ((Hs.get (P:=λ_=>True) (by omega) (by simp_all) λ_ _=>trivial).bind λ_ _=>fin _ _ _ hv.1 (by simp))) λ_=>fin _ _ _ hc' (by omega)
  have j4:∀ b:Bool,Hs (SQ r x u y z n b) (Rnd (λs=>okC ⟨s.1,s.2.1⟩/\(s.2.2.1.length:Int)+s.2.2.2.2.2<=60/\0<=s.2.2.2.2.2) (λs=>s.2.2.2.2.2.toNat) (l,a,x,y,z,n) λq=>okC q.2):=by
   intro b;refine .cond (λ_=>.dec (λhlt=>?_) λ_=>fin _ _ _ hu.1 (by omega)) λ_=>.beq (λ_=>(NM hu.1 (by omega) (by omega)).bind λv hv=>fin _ _ _ hv.1 (by omega)) λ_=>.beq (λ_=>.dec (λhlt=>(NM hu.1 (by omega) (by omega)).bind λv hv=>j5 _ hv.1 λ_=>hlt) λ_=>j5 false hu.1 λe=>by cases e) λ_=>.beq (λ_=>?_) λ_=>fin _ _ _ hu.1 (by omega)
   ·refine(NM hu.1 (n:=(x.length:Int)) (by omega) (by omega)).bind λv hv=>.chk (by omega) ((Hs.get (P:=λ_=>True) (by omega) (by omega) λ_ _=>trivial).bind λq _=>.chk (by omega) ((Hs.get (P:=λ_=>True) (by omega) (by omega) λ_ _=>trivial).bind λ_ _=>fin _ _ _ hv.1 (by simp)))
   ·refine(NM hu.1 (by omega) (by omega)).bind λv hv=>.beq (λ_=>(AhL hv.1).bind λw hw=>fin _ _ _ hw.1 (by omega)) λ_=>.beq (λ_=>(AhL hv.1).bind λw hw=>fin _ _ _ hw.1 (by omega)) λ_=>.beq (λ_=>(NM hv.1 (by omega) (by omega)).bind λw hw=>.chk (by simp;omega) (fin _ _ _ hw.1 (by simp))) λ_=>fin _ _ _ hv.1 (by omega)
  have j3:∀ b:Bool,Hs (RM r x u y z n b) (Rnd (λs=>okC ⟨s.1,s.2.1⟩/\(s.2.2.1.length:Int)+s.2.2.2.2.2<=60/\0<=s.2.2.2.2.2) (λs=>s.2.2.2.2.2.toNat) (l,a,x,y,z,n) λq=>okC q.2):=by
   intro b;refine .cond (λ_=>.dec (λhlt=>(NM hu.1 (by omega) (by omega)).bind λv hv=>.chk (by omega) ((Hs.get (P:=λ_=>True) (by omega) (by omega) λ_ _=>trivial).bind λ_ _=>fin _ _ _ hv.1 (by simp))) λ_=>fin _ _ _ hu.1 (by omega)) λ_=>.cond (λ_=>j4 _) λ_=>j4 _
  grind
 unfold UI;rw[Awt hL.hi hL.Um.len' hL.arg hL.slots hL.alok hL.al64,aA];refine(NM h (by omega) (by omega)).bind λr hr=>.cond (λ_=>?_) λ_=>j1 _ _ hr.1 hbl
 refine(AiW hL.hi hL.Um hL.defs hL.ml hlast hc hp).bind λq _=>.cond (λe=>j1 _ _ hr.1 ?_) λ_=>j1 _ _ hr.1 hbl
 grind
def shI (x:Lo):Lo:=if x.Op=20 then⟨x.Op,x.A+1,x.B,x.C,x.Imm⟩else if x.Op=21 then⟨x.Op,x.A,x.B+1,x.C,x.Imm⟩else x
theorem Aza (x:Lo):(shI x).Op=x.Op:=by
 grind [shI]
theorem Atw {code:List Lo} (hl:code.length<=1000) (h:∀ x∈code,(x.Op=20->0<=x.A/\x.A<=2000)/\(x.Op=21->0<=x.B/\x.B<=2000)):Hs (AbK code) λr=>r=code.map shI:=by
 refine .chk (by simp;omega) ?_
 rw[List.nil_append];refine Hs.loop (λs=>∃ k:Nat,s.2=(k:Int)/\k<=code.length/\s.1.length=code.length/\∀ j:Nat,s.1[j]? =(code[j]?).map λx=>if j<k then shI x else x) (λs=>code.length-s.2.toNat) ⟨0,rfl,aAC _,rfl,λj=>by simp_all⟩ ?_
 rintro⟨out,_⟩ ⟨k,rfl,hk,ho,hj⟩;replace ho:out.length=code.length:=ho;dsimp only;refine .dec (λhlt=>?_) λhge=>.lft (.pure ?_)
 ·have hk':k<code.length:=by omega
  obtain⟨x,hx⟩:∃ x,code[k]? =some x:=⟨_,aAA hk'⟩;have hok:out[k]? =some x:=by grind
  have hm:=h x (aAB hx);have get:∀ {P:Lo->Prop},P x->Hs (out[(k:Int).toNat]?) P:=λhp=>by
   rw[aAD,hok];exact .pure hp
  rw[Nw (by omega)]
  have fin:∀ y,y=shI x->∀ j:Nat,(out.set (k:Int).toNat y)[j]? =(code[j]?).map λx=>if j<k+1 then shI x else x:=by
   grind
  have two:∀ y,y=shI x->Hs (cnt (out.set (k:Int).toNat y,((k+1:Nat):Int)):Option ((List Lo×Int)⊕List Lo)) (Rnd (λs:List Lo×Int=>∃ k:Nat,s.2=(k:Int)/\k<=code.length/\s.1.length=code.length/\∀ j:Nat,s.1[j]? =(code[j]?).map λx=>if j<k then shI x else x) (λs=>code.length-s.2.toNat) (out,(k:Int)) λr=>r=code.map shI):=λy hy =>
   .cnt ⟨⟨k+1,rfl,by omega,by simp_all,fin y hy⟩,by grind⟩
  refine .chk (by omega) ((get (P:=λy=>x=y) rfl).bind ?_)
  rintro _ rfl;refine .beq (λe=>?_) λe=>.beq (λe'=>?_) λe'=>?_
  ·refine .chk (by omega) ((get (P:=λy=>x=y) rfl).bind ?_)
   rintro _ rfl;refine .chk (by omega) ((get (P:=λy=>x=y) rfl).bind ?_)
   rintro _ rfl;refine two _ ?_;unfold shI;rw[if_pos e,wrap64 (by omega) (by omega)]
  ·refine .chk (by omega) ((get (P:=λy=>x=y) rfl).bind ?_)
   rintro _ rfl;refine .chk (by omega) ((get (P:=λy=>x=y) rfl).bind ?_)
   rintro _ rfl;refine two _ ?_;unfold shI;rw[if_neg e,if_pos e',wrap64 (by omega) (by omega)]
  ·have hsx:shI x=x:=by simp_all[shI]
   refine .cnt ⟨⟨k+1,rfl,by omega,ho,λj=>?_⟩,by grind⟩
   grind
 ·have:k=code.length:=by omega
  subst this;refine List.ext_getElem? λj=>?_
  grind
theorem UL.sh {sl:List NB} {np nf:Int} {T T':Int->Prop} (h:UL sl np nf T x) (ht:∀ t,T t->T' (t+1)):UL sl np nf T' (shI x):=by
 cases h with
 | bin op a b c h1 h2 h3 h4 h5 =>
  rw[show shI ⟨op,a,b,c,0⟩=⟨op,a,b,c,0⟩by grind [shI]]
  exact .bin op a b c h1 h2 h3 h4 h5
 | one op a h1 h2 =>
  rw[show shI ⟨op,a,0,0,0⟩=⟨op,a,0,0,0⟩by grind [shI]]
  exact .one op a h1 h2
 | two op a b h1 h2 h3 =>
  rw[show shI ⟨op,a,b,0,0⟩=⟨op,a,b,0,0⟩by grind [shI]]
  exact .two op a b h1 h2 h3
 | jump t h1=>exact .jump _ (ht _ h1)
 | branch a t h1 h2=>exact .branch a _ h1 (ht _ h2)
 | store a b h1 h2 h3=>exact .store a b h1 h2 h3
 | load a b h1 h2 h3=>exact .load a b h1 h2 h3
 | move a b h1 h2 h3=>exact .move a b h1 h2 h3
 | const a w h1=>exact .const a w h1
 | param a b h1 h2 h3=>exact .param a b h1 h2 h3
 | arg a b h1 h2 h3=>exact .arg a b h1 h2 h3
 | call j h1 h2=>exact .call j h1 h2
 | ret=>exact .ret
 | trap w=>exact .trap w
theorem PF.set (h:PF p) {i:Int} {q:Nn} (hi:ixO p.Funcs i=some f) (hq:GW p.Funcs.length q) (hp:q.Params=f.Params):PF ⟨p.Funcs.set i.toNat q⟩/\ixO (⟨p.Funcs.set i.toNat q⟩:Nv).Funcs i=some q:=by
 obtain⟨i0,i1,hif⟩:=WJ hi;refine⟨⟨λg hg=>?_,by simpa using h.few,λg hg=>?_⟩,by grind [OZ]⟩
 ·rw[List.getElem?_set]at hg;split at hg
  ·rename_i e;rw[if_pos (by omega)]at hg
   cases hg;rw[hp];exact h.zero f (by simp_all)
  ·exact h.zero g hg
 ·rw[List.length_set];rcases aAO hg with hm|rfl
  ·exact h.all g hm
  ·exact hq
theorem Aub (h:okC c) {funcs most:Int} (hp:AeX funcs most p) (hm:most<=100) (hfn:funcs<=79):Hs (UH c p) λq=>okC q.2/\PF q.1:=by
 have hy:=hp.y (by omega) hfn
 have hfew:=hy.few;have hlen:∀ f∈p.Funcs,f.Code.length<=600:=λf hf=>by
  obtain⟨ps,hps,hz,hp1,hp2,hfl,hall⟩:=hp;obtain⟨j,hj⟩:=aAG hf;have:=(hall j f hj).len';omega
 refine(NM h (by omega) (by omega)).bind λr hr=>?_
 refine(Hs.ix (P:=λf=>ixO p.Funcs r.1=some f) hr.2.1 hr.2.2 λf hf=>by grind [OZ]).bind λf hi=>?_
 obtain⟨i0,i1,hif⟩:=WJ hi;have hfm:=aAB hif;have hg:=hy.all f hfm;have hl:=hlen f hfm;refine(NM hr.1 (by omega) (by omega)).bind λu hu=>?_
 refine(Atw (by omega) λx hx=>?_).bind ?_
 ·have hb:=hg.body x hx;refine⟨λe=>?_,λe=>?_⟩<;>cases hb<;>first
   | (simp at e;done)
   | (rename_i h1;simp only at h1 ⊢;omega)
   | (simp_all)
   | (simp only at e;omega)
 rintro _ rfl;have hq:GW p.Funcs.length (Nn.mk f.Params f.Slots ([Lo.mk 22 u.1 0 0 0]++f.Code.map shI)):=by
  have hcl:([Lo.mk 22 u.1 0 0 0]++f.Code.map shI).length=f.Code.length+1:=by simp
  refine⟨hg.par,hg.slots,hg.slot,by simp,by grind,λx hx=>?_,?_⟩
  ·simp only[hcl];rcases List.mem_append.1 hx with hx|hx
   ·rw[aAU.1 hx];exact .call _ hu.2.1 hu.2.2
   ·obtain⟨y,hy',rfl⟩:=aAS.1 hx;exact(hg.body y hy').sh λt ht=>by omega
  ·have h1:=hg.len;have e:Ns (Nn.mk f.Params f.Slots ([Lo.mk 22 u.1 0 0 0]++f.Code.map shI)) ((([Lo.mk 22 u.1 0 0 0]++f.Code.map shI).length-1:Nat):Int)=shI (Ns f (f.Code.length-1:Nat)):=by
    grind [Ns]
   unfold Ty;simp only[e,Aza];exact hg.last
 refine .chk (by simp;omega) ?_
 rw[Arh p _ (by omega) hr.2.1 hr.2.2,aA]
 exact .pure ⟨hu.1,(hy.set hi hq rfl).1⟩
theorem AtF (hf:NS f) (hd:QD f) (r:ND):Hs (QB f r) λq=>q.2=0->∃ used nm pl,AgO f q.1 r used nm pl:=by
 obtain⟨e,he,h1,h2⟩:=Ahj hf r
 by_cases e0:e=0
 ·exact(AoX hf hd (h2.1 e0)).mono λq hq _=>hq.2
 ·unfold QB;rw[he,aA];exact .bne (λ_=>.pure λe=>(e0 e).elim) λe=>(e0 e).elim
theorem ArT (h:okC c) (hy:PF p) {i:Int} (hi:ixO p.Funcs i=some f):Hs (VJ c p i) λq=>okC q.2/\Qn q.1.Live.Out/\Qn q.1.LiveAfter.Out:=by
 obtain⟨i0,i1,hif⟩:=WJ hi;have hg:=hy.all f (aAB hif);have hfew:=hy.few;have hf:=hg.Um;have hop:=hy.opt hi;obtain⟨al,_,ea,hal⟩:=hop.align;refine(AiW hi hf hg.defs hg.AhR hg.last hop.calls (by omega)).bind λq hq=>(NM h (by omega) (by omega)).bind λr hr=>.beq (λ_=>.pure ⟨hr.1,hq.2.1.1.len hf,hq.2.2⟩) λ_=>(NM hr.1 (by omega) (by omega)).bind λu hu=>?_
 have j4:∀ {g:Nn},GW p.Funcs.length g->g.Params=f.Params->∀ {x y:List (List Int)} (a:List Int) (b:List Bool) {l:List Int} {k:Int},okC ⟨l,k⟩->Qn x->Qn y->Hs (Sg p i g.Params g.Slots g.Code x a b q l k y) λq=>okC q.2/\Qn q.1.Live.Out/\Qn q.1.LiveAfter.Out:=by
  intro g hgg hgp x y a b l k hc hx hy';obtain⟨hps,hpi⟩:=hy.set hi hgg hgp;have hop2:=hps.opt hpi;refine(NM hc (by omega) (by omega)).bind λv hv=>.beq (λ_=>?_) λ_=>.pure ⟨hv.1,hx,hy'⟩
  rw[Arh p _ (by omega) i0 i1,aA,ea,aA]
  exact(AsZ hv.1 (hop2.lay hal) hgg.last hop2.calls (by simp;omega)).bind λw hw=>.pure ⟨hw,hx,hy'⟩
 have j3:∀ {g:Nn},GW p.Funcs.length g->g.Params=f.Params->∀ {x:List (List Int)} (a:List Int) (b:List Bool) {l:List Int} {k:Int},okC ⟨l,k⟩->Qn x->Hs (Rl p i x a b q l k g.Params g.Slots g.Code) λq=>okC q.2/\Qn q.1.Live.Out/\Qn q.1.LiveAfter.Out:=by
  intro g hgg hgp x a b l k hc hx;exact(NM hc (by omega) (by omega)).bind λv hv=>.beq (λ_=>(Asm hv.1 hgg.Um).bind λw hw=>j4 hgg hgp a b hw.1 hx (AdB.len hgg.Um hw.2.1 hw.2.2)) λ_=>j4 hgg hgp a b hv.1 hx hq.2.2
 have j2:∀ {x:List (List Int)} (a:List Int) (b:List Bool) {l:List Int} {k:Int},okC ⟨l,k⟩->Qn x->Hs (Rk p i x q l k a b) λq=>okC q.2/\Qn q.1.Live.Out/\Qn q.1.LiveAfter.Out:=by
  intro x a b l k hc hx;unfold Rk;rw[hi,aA];refine(AtF hf hg.defs ⟨a,b⟩).bind λg hgq=>.beq (λe=>?_) λ_=>j3 hg rfl a b hc hx
  obtain⟨used,nm,pl,hrw⟩:=hgq e;exact(NM hc (by omega) (by omega)).bind λv hv=>.beq (λ_=>j3 (hrw.gw hg) hrw.par a b hv.1 hx) λ_=>j3 hg rfl a b hv.1 hx
 have j1:∀ {x:List (List Int)} {l:List Int} {k:Int},okC ⟨l,k⟩->Qn x->Hs (Sf p i q l k x) λq=>okC q.2/\Qn q.1.Live.Out/\Qn q.1.LiveAfter.Out:=by
  intro x l k hc hx;exact(NM hc (by omega) (by omega)).bind λv hv=>.beq (λ_=>(AtC hv.1 hi hf hg.defs hg.AhR hg.last hop.calls (by omega)).bind λw hw=>j2 _ _ hw.1 hx) λ_=>j2 _ _ hv.1 hx
 refine .beq (λ_=>?_) λ_=>j1 hu.1 (hq.2.1.1.len hf)
 rw[hi,aA];exact(Asm hu.1 hf).bind λw hw=>j1 hw.1 (AdB.len hf hw.2.1 hw.2.2)
def ApZ (l:List NL):Prop:=∀ x∈l,Qn x.Live.Out/\Qn x.LiveAfter.Out
theorem AqZ (h:okC c) (hy:PF p):Hs (UO c p) λq=>okC q.2/\ApZ q.1:=by
 have hfew:=hy.few;refine Hs.loop (λs=>okC ⟨s.1,s.2.1⟩/\∃ k:Nat,s.2.2.2=(k:Int)/\k<=p.Funcs.length/\s.2.2.1.length=k/\ApZ s.2.2.1) (λs=>p.Funcs.length-s.2.2.2.toNat) ⟨h,0,rfl,aAC _,rfl,λx hx=>by cases hx⟩ ?_
 rintro⟨l,a,x,_⟩ ⟨hc,k,rfl,hk,hxl,hx⟩;replace hxl:x.length=k:=hxl;dsimp only;refine .dec (λhlt=>?_) λ_=>.lft ?_
 ·have hi:ixO p.Funcs (k:Int)=some (p.Funcs[k]'(by omega)):=by simp_all
  refine(ArT hc hy hi).bind λq hq=>.chk (by simp;omega) ?_
  rw[Nw (by omega)]
  refine .cnt ⟨⟨hq.1,k+1,rfl,by omega,by simp[hxl],λz hz=>?_⟩,by grind⟩
  rcases List.mem_append.1 hz with hz|hz
  ·exact hx z hz
  simp_all
 ·refine(NM hc (by omega) (by omega)).bind λr hr=>.beq (λ_=>?_) λ_=>.pure ⟨hr.1,hx⟩
  rw[wrap64 (by omega) (by omega)]
  refine(NM hr.1 (by omega) (by omega)).bind λu hu=>.chk (by omega) (.chk (by omega) (.pure ⟨hu.1,λz hz=>hx z (List.mem_of_mem_take hz)⟩))
structure AjS (n:Nat) (p:Nv):Prop where
 few:1<=p.Funcs.length/\p.Funcs.length<=4
 slots:∀ f∈p.Funcs,f.Slots.length<=n
 len:∀ f∈p.Funcs,f.Code.length<=1024
theorem AeX.raw (h:AeX 4 12 p):AjS 6 p:=by
 obtain⟨ps,_,_,h1,h2,h3,hall⟩:=h;refine⟨by omega,λf hf=>?_,λf hf=>?_⟩<;>(obtain⟨j,hj⟩:=aAG hf)
 ·exact(hall j f hj).slots
 ·have:=(hall j f hj).len';omega
theorem AjS.set {n m:Nat} (h:AjS n p) (hnm:n<=m) (hs:f.Slots.length<=m) (hl:f.Code.length<=1024):AjS m ⟨p.Funcs.set i f⟩:=by
 refine⟨by simpa using h.few,λg hg=>?_,λg hg=>?_⟩<;>rcases aAO hg with hg|rfl
 ·have:=h.slots g hg;omega
 ·exact hs
 ·exact h.len g hg
 ·exact hl
theorem Aob {α:Type} {p:Prop} [Decidable p] {x:Option α} {b:α} (h:chk p x=some b):x=some b:=by
 simp_all[chk]
theorem AsU (h:okC c) (hp:AeX 4 12 p):Hs (UH c p) λq=>okC q.2/\PF q.1/\AjS 6 q.1:=by
 obtain⟨q,e,h1,h2⟩:=Aub h hp (by omega) (by omega)
 refine⟨q,e,h1,h2,?_⟩;have hr:=hp.raw;obtain⟨r,_,e⟩:=aAH.1 e;obtain⟨f,hf,e⟩:=aAH.1 e;obtain⟨u,_,e⟩:=aAH.1 e;obtain⟨w,_,e⟩:=aAH.1 e;obtain⟨z,hz,e⟩:=aAH.1 (Aob e);cases e;obtain⟨y,hy,hz⟩:=aAH.1 hz;cases hz;obtain⟨x,_,hy⟩:=aAH.1 (Aob (Aob hy));cases hy;have hfs:=hr.slots f (aAB (WJ hf).2.2);refine⟨by simpa using hr.few,λg hg=>?_,λg hg=>(h2.all g hg).len'⟩
 rcases aAO hg with hg|rfl
 ·exact hr.slots g hg
 ·exact hfs
theorem AuQ {codes:List Int} (hc:qL (Pf .u8) codes):Hs (Aay codes) λq=>PF q.1/\ApZ q.2.1/\okC q.2.2/\AjS 6 q.1:=by
 unfold Aay;obtain⟨c,e1,hcok⟩:=AyU codes 500 hc (by omega) (by omega)
 rw[e1,aA];have j1:∀ {p:Nv} {l:List Int} {a:Int},okC ⟨l,a⟩->PF p->AjS 6 p->Hs (Xp p.Funcs l a) λq=>PF q.1/\ApZ q.2.1/\okC q.2.2/\AjS 6 q.1:=by
  intro p l a hc hy hr;exact(AqZ hc hy).bind λq hq=>.pure ⟨hy,hq.2,hq.1,hr⟩
 exact(Atp hcok (by omega) (by omega) (by omega) (by omega)).bind λp hp=>(NM hp.1 (by omega) (by omega)).bind λr hr=>.beq (λ_=>(AsU hr.1 hp.2).bind λq hq=>j1 hq.1 hq.2.1 hq.2.2) λ_=>j1 hr.1 (hp.2.y (by omega) (by omega)) hp.2.raw
theorem ArX {t:Og} (hn:t.Frames.length<=1000000):AaS t=some (t.Frames.map (·.Size)):=Amf hn
theorem ZA (codes:List Int) (hc:qL (Pf .u8) codes):Ru codes=some true:=by
 unfold Ru;obtain⟨⟨p,l,c⟩,es,hy,hl,hcc,hrw⟩:=AuQ hc;simp only[Ayv,es,aA,aAW,cond_false];replace hy:PF p:=hy;have hfew:=hy.few;have hgr:=hy.gr;have hgl:(cgR p).length=p.Funcs.length:=by simp[cgR]
 obtain⟨al,o,rB,B⟩:=hy.AwU;have hnil:∀ x∈([]:List NL),Qn x.Live.Out/\Qn x.LiveAfter.Out:=λ_ h=>by cases h
 obtain⟨z,z1,z3⟩:=Akc hy hy.Arj B (hy.Amo B.hal B.ea _ hl);obtain⟨y,y1,y3⟩:=Akc hy hy.Arj B (hy.Amo B.hal B.ea _ hnil);have hf:=λh0=>B.fits hy hrw.few.2 (λf hf=>by have:=hrw.slots f hf;omega) h0
 have ho:=B.ho;unfold Zd;rw[z1,aA,y1];cases z3 with
 | cyc h=>rw[h];rfl
 | over h1 h2=>omega
 | ok R rT x0 h1 h2 hR oT hT hx0 hbr =>
 cases y3 with
 | cyc h=>simp_all
 | over _ h4=>omega
 | ok R' rT' x0' _ _ hR' oT' hT' hx0' hbr' =>
 obtain⟨hol,done,hord⟩:o.1.length=(cgR p).length/\∃ done,TC (cgR p) o.1 done:=by
  grind
 generalize htt:(⟨al,(aAE p.Funcs.length).map (frY p R)⟩:Og)=t;have htf:t.Frames=(aAE p.Funcs.length).map (frY p R):=by rw[<- htt]
 have htl:t.Frames.length=p.Funcs.length:=by simp_all
 have w2:=ArX (t:=t) (by omega)
 have hF:∀ (i:Nat) f,p.Funcs[i]? =some f->ChY p i f al (R i):=λi f hf=>(hR i f hf).2.1
 have hfrs:∀ fr∈t.Frames,Amg t.Frames al fr:=by
  intro fr hfr;rw[htf]at hfr ⊢;obtain⟨i,hi,rfl⟩:=aAS.1 hfr;exact hy.Atc B.hal hF (aAA (aAk.1 hi))
 have hta:t.Align=al:=by rw[<- htt]
 have hck:Yw t=some 0:=by
  obtain⟨m,hm,hme⟩:=B.hal.1;refine Axp (by grind [AnN]) (by rw[hta];exact B.hal.2.1) (by omega) (by simp_all) λfr hfr=>?_
  rw[htf,aAV,aAZ (show 0<p.Funcs.length by omega)]at hfr
  cases hfr;unfold frY;rw[aAA (show 0<p.Funcs.length by omega)]
  exact hy.zero _ (aAA (by omega))
 rw[<- htf]at oT hbr;have hbl:=hbr.cl;have hbl':=hbr'.cl;have hv:=oT.AwP h1 hT;have hv':=oT'.AwP h1 hT';have htight:=AwI hgr hbr.size hbr.wt hord hol hbl hv;have hR0:∀ (i:Nat) f,p.Funcs[i]? =some f->(R' i).2.1=QE p f al:=λi f hf=>by
  rw[(hR' i f hf).2.2.2 (by grind [Vy])]
 have hle:LeW (t.Frames.map (·.Size)) (((aAE p.Funcs.length).map (frY p R')).map (·.Size)):=by
  refine⟨by simp[htl],λi x hx=>?_⟩
  have hil:=(aAF.1 hx).1;simp only[aAX,aAa]at hil;have hf:=aAA hil;have hfr:=(hy.Atc B.hal hF hf).size;simp only[aAV,aAZ hil,Option.map_some,Option.some.injEq]at hx;refine⟨(frY p R i).Size,by simp_all,hfr.1,?_⟩
  rw[<- hx];show(R i).2.1.Size<=(R' i).2.1.Size;rw[hR0 i _ hf];exact(hF i _ hf).size
 have hof:=AyZ (p:=p) (by omega) hy.short hy.calls
 simp only[aA,bne_self_eq_false,cond_false,hof,w2,hck,htight,aAW];have e1:((rT.1.length:Int) != (rT'.1.length:Int))=false:=by simp;omega
 rw[e1,cond_false,show(0:Int)=((0:Nat):Int)from rfl,NT,hx0,aA]
 simp only[bne_self_eq_false,cond_false,aAX,aAa];have hh:Hs (NA (λs=>Sj (⟨t,x0,rT.1,(aAE p.Funcs.length).map λi=>(R i).2.2.1⟩,0) (⟨⟨al,(aAE p.Funcs.length).map (frY p R')⟩,x0',rT'.1,(aAE p.Funcs.length).map λi=>(R' i).2.2.1⟩,0) (p,l,c) s) 0) λb=>b=true:=by
  refine Hs.loop (λs=>∃ k:Nat,s=(k:Int)/\k<=rT.1.length) (λs=>rT.1.length-s.toNat) ⟨0,rfl,aAC _⟩ ?_
  rintro _ ⟨k,rfl,hk⟩;refine .dec (λhlt=>?_) λ_=>.lft (.pure rfl)
  have hk':k<p.Funcs.length:=by simp_all
  obtain⟨a,ha1,ha2⟩:=hv k (by omega)
  obtain⟨b,hb1,hb2⟩:=hv' k (by omega)
  obtain⟨a',ha3,hab⟩:=AnY hle _ _ _ hb1;have:a'=a:=by
   grind [vB]
  have hf:=aAA hk';have hfr:t.Frames[k]? =some (frY p R k):=by simp_all
  have hfr':((aAE p.Funcs.length).map (frY p R'))[k]? =some (frY p R' k):=by simp[hk']
  have hs:(frY p R k).Size<=(frY p R' k).Size:=by
   show(R k).2.1.Size<=(R' k).2.1.Size;rw[hR0 k _ hf];exact(hF k _ hf).size
  have hcl:(frY p R k).Code.length<=(p.Funcs[k]'hk').Code.length:=by
   simp only[frY,aAX];exact(hR k _ hf).2.2.1
  simp only[NT,ha2,hb2,hfr,hfr',hf,aA];rw[decide_eq_false (by omega),cond_false,decide_eq_false (by omega),cond_false,decide_eq_false (by omega),cond_false,Nw (by omega)]
  exact .cnt ⟨⟨k+1,rfl,by omega⟩,by grind⟩
 obtain⟨b,e,rfl⟩:=hh;exact e
end Go.Proofs.YtcaoepecbgggcaaGreatDoor
