/-
  Plain laws about the typed programs.
-/
import Derived.Test.YtcaoepecbgggcaaGreatDoorPa
open BitVec renaming ofInt->aAP,toNat_and->aAb
open Bool renaming not_true->aAN,cond_eq_ite->aAS
open Classical renaming byContradiction->aAK,propDecidable->aAe,axiomOfChoice->aAf
open Int renaming toNat_natCast->aAB,mul_le_mul_of_nonneg_right->aAY,dvd_of_emod_eq_zero->aAc
open List renaming getElem?_eq_getElem->aAA,mem_of_getElem?->aAD,getElem?_eq_some_iff->aAE,range->aAF,getElem_mem->aAG,getElem?_of_mem->aAH,take_length->aAM,getElem?_set_self->aAO,getD_eq_getElem?_getD->aAQ,getElem?_set_ne->aAR,take_succ_eq_append_getElem->aAT,mem_map->aAU,mem_cons->aAX,mem_singleton->aAZ,pairwise_iff_getElem->aAa,getElem?_replicate->aAd,take_of_length_le->aAh,take_append_drop->aAj,mem_iff_getElem?->aAk,mem_range->aAl,getElem?_eq_none->aAm
open Nat renaming zero_le->aAC,not_lt_zero->aAI,le_refl->aAJ,pow_le_pow_right->aAL,and_sub_one_eq_zero_iff_isPowerOfTwo->aAV,two_pow_pos->aAg
open Option renaming bind_some->aA,bind_eq_some_iff->aAW,map_eq_some_iff->aAi,bind_eq_bind->aAn
namespace Go.Proofs.YtcaoepecbgggcaaGreatDoor
open Go Go.Dw Go.Proofs
variable {sl:List NS} {ps to:List Int} {x:Mk} {f:Lo} {k:Nat} {r:NV} {l:List (List Int)}
def TD (a:Int):Prop:=0<=a/\a<8
inductive Xd (sl:List NS) (np nf:Int) (T:Int->Prop):Mk->Prop
 | store (a b:Int):0<=a->a<sl.length->TD b->Xd sl np nf T ⟨16,a,b,0,0⟩
 | load (a b:Int):TD a->0<=b->b<sl.length->Xd sl np nf T ⟨15,a,b,0,0⟩
 | move (a b:Int):AqQ sl a b->0<=b->b<sl.length->Xd sl np nf T ⟨17,a,b,0,0⟩
 | const (a w:Int):TD a->Xd sl np nf T ⟨0,a,0,0,w⟩
 | bin (op a b c:Int):2<=op->op<12->TD a->TD b->TD c->Xd sl np nf T ⟨op,a,b,c,0⟩
 | one (op a:Int):(op=13\/op=14)->TD a->Xd sl np nf T ⟨op,a,0,0,0⟩
 | two (op a b:Int):(op=1\/op=12)->TD a->TD b->Xd sl np nf T ⟨op,a,b,0,0⟩
 | param (a b:Int):TD a->0<=b->b<np->Xd sl np nf T ⟨19,a,b,0,0⟩
 | arg (a b:Int):0<=a->a<8->TD b->Xd sl np nf T ⟨18,a,b,0,0⟩
 | call (j:Int):0<=j->j<nf->Xd sl np nf T ⟨22,j,0,0,0⟩
 | jump (t:Int):T t->Xd sl np nf T ⟨20,t,0,0,0⟩
 | branch (a t:Int):TD a->T t->Xd sl np nf T ⟨21,a,t,0,0⟩
 | ret:Xd sl np nf T ⟨23,0,0,0,0⟩
 | trap (w:Int):Xd sl np nf T ⟨24,0,0,0,w⟩
theorem Reg.w {a:Int} (h:Reg a):TD a:=⟨h.1,by have:=h.2;omega⟩
theorem Qc.w {np i:Int} {T:Int->Prop} (h:Qc sl np i ps T x) (hi: -1<=i):Xd sl np ps.length T x:=by
 cases h with
 | store a b h1 h2 h3=>exact .store a b h1 h2 h3.w
 | load a b h1 h2 h3=>exact .load a b h1.w h2 h3
 | move a b h1 h2 h3=>exact .move a b h1 h2 h3
 | const a w h1 h2=>exact .const a w h1.w
 | bin op a b c h1 h2 h3 h4 h5 h6=>exact .bin op a b c h1 h2 h3.w h4.w ⟨h5,h6⟩
 | out a h1=>exact .one 14 a (.inr rfl) h1.w
 | un op a h1 h2 =>
  rcases h1 with rfl|rfl|rfl
  ·exact .one 13 a (.inl rfl) h2.w
  ·exact .two 12 a 0 (.inr rfl) h2.w ⟨by omega,by omega⟩
  ·exact .two 1 a 0 (.inl rfl) h2.w ⟨by omega,by omega⟩
 | param a b h1 h2 h3=>exact .param a b h1.w h2 h3
 | arg a b h1 h2 h3=>exact .arg a b h1 (by omega) h3.w
 | call j h1 h2=>exact .call j (by omega) h2
 | jump q h1=>exact .jump q h1
 | branch a q h1 h2=>exact .branch a q h1.w h2
theorem Afy.w {np nf:Int} {T:Int->Prop} (h:Afy x):Xd sl np nf T x:=by
 rcases h with rfl|⟨w,_,rfl⟩
 ·exact .ret
 ·exact .trap w
theorem Xd.rn {sl':List NS} {np nf:Int} {T T':Int->Prop} (h:Xd sl np nf T x) {pl:List Int} (hs:∀ s∈OD x,0<=rnS to s/\rnS to s<sl'.length) (hz:x.Op=17->AqQ sl' (rnS to x.A) (rnS to x.B)) (ht:∀ t,T t->T' ((pl[t.toNat]?).getD 0)) :
  Xd sl' np nf T' (mvI pl (rnI to x)):=by
 cases h with
 | store a b h1 h2 h3 =>
  have:=hs a (by simp[OD])
  exact .store _ _ this.1 this.2 h3
 | load a b h1 h2 h3 =>
  have:=hs b (by simp[OD,Pr])
  exact .load _ _ h1 this.1 this.2
 | move a b h1 h2 h3 =>
  have:=hs b (by simp[OD,Pr])
  exact .move _ _ (hz rfl) this.1 this.2
 | const a w h1=>exact .const a w h1
 | bin op a b c h1 h2 h3 h4 h5 =>
  have:mvI pl (rnI to ⟨op,a,b,c,0⟩)=⟨op,a,b,c,0⟩:=by grind [mvI,rnI]
  rw[this];exact .bin op a b c h1 h2 h3 h4 h5
 | one op a h1 h2 =>
  have:mvI pl (rnI to ⟨op,a,0,0,0⟩)=⟨op,a,0,0,0⟩:=by grind [mvI,rnI]
  rw[this];exact .one op a h1 h2
 | two op a b h1 h2 h3 =>
  have:mvI pl (rnI to ⟨op,a,b,0,0⟩)=⟨op,a,b,0,0⟩:=by grind [mvI,rnI]
  rw[this];exact .two op a b h1 h2 h3
 | param a b h1 h2 h3=>exact .param a b h1 h2 h3
 | arg a b h1 h2 h3=>exact .arg a b h1 h2 h3
 | call j h1 h2=>exact .call j h1 h2
 | jump q h1=>exact .jump _ (ht _ h1)
 | branch a q h1 h2=>exact .branch a _ h1 (ht _ h2)
 | ret=>exact .ret
 | trap w=>exact .trap w
structure GW (nf:Int) (f:Lo):Prop where
 par:0<=f.Params/\f.Params<=8
 slots:f.Slots.length<=40
 slot:∀ s∈f.Slots,Aee s
 len:1<=f.Code.length
 len':f.Code.length<=1024
 body:∀ x∈f.Code,Xd f.Slots f.Params nf (λt=>0<=t/\t<f.Code.length) x
 last:XH f
structure Ra (p:NM):Prop where
 zero:∀ f,p.Funcs[0]? =some f->f.Params=0
 few:1<=p.Funcs.length/\p.Funcs.length<=80
 all:∀ f∈p.Funcs,GW p.Funcs.length f
theorem Sm.gw {i most:Int} (h:Sm ps i most f) (hi: -1<=i) (hm:most<=200) (hps:Aln ps):GW ps.length f:=by
 have hp:=hps.1 _ (aAD h.par);refine⟨⟨hp.1,by omega⟩,by have:=h.slots;omega,λs hs=>(h.slot s hs).wide,h.len,by have:=h.len';omega,λx hx=>?_,h.AyS⟩
 obtain⟨k,hx⟩:=aAH hx;have hk:=(aAE.1 hx).1
 by_cases e:k+1<f.Code.length
 ·exact(h.body k x hx e).w hi
 ·exact(h.last x (by grind)).w
theorem AhV.y {funcs most:Int} {p:NM} (h:AhV funcs most p) (hm:most<=200) (hfn:funcs<=79):Ra p:=by
 obtain⟨ps,hps,hz,hp1,hp2,hfl,hall⟩:=h;refine⟨λf hf=>?_,by omega,λf hf=>?_⟩
 ·have:=(hall 0 f hf).par;simp_all
 ·obtain⟨j,hj⟩:=aAH hf;have:=(hall j f hj).gw (by omega) hm hps
  simp_all
section
variable {nf:Int} {f:Lo} (h:GW nf f)
 include h
theorem GW.AyZ:AaY f.Slots:=⟨h.slots,λx hx=>(h.slot x hx).al⟩
theorem GW.defs:Rx f:=by
 intro x hx hop;have hb:=h.body x hx;cases hb with
 | store a b h1 h2 h3=>simp_all
 | move a b h1 h2 h3=>exact⟨h1.1,h1.2.1⟩
 | bin op a b c h1 h2=>grind
 | one op a h1=>grind
 | two op a b h1=>grind
 | _=>simp at hop
theorem GW.AnG:Acs f:=by
 intro x hx hop;have hb:=h.body x hx;cases hb with
 | move a b h1 h2 h3 =>
  obtain⟨q0,q1,x,y,e1,e2,e3⟩:=h1
  grind [Pm]
 | bin op a b c h1 h2=>simp_all
 | one op a h1=>simp_all
 | two op a b h1=>simp_all
 | _=>simp at hop
theorem GW.calls:Aes nf.toNat f:=by
 intro x hx hop;have hb:=h.body x hx;cases hb<;>grind
theorem GW.RX:Ot f:=by
 have hl:=h.len;have hl':=h.len';have hs:=h.slots;refine⟨hl,by omega,by omega,λk x hx j hj=>?_,λx hx v hv=>?_⟩
 ·have hk:=(aAE.1 hx).1;have hlast:k+1=f.Code.length->x.Op=20\/x.Op=23\/x.Op=24:=λe=>by
   have:=h.last
   grind [NI,XH]
  have hb:=h.body x (aAD hx);have hT:(x.Op=20->0<=x.A/\x.A<f.Code.length)/\(x.Op=21->0<=x.B/\x.B<f.Code.length):=by
   cases hb<;>grind
  grind [Ri]
 ·have hb:=h.body x hx;cases hb<;>grind [Pr]
end
theorem Ra.args {p:NM} (h:Ra p) (hf:f∈p.Funcs):Abr p f:=by
 intro x hx;have hb:=(h.all f hf).body x hx;cases hb with
 | arg a b h1 h2 h3=>simp_all
 | call j h1 h2 =>
  refine⟨λe=>by simp at e,λ_=>⟨h1,?_⟩⟩
  have hg:p.Funcs[j.toNat]? =some (p.Funcs[j.toNat]'(by omega)):=aAA _
  exact⟨_,hg,(h.all _ (aAG _)).par⟩
 | bin op a b c h1 h2=>grind
 | one op a h1=>grind
 | two op a b h1=>grind
 | _=>exact⟨λe=>by simp at e,λe=>by simp at e⟩
open Go Go.Dw Go.Proofs
theorem AwG {keep:List Bool} (h:k<keep.length):keep[k]? =some (Oi keep k):=by simp[Oi,h]
theorem Ahf {keep:List Bool} (h:k<keep.length):kept keep (k+1)=kept keep k+(if Oi keep k=true then 1 else 0):=Yg (AwG h)
theorem AwH {keep:List Bool} {j:Nat} (hj:j<keep.length) (hk:k<keep.length) (h1:Oi keep j=true) (h2:Oi keep k=true) (h:kept keep j=kept keep k):j=k:=by
 rcases Nat.lt_trichotomy j k with c|c|c
 ·have a:=AeH (keep:=keep) (j:=j+1) (k:=k) (by omega) (by omega)
  rw[Ahf hj,if_pos h1]at a;omega
 ·exact c
 ·have a:=AeH (keep:=keep) (j:=k+1) (k:=j) (by omega) (by omega)
  rw[Ahf hk,if_pos h2]at a;omega
structure AiS (f g:Lo) (r:NV) (used nm pl:List Int):Prop where
 rw:SB f r
 usd:Ow f.Slots.length used
 nms:∀ k:Nat,k<f.Code.length->Oi r.Keep k=true->∀ v∈OD (rnI r.To (NI f k)),v∈used
 nl:nm.length=r.To.length
 num:∀ (s:Nat) x,nm[s]? =some x->0<=x/\(Oa r.To s∈used->used[x.toNat]? =some (Oa r.To s))
 pll:pl.length=r.Keep.length
 plc:∀ j:Nat,j<r.Keep.length->pl[j]? =some (kept r.Keep j:Int)
 sl:g.Slots.length=used.length
 par:g.Params=f.Params
 code:g.Code=Tj f r.Keep nm pl f.Code.length
 sls:Ads f used g.Slots
section
variable {f g:Lo} {r:NV} {used nm pl:List Int} (h:AiS f g r used nm pl)
 include h
theorem AiS.len:g.Code.length=kept r.Keep f.Code.length:=by
 rw[h.code];exact(Xt (f:=f) (keep:=r.Keep) (to:=nm) (pl:=pl) _ (by have:=h.rw.2.1;omega)).1
theorem AiS.back {p:Nat} (hx:g.Code[p]? =some x):∃ j:Nat,j<f.Code.length/\Oi r.Keep j=true/\kept r.Keep j=p/\x=mvI pl (rnI nm (NI f j)):=by
 rw[h.code]at hx;exact(Xt (f:=f) (keep:=r.Keep) (to:=nm) (pl:=pl) _ (by have:=h.rw.2.1;omega)).2 p x hx
theorem AiS.at {j:Nat} (hj:j<f.Code.length) (hk:Oi r.Keep j=true):g.Code[kept r.Keep j]? =some (mvI pl (rnI nm (NI f j))):=by
 have hkl:=h.rw.2.1;have h1:=Ahf (keep:=r.Keep) (k:=j) (by omega)
 rw[if_pos hk]at h1;have h2:=AeH (keep:=r.Keep) (j:=j+1) (k:=f.Code.length) (by omega) (by omega)
 have hl:=h.len;have hg:g.Code[kept r.Keep j]? =some (g.Code[kept r.Keep j]'(by omega)):=aAA _
 obtain⟨j',a,b,c,d⟩:=h.back hg
 grind [AwH]
theorem AiS.nmS {s:Int} (h0:0<=s) (h1:s<f.Slots.length):rnS nm s=Oa nm s/\0<=Oa nm s/\(Oa r.To s∈used->used[(Oa nm s).toNat]? =some (Oa r.To s)):=by
 have htl:=h.rw.1.1;have hnl:=h.nl;have hg:=QP (to:=nm) (s:=s) h0 (by omega)
 obtain⟨q1,q2⟩:=h.num s.toNat _ hg;rw[Int.toNat_of_nonneg h0]at q2;simp_all[rnS]
theorem AiS.slot {s:Int} (h0:0<=s) (h1:s<f.Slots.length) (hu:Oa r.To s∈used):(Oa nm s).toNat<g.Slots.length/\∃ y,g.Slots[(Oa nm s).toNat]? =some y/\y.Size=Pm f s:=by
 obtain⟨_,q1,q2⟩:=h.nmS h0 h1;have q2:=q2 hu;have hl:=(aAE.1 q2).1;have hsl:=h.sl;refine⟨by omega,g.Slots[(Oa nm s).toNat]'(by omega),aAA _,?_⟩
 obtain⟨u,x,e1,e2,e3,_⟩:=h.sls (Oa nm s).toNat _ (aAA (by omega))
 rw[q2]at e1;obtain rfl:=Option.some.inj e1;have:=(h.rw.1.2 s.toNat (by have:=h.rw.1.1;omega)).2.2.1
 grind [AaB]
end
theorem AiS.gw {nf:Int} {g:Lo} {used nm pl:List Int} (h:AiS f g r used nm pl) (hg:GW nf f):GW nf g:=by
 have hf:=hg.RX;have hd:=hg.defs;have hml:=hg.AnG;have hkl:=h.rw.2.1;have hlen:=h.len;have hl1:=hg.len;have hl2:=hg.len';have hsl:=hg.slots;have hk0:=Aio hf hg.last h.rw (t:=0) (by omega)
 have hkl2:=AfK r.Keep f.Code.length;have hul:=AhW (l:=used) (a:=0) (n:=f.Slots.length) h.usd.1.1 λx hx=>⟨(h.usd.1.2 x hx).1,h.usd.2 x hx⟩
 have hgs:=h.sl;refine⟨by rw[h.par];exact hg.par,by omega,λy hy=>?_,by omega,by omega,λx hx=>?_,?_⟩
 ·obtain⟨j,hj⟩:=aAH hy;obtain⟨u,x,_,e2,e3,t,ht,e4⟩:=h.sls j y hj;have a:=hg.slot x (aAD e2);have b:=hg.slot t ht;exact⟨by rw[e3];exact a.1,by rw[e4];exact b.2⟩
 ·obtain⟨p,hx⟩:=aAH hx;obtain⟨j,hj,hk,hp,rfl⟩:=h.back hx;have hc:=(hf.at (j:=(j:Int)) (by omega) (by omega))
  have hnames:∀ s∈OD (NI f j),0<=s/\s<f.Slots.length/\Oa r.To s∈used:=λs hs=>by
   obtain⟨a,b⟩:=Ahg hf hd hc.2 hs;have:=h.nms j hj hk (rnS r.To s) ((AdH _ _ _).2 ⟨s,hs,rfl⟩);rw[(h.rw.1.rng a b).2.2]at this;simp_all
  have hin:∀ s∈OD (NI f j),0<=rnS nm s/\rnS nm s<g.Slots.length/\∃ y,g.Slots[(rnS nm s).toNat]? =some y/\y.Size=Pm f s:=λs hs=>by
   obtain⟨a,b,c⟩:=hnames s hs;obtain⟨e,q,_⟩:=h.nmS a b;obtain⟨e1,e2⟩:=h.slot a b c;simp_all
  rw[h.par];refine(hg.body _ hc.2).rn (λs hs=>⟨(hin s hs).1,(hin s hs).2.1⟩) (λh17=>?_) λt ht=>?_
  ·obtain⟨a1,a2,y,a3,a4⟩:=hin (NI f j).A (by grind [OD])
   obtain⟨_,_,z,b3,b4⟩:=hin (NI f j).B (by grind [OD,Pr])
   refine⟨a1,a2,y,z,a3,b3,?_⟩;rw[a4,b4];exact(hml _ hc.2 h17).2.2.2.2
  ·rw[h.plc t.toNat (by omega)]
   have:=Aio hf hg.last h.rw (t:=t.toNat) (by omega)
   simp_all
 ·have hk:Oi r.Keep (f.Code.length-1)=true:=by
   cases e:Oi r.Keep (f.Code.length-1)
   ·have:=h.rw.2.2 _ (by omega) e
    have hlast:=hg.last
    grind [XH]
   ·rfl
  have hat:=h.at (j:=f.Code.length-1) (by omega) hk
  have hs:=Ahf (keep:=r.Keep) (k:=f.Code.length-1) (by omega)
  rw[if_pos hk,show f.Code.length-1+1=f.Code.length by omega]at hs
  have hlast:=hg.last
  grind [XH,NI,AlA,Adh]
theorem AuF (hf:Ot f) (hd:Rx f) (hr:SB f r):Hs (Rq f r) λq=>q.2=0/\∃ used nm pl,AiS f q.1 r used nm pl :=
 (Apm hf hd hr).mono λ_q ⟨h0,used,to,pl,u1,u2,n1,n2,p1,p2,sl,pr,cd,sa⟩=>⟨h0,used,to,pl,hr,u1,u2,n1,n2,p1,p2,sl,pr,cd,sa⟩
open Go Go.Dw Go.Proofs
theorem Axl (f:Lo) (to:List Int) (hsl:f.Slots.length<=500):Hs (XN f to) λb=>b=true↔AfS f to:=by
 unfold XN;refine .bne (λh=>.pure ⟨λh'=>(by cases h'),λh'=>(h (by rw[h'.1])).elim⟩) λh=>?_
 have hl:to.length=f.Slots.length:=by omega
 refine Hs.loop (λi=>∃ k:Nat,i=(k:Int)/\k<=to.length/\∀ s:Nat,s<k->0<=Oa to s/\Oa to s<to.length/\Pm f (Oa to s)=Pm f s/\Oa to (Oa to s)=Oa to s) (λi=>to.length-i.toNat) ⟨0,rfl,aAC _,λs hs=>absurd hs (aAI _)⟩ ?_
 rintro _ ⟨k,rfl,hk,hall⟩;unfold AaH;refine .dec (λhlt=>?_) λhge=>.lft (.pure ⟨λ_=>⟨hl,λs hs=>hall s (by omega)⟩,λ_=>rfl⟩)
 have hlt:k<to.length:=by omega
 have hg:to[k]? =some (Oa to k):=by have:=QP (to:=to) (s:=k) (by omega) (by omega);simp_all
 rw[Ov,hg,aA];have no:∀ {p:Prop},¬ p->(AfS f to->p)->Hs (lft (some false):Option (Int⊕Bool)) (Rnd (λi=>∃ k:Nat,i=(k:Int)/\k<=to.length/\∀ s:Nat,s<k->0<=Oa to s/\Oa to s<to.length/\Pm f (Oa to s)=Pm f s/\Oa to (Oa to s)=Oa to s) (λi=>to.length-i.toNat) (k:Int) λb=>b=true↔AfS f to) :=
  λhp hq=>.lft (.pure ⟨λh=>(by cases h),λh=>(hp (hq h)).elim⟩)
 refine .dec (λh0=>no (p:=0<=Oa to k) (by omega) λh=>(h.2 k hlt).1) λh0=>?_
 refine .dec (λh1=>no (p:=Oa to k<to.length) (by omega) λh=>(h.2 k hlt).2.1) λh1=>?_
 refine Hs.bind (Hs.ix (i:=Oa to k) (P:=λx=>x.Size=Pm f (Oa to k)) (by omega) (by omega) λx hx=>AaB hx) λa ha=>?_
 refine Hs.bind (Hs.ix (i:=(k:Int)) (P:=λx=>x.Size=Pm f k) (by omega) (by omega) λx hx=>AaB hx) λb hb=>?_
 rw[ha,hb];refine .bne (λh2=>no h2 λh=>(h.2 k hlt).2.2.1) λh2=>?_
 rw[Ps _ (by omega),QP (by omega) (by omega),aA]
 refine .bne (λh3=>no h3 λh=>(h.2 k hlt).2.2.2) λh3=>?_
 rw[NP (by omega)]
 refine .cnt ⟨⟨k+1,rfl,hlt,λs hs=>?_⟩,by grind⟩
 grind
theorem Ajv (hf:Ot f) (r:NV):Hs (Wq f r) λe=>(e=0\/e=12)/\(e=0↔SB f r):=by
 have hlen:=hf.len';refine(Axl f r.To hf.slots).bind λb hb=>.cond (λh=>.pure ⟨.inr rfl,λh=>by omega,λh'=>?_⟩) λh=>?_
 ·rw[hb.2 h'.1]at h;cases h
 have hv:AfS f r.To:=hb.1 (by simp_all)
 refine .bne (λh=>.pure ⟨.inr rfl,λh=>by omega,λh'=>(h (by rw[h'.2.1])).elim⟩) λh=>?_
 have hkl:r.Keep.length=f.Code.length:=by omega
 refine Hs.loop (λi=>∃ k:Nat,i=(k:Int)/\k<=f.Code.length/\∀ j:Nat,j<k->Oi r.Keep j=false->(NI f j).Op=16\/(NI f j).Op=17) (λi=>f.Code.length-i.toNat) ⟨0,rfl,aAC _,λs hs=>absurd hs (aAI _)⟩ ?_
 rintro _ ⟨k,rfl,hk,hall⟩;refine .dec (λhlt=>?_) λhge=>.lft (.pure ⟨.inl rfl,λ_=>⟨hv,hkl,λj hj=>hall j (by omega)⟩,λ_=>rfl⟩)
 have hlt:k<f.Code.length:=by omega
 have hx:=hf.at (j:=(k:Int)) (by omega) (by omega)
 rw[aAB]at hx;have hg:r.Keep[k]? =some (Oi r.Keep k):=by grind [Oi]
 have stp:(Oi r.Keep k=false->(NI f k).Op=16\/(NI f k).Op=17)->∀ j:Nat,j<k+1->Oi r.Keep j=false->(NI f j).Op=16\/(NI f j).Op=17:=by
  grind
 simp only[Ov,hx.1,hg,aA];rw[NP (by omega)]
 refine .cond (λh=>?_) λh=>.cnt ⟨⟨k+1,rfl,hlt,stp λh'=>by simp_all⟩,by grind⟩
 have hkf:Oi r.Keep k=false:=by simp_all
 unfold Yk;rw[Aij,aA,aA]
 by_cases hd:(NI f k).Op=16\/(NI f k).Op=17
 ·rw[if_pos hd];exact .cnt ⟨⟨k+1,rfl,hlt,stp λ_=>hd⟩,by grind⟩
 ·rw[if_neg hd];exact .lft (.pure ⟨.inr rfl,λh=>by omega,λh=>(hd (h.2.2 k hlt hkf)).elim⟩)
attribute [local simp] Ou aAS
def AkO (v:Int):Nat->List Int->Int
 | _,[]=>-1
 | a,x::r=>if v=x then a else AkO v (a+1) r
theorem AwD (s:List Int) (v:Int) (hs:s.length<=9223372036854775807):Tq s v=some (AkO v 0 s):=by
 unfold Tq;refine Sf s (λ(_:Nat) i=>i) (λa i=>a=i) (λa l=>some (AkO v a l)) (λ_ _=>⟨-1,by simp[TI],by simp[AkO]⟩) (λa i x r ha hd hi hx=>?_) 0 rfl
 subst ha;have w:=NP (show a<9223372036854775807 by omega)
 obtain⟨_,rfl⟩:=aAE.1 hx
 by_cases h:v=s[a]
 all_goals simp_all[TI,AkO]
theorem Art (v:Int):∀ (a:Nat) (s:List Int),v∈s->∃ i:Nat,AkO v a s=((a+i:Nat):Int)/\s[i]? =some v
 | a,[],h=>by cases h
 | a,x::r,h=>by
  simp only[AkO]
  by_cases e:v=x
  ·rw[if_pos e];exact⟨0,rfl,by rw[e];rfl⟩
  ·obtain⟨i,h1,h2⟩:=Art v (a+1) r ((aAX.1 h).resolve_left e);exact⟨i+1,by omega,by simp_all⟩
theorem AxL (to:List Int) (s:Int):QH s to=some (rnS to s):=by
 unfold QH rnS
 by_cases h0:s<0
 ·grind
 ·rw[decide_eq_false h0,cond_false]
  by_cases h1:s>=(to.length:Int)
  ·grind
  ·rw[decide_eq_false h1,cond_false,if_pos (by omega),Ps _ (by omega),QP (by omega) (by omega)]
   rfl
theorem AxK (x:Mk) (to:List Int):XP x to=some (rnI to x):=by
 unfold XP rnI;simp only[AxL,aA]
 grind
def VS (f:Lo) (keep:List Bool) (to:List Int) (k:Nat):List Mk:=(aAF k).filterMap λj=>if Oi keep j=true then some (rnI to (NI f (j:Nat)))else none
theorem Aun (f:Lo) (keep:List Bool) (to:List Int) (k:Nat):VS f keep to (k+1)=VS f keep to k++(if Oi keep k=true then[rnI to (NI f (k:Nat))]else[]):=by
 grind [VS,List.range_succ]
theorem AkQ (f:Lo) (keep:List Bool) (to:List Int) (k:Nat):(VS f keep to k).length<=k:=by
 grind [VS]
theorem Avw (f:Lo) (keep:List Bool) (to pl:List Int) (k:Nat):Tj f keep to pl k=(VS f keep to k).map (mvI pl):=by
 unfold Tj VS;rw[List.map_filterMap];simp_all
section
variable {f:Lo}
theorem Ark (hf:Ot f) (hkl:r.Keep.length=f.Code.length) (to:List Int):Yc f r to=some (VS f r.Keep to f.Code.length):=by
 have hlen:=hf.len';have key:Hs (Yc f r to) λl=>l=VS f r.Keep to f.Code.length:=by
  refine Hs.loop (λs=>∃ k:Nat,s.2=(k:Int)/\k<=f.Code.length/\s.1=VS f r.Keep to k) (λs=>f.Code.length-s.2.toNat) ⟨0,rfl,aAC _,rfl⟩ ?_
  rintro⟨_,_⟩ ⟨k,rfl,hk,rfl⟩;refine .dec (λhlt=>?_) λhge=>.lft (.pure ?_)
  ·have hlt:k<f.Code.length:=by omega
   have hx:=hf.at (j:=(k:Int)) (by omega) (by omega)
   rw[aAB]at hx;have hg:r.Keep[k]? =some (Oi r.Keep k):=by grind [Oi]
   have hs:=Aun f r.Keep to k;have hl:=AkQ f r.Keep to k;simp only[Ov,hx.1,aA];refine .dec (λ_=>?_) λh=>by omega
   rw[hg,aA];unfold WX;rw[AxK,NP (by omega)]
   refine .cond (λh=>?_) λh=>?_
   ·rw[if_pos h]at hs;exact .chk (by simp;omega) (.cnt ⟨⟨k+1,rfl,hlt,hs.symm⟩,by grind⟩)
   ·rw[if_neg (by simp_all),List.append_nil]at hs
    exact .cnt ⟨⟨k+1,rfl,hlt,hs.symm⟩,by grind⟩
  ·have hkk:k=f.Code.length:=by omega
   subst hkk;rfl
 obtain⟨l,h,rfl⟩:=key;exact h
theorem AmK {keep:List Bool}:x∈VS f keep to k↔∃ j:Nat,j<k/\Oi keep j=true/\x=rnI to (NI f j):=by
 unfold VS
 grind
theorem AxN (hf:Ot f) (hd:Rx f) (hr:SB f r):Hs (Aaa f r) λl=>AqP f r l/\Ow f.Slots.length l:=by
 have hlen:=hf.len';have hkl:=hr.2.1;unfold Aaa;rw[Ark hf hkl,aA];have hK:=AkQ f r.Keep r.To f.Code.length;have hin:∀ x∈VS f r.Keep r.To f.Code.length,∀ v∈OD x,0<=v/\v<f.Slots.length:=λx hx v hv=>by
  obtain⟨j,hj,_,rfl⟩:=AmK.1 hx;exact ZQ hf hd hr.1 (hf.at (j:=(j:Int)) (by omega) (by omega)).2 v hv
 generalize hKe:VS f r.Keep r.To f.Code.length=K at hK hin;have nm:∀ x:Mk,(OD x).length<=2:=λx=>by
  grind [OD,Pr]
 refine Hs.loop (λs=>∃ k:Nat,s.2=(k:Int)/\k<=K.length/\s.1.length<=2*k/\s.1=(K.take k).flatMap OD) (λs=>K.length-s.2.toNat) ⟨0,rfl,aAC _,aAJ _,by simp⟩ ?_
 rintro⟨l,_⟩ ⟨k,rfl,hk,hll,hl⟩;replace hll:l.length<=2*k:=hll;replace hl:l=(K.take k).flatMap OD:=hl;refine .dec (λhlt=>?_) λhge=>.lft ?_
 ·have hlt:k<K.length:=by omega
  have hg:K[k]? =some K[k]:=aAA _;have htk:K.take (k+1)=K.take k++[K[k]]:=by simp_all
  generalize K[k]=x at hg htk;have hu:=AtE x;have hn:=nm x;have step:(K.take (k+1)).flatMap OD=l++OD x:=by simp_all
  refine .chk (by omega) ?_
  simp only[aAB,hg,aA,Arl,Aij,NP (show k<9223372036854775807 by omega)]
  refine .chk (by omega) ?_
  by_cases hdy:x.Op=16\/x.Op=17
  ·rw[if_pos hdy];simp only[cond_true];have e:OD x=Pr x++[x.A]:=by simp_all[OD]
   rw[e]at step hn;refine .chk (by simp;omega) (.cnt ⟨⟨k+1,rfl,hlt,?_,?_⟩,by grind⟩)
   all_goals grind
  ·rw[if_neg hdy];have e:OD x=Pr x:=by simp_all[OD]
   rw[e]at step;refine .cnt ⟨⟨k+1,rfl,hlt,?_,step.symm⟩,by grind⟩
   simp;omega
 ·have hkk:k=K.length:=by omega
  subst hkk;rw[aAM]at hl;refine(AqY l (by omega)).bind λq hq=>.pure ?_
  have hm:∀ v,v∈l↔∃ j:Nat,j<f.Code.length/\Oi r.Keep j=true/\v∈OD (rnI r.To (NI f j)):=λv=>by
   rw[hl,List.mem_flatMap,<- hKe]
   grind [AmK]
  refine⟨hq.mono λv _ _=>hm v,hq.1,λv hv=>?_⟩
  have:=((hq.2 v).1 hv).2
  grind
theorem AwQ (hl:to.length<=500) (s:Int):Hs (Yi to s) λl=>l.length<=to.length/\Awd to s l:=by
 refine Hs.loop (λz=>∃ k:Nat,z.2=(k:Int)/\k<=to.length/\z.1.length<=k/\∀ t,t∈z.1↔∃ j:Nat,j<k/\t=(j:Int)/\Oa to j=s) (λz=>to.length-z.2.toNat) ⟨0,rfl,aAC _,aAJ _,λt=>⟨λh=>(by cases h),λ⟨j,h,_⟩=>absurd h (aAI _)⟩⟩ ?_
 rintro⟨l,_⟩ ⟨k,rfl,hk,hll,hm⟩;replace hll:l.length<=k:=hll;refine .dec (λhlt=>?_) λhge=>.lft (.pure ?_)
 ·have hlt:k<to.length:=by omega
  have hg:=QP (to:=to) (s:=(k:Int)) (by omega) (by omega)
  rw[aAB]at hg;simp only[Ov,hg,aA];rw[NP (by omega)]
  refine .beq (λh=>.chk (by simp;omega) (.cnt ⟨⟨k+1,rfl,hlt,by simp;omega,λt=>?_⟩,by grind⟩)) λh=>.cnt ⟨⟨k+1,rfl,hlt,by grind,λt=>?_⟩,by grind⟩
  all_goals grind
 ·have hk:k=to.length:=by omega
  subst hk;exact⟨hll,hm⟩
theorem Avy (r:NV) (hl:r.Keep.length<=1000000):Hs (AaA r) (AhU r):=by
 refine Hs.loop (λs=>∃ k:Nat,s.2.1=(k:Int)/\k<=r.Keep.length/\s.2.2=(kept r.Keep k:Int)/\s.1.length=k/\∀ j:Nat,j<k->s.1[j]? =some (kept r.Keep j:Int)) (λs=>r.Keep.length-s.2.1.toNat) ⟨0,rfl,aAC _,rfl,rfl,λj hj=>absurd hj (aAI _)⟩ ?_
 rintro⟨l,_,n⟩ ⟨k,rfl,hk,hn,hll,hj⟩;subst hn;replace hll:l.length=k:=hll;refine .dec (λhlt=>?_) λhge=>.lft (.pure ?_)
 ·have hlt:k<r.Keep.length:=by simp_all
  have hg:r.Keep[k]? =some r.Keep[k]:=aAA _;generalize r.Keep[k]=b at hg;have hkl:=AfK r.Keep k;have hks:=Yg hg;have hap:∀ j:Nat,j<k+1->(l++[(kept r.Keep k:Int)])[j]? =some (kept r.Keep j:Int):=by
   grind
  simp only[Ov,hg,aA];refine .chk (by simp;omega) ?_
  rw[NP (show k<9223372036854775807 by omega),NP (show kept r.Keep k<9223372036854775807 by omega)]
  refine .cond (λh=>?_) λh=>?_
  ·subst h;exact .cnt ⟨⟨k+1,rfl,hlt,by simp_all,by simp[hll],hap⟩,by grind⟩
  ·subst h;exact .cnt ⟨⟨k+1,rfl,hlt,by simp_all,by simp[hll],hap⟩,by grind⟩
 ·have hkk:k=r.Keep.length:=by grind
  subst hkk;exact⟨hll,hj⟩
theorem AwP (hf:Ot f) (hkl:r.Keep.length=f.Code.length) (to pl:List Int) (hpl:pl.length=r.Keep.length) (sl:List NS) :
  Hs (NW (λs=>AbS (VS f r.Keep to f.Code.length) pl f sl s.1 s.2) (VS f r.Keep to f.Code.length,0)) λq=>q=(⟨f.Params,sl,Tj f r.Keep to pl f.Code.length⟩,0):=by
 have hlen:=hf.len';have hK:=AkQ f r.Keep to f.Code.length;have hin:∀ x∈VS f r.Keep to f.Code.length,(x.Op=20->0<=x.A/\x.A<f.Code.length)/\(x.Op=21->0<=x.B/\x.B<f.Code.length):=λx hx=>by
  grind [AmK,Ajx,Adh,AeP]
 rw[Avw];generalize VS f r.Keep to f.Code.length=K at hK hin;refine Hs.loop (λs=>∃ k:Nat,s.2=(k:Int)/\k<=K.length/\s.1=(K.take k).map (mvI pl)++K.drop k) (λs=>K.length-s.2.toNat) ⟨0,rfl,aAC _,by simp⟩ ?_
 rintro⟨_,_⟩ ⟨k,rfl,hk,rfl⟩;refine .dec (λhlt=>?_) λhge=>.lft (.pure ?_)
 ·have hlt:k<K.length:=by omega
  have hg:K[k]? =some K[k]:=aAA _;have htk:K.take (k+1)=K.take k++[K[k]]:=by simp_all
  have hdk:K.drop k=K[k]::K.drop (k+1):=List.drop_eq_getElem_cons hlt;have hxm:=aAG hlt;generalize K[k]=x at hg htk hdk hxm;have hml:((K.take k).map (mvI pl)).length=k:=by simp;omega
  obtain⟨x1,x2⟩:=hin x hxm;have at_:((K.take k).map (mvI pl)++K.drop k)[k]? =some x:=by
   simp_all
  have fin:∀ y,y=mvI pl x->((K.take k).map (mvI pl)++K.drop k).set k y=(K.take (k+1)).map (mvI pl)++K.drop (k+1):=λy hy=>by
   simp_all
  refine .chk (by simp;omega) ?_
  simp only[aAB,at_,aA,NP (show k<9223372036854775807 by omega)]
  refine .beq (λh=>?_) λh=>.beq (λh'=>?_) λh'=>.cnt ⟨⟨k+1,rfl,hlt,?_⟩,by simp only;omega⟩
  ·have t:=x1 h;refine .chk (by omega) ((Hs.get t.1 (by omega) λz hz=>hz).bind λz hz=>.cnt ⟨⟨k+1,rfl,hlt,fin _ ?_⟩,by simp only;omega⟩)
   simp_all[mvI]
  ·have t:=x2 h';refine .chk (by omega) ((Hs.get t.1 (by omega) λz hz=>hz).bind λz hz=>.cnt ⟨⟨k+1,rfl,hlt,fin _ ?_⟩,by simp only;omega⟩)
   simp_all[mvI]
  ·have:=fin x (by simp_all[mvI])
   grind
 ·have hkk:k=K.length:=by omega
  subst hkk;show((⟨f.Params,sl,_⟩:Lo),(0:Int))=_;simp_all
theorem AwO (hf:Ot f) (hd:Rx f) (hr:SB f r):Hs (YM f r) (Zu f r):=by
 have hlen:=hf.len';have hsl:=hf.slots;have hkl:=hr.2.1;have htl:=hr.1.1;refine(Ajv hf r).bind λe he=>.bne (λh=>(h (he.2.2 hr)).elim) λ_=>?_
 refine(AxN hf hd hr).bind λused ⟨hu0,hu1⟩=>?_
 have hul:=hu1.1.length_le;refine Hs.loop (λs=>∃ i:Nat,s.2=(i:Int)/\i<=used.length/\s.1.length=i/\TK f r (used.take i) s.1) (λs=>used.length-s.2.toNat) ⟨0,rfl,aAC _,rfl,rfl,λj u y hj=>by simp at hj⟩ ?_
 rintro⟨out,_⟩ ⟨i,rfl,hi,ho,hsa⟩;replace ho:out.length=i:=ho;refine .dec (λhlt=>?_) λhge=>.lft ?_
 ·have hlt:i<used.length:=by omega
  have hgx:used[i]? =some used[i]:=aAA _;have hxm:=aAG hlt;generalize used[i]=u at hgx hxm;have h0:=(hu1.1.2 u hxm).1;have h1:=hu1.2 u hxm;refine .chk (by omega) ?_
  simp only[aAB,hgx,aA];refine(Hs.ix (P:=λx=>f.Slots[u.toNat]? =some x) h0 h1 λx hx=>hx).bind λx hfx=>?_
  refine(AwQ (by omega) u).bind λl ⟨hll,hm⟩=>?_
  have hl:∀ t∈l,0<=t/\t<f.Slots.length:=λt ht=>by
   obtain⟨j,q1,rfl,_⟩:=(hm t).1 ht;omega
  refine Hs.loop (λs=>∃ k:Nat,s.2=(k:Int)/\k<=l.length/\Abz f (l.take k) x.Align s.1) (λs=>l.length-s.2.toNat) ⟨0,rfl,aAC _,by grind [Abz.nil]⟩ ?_
  rintro⟨a,_⟩ ⟨k,rfl,hk,hx⟩;refine .dec (λhlt2=>?_) λhge2=>.lft (.chk (by simp;omega) ?_)
  ·have hlt2:k<l.length:=by omega
   have hg:l[k]? =some l[k]:=aAA _;have htk:l.take (k+1)=l.take k++[l[k]]:=by simp_all
   have ht:=hl _ (aAG hlt2);generalize l[k]=t at hg htk ht;refine .chk (by omega) ?_
   rw[aAB,hg,aA];refine(Hs.ix (P:=λy=>alS f t=y.Align) ht.1 ht.2 λy hy=>by grind [alS]).bind λy hy=>?_
   rw[NP (by omega),AoM,<- hy]
   refine .cnt ⟨⟨k+1,rfl,hlt2,?_⟩,by grind⟩
   rw[htk];exact hx.snoc t
  ·have hkk:k=l.length:=by omega
   subst hkk;rw[aAM]at hx;rw[NP (by omega)]
   exact .cnt ⟨⟨i+1,rfl,hlt,by simp[ho],hsa.snoc ho (by omega) hgx hfx rfl hm hx⟩,by grind⟩
 have hii:i=used.length:=by omega
 subst hii;rw[aAM]at hsa;unfold Are ZC;rw[Ou (by omega),aA]
 refine Hs.loop (λs=>∃ k:Nat,s.2=(k:Int)/\k<=r.To.length/\s.1.length=r.To.length/\(∀ (j:Nat) x,j<k->s.1[j]? =some x->Oa r.To j∈used->0<=x/\used[x.toNat]? =some (Oa r.To j))/\∀ j:Nat,k<=j->s.1[j]? =r.To[j]?) (λs=>r.To.length-s.2.toNat) ⟨0,rfl,aAC _,rfl,λj x hj=>absurd hj (aAI _),λj _=>rfl⟩ ?_
 rintro⟨to,_⟩ ⟨k,rfl,hk,h1,h2,h3⟩;replace h1:to.length=r.To.length:=h1;refine .dec (λhlt=>?_) λhge=>.lft ?_
 ·have hlt:k<r.To.length:=by omega
  have hg:=QP (to:=r.To) (s:=(k:Int)) (by omega) (by omega)
  rw[aAB,<- h3 k (aAJ _)]at hg;refine .chk (by simp_all) ?_
  rw[aAB,hg,aA,AwD _ _ (by omega),aA]
  refine .chk (by simp_all) ?_
  rw[aA,NP (by omega)]
  refine .cnt ⟨⟨k+1,rfl,hlt,by simp[h1],λj x hj hx hm=>?_,λj hj=>?_⟩,by simp only;omega⟩
  ·have hx:(to.set k (AkO (Oa r.To k) 0 used))[j]? =some x:=hx
   by_cases e:j=k
   ·subst e;rw[aAO (by omega)]at hx
    cases hx;obtain⟨q,q1,q2⟩:=Art _ 0 _ hm;simp_all
   ·rw[aAR (λh=>e h.symm)]at hx
    exact h2 j x (by omega) hx hm
  grind
 ·have hkk:k=r.To.length:=by omega
  subst hkk;refine(Avy r (by omega)).bind λpl hp=>?_
  rw[Ark hf hkl,aA];refine(AwP hf hkl to pl hp.1 out).mono λq hq=>?_
  subst hq;exact⟨rfl,rfl,used,to,pl,hu0,hsa,⟨h1,λs x hs hm=>h2 s x (by grind) hs hm⟩,hp,rfl⟩
theorem AiT (hf:Ot f) (hd:Rx f) (hr:SB f r):∃ q,YM f r=some q/\Rq f r=some q/\Zu f r q:=by
 obtain⟨q,h1,h2⟩:=AwO hf hd hr;obtain⟨q',k1,k2⟩:=AwV hf hd hr;exact⟨q,h1,by rw[k1,k2.unique hf hd hr h2],h2⟩
end
open Go Go.Dw Go.Proofs
def Zx (f:Lo) (l:List (List Int)) (r:NV) (k:Nat) (y:Int):Prop :=
 ((NI f k).Op=16\/(NI f k).Op=17)/\¬ ((NI f k).Op=17/\Oa r.To (NI f k).A=Oa r.To (NI f k).B)/\y∈Oe l k/\(Oi r.Keep k=true↔y≠(NI f k).A)/\Oa r.To y=Oa r.To (NI f k).A
instance {f:Lo} {l:List (List Int)} {r:NV} {k:Nat} {y:Int}:Decidable (Zx f l r k y):=by unfold Zx;infer_instance
theorem Zx.mono {l':List (List Int)} {y:Int} (h:Zx f l' r k y) (hs:∀ v∈Oe l' k,v∈Oe l k):Zx f l r k y :=
 ⟨h.1,h.2.1,hs y h.2.2.1,h.2.2.2.1,h.2.2.2.2⟩
def Ary (f:Lo) (l:List (List Int)) (r:NV) (k:Nat):Option Int:=(Oe l k).find? λy=>decide (Zx f l r k y)
def AhT (f:Lo) (l:List (List Int)) (r:NV) (q:Int×Int×Bool):Prop :=
 (∃ (k:Nat) (y:Int),k<f.Code.length/\Ary f l r k=some y/\(∀ j<k,Ary f l r j=none)/\q=((k:Int),y,true))\/((∀ j<f.Code.length,Ary f l r j=none)/\q=(0,0,false))
theorem AhT.unique {q p:Int×Int×Bool} (h:AhT f l r q) (h':AhT f l r p):q=p:=by
 rcases h with⟨k,y,hk,h1,h2,rfl⟩|⟨h1,rfl⟩<;>rcases h' with⟨k',y',hk',h1',h2',rfl⟩|⟨h1',rfl⟩
 all_goals grind
theorem AhT.found {q:Int×Int×Bool} (h:AhT f l r q):q.2.2=true↔∃ k y,k<f.Code.length/\Zx f l r k y:=by
 rcases h with⟨k,y,hk,h1,_,rfl⟩|⟨h1,rfl⟩
 ·exact⟨λ_=>⟨k,y,hk,by simpa using List.find?_some h1⟩,λ_=>rfl⟩
 ·refine⟨λh=>(by cases h),λ⟨k,y,hk,hy⟩=>?_⟩
  have:=List.find?_eq_none.1 (h1 k hk) y hy.2.2.1;simp_all
theorem Ari (hf:Ot f) (hd:Rx f) {l:Ob} (hl:RO f l.Out) (hr:SB f r) (hk:k<f.Code.length) :
  Hs (QE (k:Int) f r l) λq=>q.2=true↔∃ y,Zx f l.Out r k y:=by
 have htl:=hr.1.1;have hx:=hf.at (j:=(k:Int)) (by omega) (by omega)
 have hrow:=hl.at (j:=(k:Int)) (by omega) (by omega)
 rw[aAB]at hx hrow;have hlo:=hrow.2.1.length_le;have hg:r.Keep[k]? =some (Oi r.Keep k):=by have:=hr.2.1;grind [Oi]
 have tg:∀ s:Int,0<=s->s<f.Slots.length->ixO r.To s=some (Oa r.To s):=λs h0 h1=>by grind [Ps,QP]
 unfold QE;simp only[Ov,hx.1,aA,Aij]
 by_cases hdef:(NI f k).Op=16\/(NI f k).Op=17
 ·rw[if_pos hdef];have hA:=hd _ hx.2 hdef;have inner:¬ ((NI f k).Op=17/\Oa r.To (NI f k).A=Oa r.To (NI f k).B)->Hs (PE l (k:Int) r ((NI f k).A,true)) λq=>q.2=true↔∃ y,Zx f l.Out r k y:=by
   intro hnm;unfold PE;rw[Ov,hrow.1,aA];refine Hs.loop (λi=>∃ j:Nat,i=(j:Int)/\j<=(Oe l.Out k).length/\∀ y∈(Oe l.Out k).take j,¬ Zx f l.Out r k y) (λi=>(Oe l.Out k).length-i.toNat) ⟨0,rfl,aAC _,λy hy=>by simp at hy⟩ ?_
   rintro _ ⟨j,rfl,hj,hno⟩;refine .dec (λhlt=>?_) λhge=>.lft (.pure ⟨λh=>(by cases h),λ⟨y,hy⟩=>?_⟩)
   ·have hlt:j<(Oe l.Out k).length:=by omega
    have hgx:(Oe l.Out k)[j]? =some (Oe l.Out k)[j]:=aAA _;have hxm:=aAG hlt;have htk:(Oe l.Out k).take (j+1)=(Oe l.Out k).take j++[(Oe l.Out k)[j]]:=by simp_all
    generalize(Oe l.Out k)[j]=y at hgx hxm htk;have hy0:=(hrow.2.1.2 y hxm).1;have hyn:=hrow.2.2 y hxm;have stp:¬ Zx f l.Out r k y->∀ z∈(Oe l.Out k).take (j+1),¬ Zx f l.Out r k z:=by
     grind
    simp only[Ov,hgx,hg,tg _ hy0 hyn,tg _ hA.1 hA.2,aA];rw[NP (by omega)]
    have hky:(Oi r.Keep k==(y != (NI f k).A))=true↔(Oi r.Keep k=true↔y≠(NI f k).A):=by
     grind
    refine .cond (λh1=>.beq (λh2=>.lft (.pure ⟨λ_=>⟨y,hdef,hnm,hxm,hky.1 h1,h2⟩,λ_=>rfl⟩)) λh2=>?_) λh1=>?_
    ·exact .cnt ⟨⟨j+1,rfl,hlt,stp λh=>h2 h.2.2.2.2⟩,by grind⟩
    ·exact .cnt ⟨⟨j+1,rfl,hlt,stp λh=>by rw[hky.2 h.2.2.2.1]at h1;cases h1⟩,by grind⟩
   ·refine(hno y ?_ hy).elim;rw[aAh (by omega)]
    exact hy.2.2.1
  refine .beq (λh17=>?_) λh17=>inner λh=>h17 h.1
  have hB:=hf.uses _ hx.2 (NI f k).B (by grind [Pr])
  rw[tg _ hA.1 hA.2,aA,tg _ hB.1 hB.2,aA];exact .beq (λh=>.pure ⟨λh=>(by cases h),λ⟨y,hy⟩=>(hy.2.1 ⟨h17,h⟩).elim⟩) λh=>inner λh'=>h h'.2
 ·rw[if_neg hdef];exact .pure ⟨λh=>(by cases h),λ⟨y,hy⟩=>(hdef hy.1).elim⟩
theorem AsH (hf:Ot f) (hd:Rx f) {l:Ob} (hl:Acc f l.Out) (hr:SB f r):Hs (XG f l r) λq=>q.2.2=true↔∃ k y,k<f.Code.length/\Zx f l.Out r k y:=by
 have hlen:=hf.len';refine(Amz hf (hl.1.len hf)).bind λe he=>.bne (λh=>(h (he.2.2 hl)).elim) λ_=>?_
 refine(Ajv hf r).bind λe he=>.bne (λh=>(h (he.2.2 hr)).elim) λ_=>?_
 refine Hs.loop (λi=>∃ k:Nat,i=(k:Int)/\k<=f.Code.length/\∀ j y,j<k->¬ Zx f l.Out r j y) (λi=>f.Code.length-i.toNat) ⟨0,rfl,aAC _,λs _ hs=>absurd hs (aAI _)⟩ ?_
 rintro _ ⟨k,rfl,hk,hall⟩;refine .dec (λhlt=>?_) λhge=>.lft (.pure ⟨λh=>(by cases h),λ⟨j,y,hj,hy⟩=>(hall j y (by omega) hy).elim⟩)
 have hlt:k<f.Code.length:=by omega
 refine(Ari hf hd hl.1 hr hlt).bind λq hq=>.cond (λh=>?_) λh=>?_
 ·obtain⟨y,hy⟩:=hq.1 h;exact .lft (.pure ⟨λ_=>⟨k,y,hlt,hy⟩,λ_=>rfl⟩)
 ·rw[NP (by omega)]
  refine .cnt ⟨⟨k+1,rfl,hlt,λj y hj hy=>?_⟩,by grind⟩
  grind
theorem ApK (hf:Ot f) (hd:Rx f) {l:Ob} (hl:Ue l.Out) (r:NV) :
  Hs (Yd f l r) λe=>(¬ Acc f l.Out/\e=11)\/(Acc f l.Out/\(¬ SB f r\/∃ k y,k<f.Code.length/\Zx f l.Out r k y)/\e=12)\/(Acc f l.Out/\SB f r/\(∀ k y,k<f.Code.length->¬ Zx f l.Out r k y)/\e=0):=by
 unfold Yd;refine(Amz hf hl).bind λe he=>.bne (λh=>.pure (.inl ⟨λh'=>h (he.2.2 h'),rfl⟩)) λh=>?_
 have ha:=he.2.1 h;refine(Ajv hf r).bind λe he=>.bne (λh=>.pure (.inr (.inl ⟨ha,.inl λh'=>h (he.2.2 h'),rfl⟩))) λh=>?_
 have hr:=he.2.1 h;refine(AsH hf hd ha hr).bind λq hq=>.cond (λh=>.pure (.inr (.inl ⟨ha,.inr (hq.1 h),rfl⟩))) λh=>.pure (.inr (.inr ⟨ha,hr,λk y hk hy=>?_,rfl⟩))
 simp_all
end Go.Proofs.YtcaoepecbgggcaaGreatDoor
namespace Go.Dw
open Go
theorem Awf (x k w:Nat) (hx:x<2 ^ w) (hk:k<=w):x &&& (2 ^ w-1-(2 ^ k-1))=x / 2 ^ k*2 ^ k:=by
 have hle:2 ^ k<=2 ^ w:=aAL (by omega) hk
 have h0:0<2 ^ k:=aAg k;apply Nat.eq_of_testBit_eq
 grind [Nat.testBit_lt_two_pow,Nat.lt_of_lt_of_le,aAL]
theorem Ayl (x:Int) (k:Nat) (hk:k<=24) (h0:0<=x) (h1:x<4611686018427387904) :
  IntKind.i64.wrap (((aAP IntKind.i64.bits x &&& ~~~ aAP IntKind.i64.bits ((2 ^ k-1:Nat):Int)).toNat:Nat):Int)=x-x % ((2 ^ k:Nat):Int):=by
 obtain⟨n,rfl⟩:∃ n:Nat,x=(n:Int):=⟨x.toNat,by omega⟩
 have hp:2 ^ k<=2 ^ 24:=aAL (by omega) hk
 have hp0:0<2 ^ k:=aAg k;have hn:n<2 ^ 64:=by omega
 have hb:IntKind.i64.bits=64:=rfl;rw[hb,aAb,BitVec.toNat_not];have e1:(aAP 64 (n:Int)).toNat=n:=by simp;omega
 have e2:(aAP 64 ((2 ^ k-1:Nat):Int)).toNat=2 ^ k-1:=by
  grind
 rw[e1,e2,Awf n k 64 hn (by omega)]
 have hm:=Nat.div_add_mod n (2 ^ k)
 grind [wrap64]
end Go.Dw
namespace Go.Proofs.YtcaoepecbgggcaaGreatDoor
open Go Go.Dw Go.Proofs
variable {x:Mk} {p:NM} {i k:Nat} {f:Lo} {l g:List (List Int)} {s:List NS} {r:List Int×Int} {fr:OG} {frm:Int} {z:PH×Int} {off:List Int} {mv:Mk->Int->Bool}
theorem AkG (n:Int):Te n=some (decide (0<=n/\n<=2147483647)):=by
 rw[<- Adw];rfl
theorem Apx (a:NU):VC a=some (decide (Rj a)):=by
 rw[<- AbX]
 grind [VC,Sr,AkG,Adw]
theorem Ajq {m:Nat} (hm:m<=24):Qx ((2 ^ m:Nat):Int)=some true:=by
 have hp:2 ^ m<=2 ^ 24:=aAL (by omega) hm
 have h0:0<2 ^ m:=aAg m;have hz:(2 ^ m) &&& (2 ^ m-1)=0:=by simp_all
 unfold Qx;generalize 2 ^ m=a at *;rw[decide_eq_true (show((a:Nat):Int)>=1 by omega),cond_true,decide_eq_true (show((a:Nat):Int)<=16777216 by omega),cond_true,wrap64 (n:=(a:Int)-1) (by omega) (by omega)]
 have hb:IntKind.i64.bits=64:=rfl;have e1:(aAP 64 (a:Int)).toNat=a:=by grind
 have e2:(aAP 64 ((a:Int)-1)).toNat=a-1:=by grind
 rw[hb,aAb,e1,e2,hz];rfl
theorem AsS {a u v:Int} (ha:0<a) (hu:u % a=0) (hv:v % a=0) (h1:u-v<a) (h2:v-u<a):u=v:=by
 obtain⟨p,rfl⟩:=aAc hu;obtain⟨q,rfl⟩:=aAc hv;have key:∀ x y:Int,x<y->a*x+a<=a*y:=λx y h=>by
  have:=Int.mul_le_mul_of_nonneg_left (show x+1<=y by omega) (show 0<=a by omega)
  grind
 rcases Int.lt_trichotomy p q with h|h|h
 ·grind
 ·rw[h]
 ·have:=key q p h;omega
theorem AxM {n a:Int} (h0:0<=n) (h1:n<=4000000000) (ha:QF a):AeE n a=some (upN n a):=by
 obtain⟨a1,a2⟩:=ha.rng;obtain⟨m,hm,rfl⟩:=ha;obtain⟨p1,p2,p3⟩:=TC (n:=n) (a:=((2 ^ m:Nat):Int)) (by omega)
 unfold AeE;have w1:IntKind.i64.wrap (n+((2 ^ m:Nat):Int))=n+((2 ^ m:Nat):Int):=wrap64 (by omega) (by omega)
 have w2:IntKind.i64.wrap (n+((2 ^ m:Nat):Int)-1)=n+((2 ^ m:Nat):Int)-1:=wrap64 (by omega) (by omega)
 have w3:IntKind.i64.wrap (((2 ^ m:Nat):Int)-1)=((2 ^ m-1:Nat):Int):=by grind [wrap64]
 rw[w1,w2,w3,Ayl _ m hm (by omega) (by omega)]
 have key:n+((2 ^ m:Nat):Int)-1-(n+((2 ^ m:Nat):Int)-1) % ((2 ^ m:Nat):Int)=upN n ((2 ^ m:Nat):Int):=by
  refine AsS (a:=((2 ^ m:Nat):Int)) (by omega) ?_ p3 (by omega) (by omega)
  simp_all
 rw[key]
theorem Avd {n a:Int} (h0:0<=n) (h1:n<=1000000000) (ha:QF a):Ach n a=some (upN n a,0):=by
 have h2:=AxM h0 (by omega) ha
 obtain⟨a1,a2⟩:=ha.rng;obtain⟨p1,p2,p3⟩:=TC (n:=n) (a:=a) (by omega)
 have hp:Qx a=some true:=by obtain⟨m,hm,rfl⟩:=ha;exact Ajq hm
 unfold Ach;rw[AkG,aA,decide_eq_true (show 0<=n/\n<=2147483647 by omega)]
 simp only[aAN,cond_false,hp,aA];unfold AcE TS
 grind
theorem Ato {x y:Int} (hx:0<=x/\x<=1000000000) (hy:0<=y/\y<=1000000000):Va x y=some (x+y,0):=by
 grind [Va,YA,TS,AkG,wrap64]
theorem Aus (a b:NU):YE a b=some (decide (Uf a b)):=by
 unfold YE;simp only[AbX,aA]
 by_cases h1:Rj a
 ·by_cases h2:Rj b
  ·have e1:IntKind.i64.wrap (b.Off+b.Size)=b.Off+b.Size:=by grind [Rj,wrap64]
   have e2:IntKind.i64.wrap (a.Off+a.Size)=a.Off+a.Size:=by grind [Rj,wrap64]
   simp only[h1,h2,decide_true,cond_true,e1,e2,Uf,true_and]
   grind
  grind [Uf]
 grind [Uf]
theorem Anw (a:NU) (n:Int):Sx a n=some (decide (InI a n)):=by
 rw[<- Avj]
 grind [Sx,Agk,Apx,AbX]
theorem AsK (a b:NU):XR a b=some (decide (Uf a b)):=by
 unfold XR Aeg;simp only[Apx,aA]
 by_cases h1:Rj a
 ·by_cases h2:Rj b
  ·rw[h1.wrap,h2.wrap];simp only[h1,h2,decide_true,cond_true,Uf,true_and,Option.some.injEq];refine decide_eq_decide.2 ?_
   grind [OI,SF]
  grind [Uf]
 grind [Uf]
theorem ArF {i:Int} (hi:ixO p.Funcs i=some f) (hl:f.Code.length<=10000) (h:Abr p f):ZS p i=some (16*OV p f f.Code.length):=by
 have:Hs (ZS p i) λr=>r=16*OV p f f.Code.length:=by
  unfold ZS;rw[hi,aA];refine Hs.loop (λq=>∃ k:Nat,q=((k:Int),OV p f k)/\k<=f.Code.length) (λq=>f.Code.length-q.1.toNat) ⟨0,rfl,aAC _⟩ ?_
  rintro _ ⟨k,rfl,hk⟩;have hr:=Xf h hk;refine .dec (λhlt=>?_) λhge=>.lft (.pure ?_)
  ·have hlt:k<f.Code.length:=by omega
   have e:ixO f.Code (k:Int)=some f.Code[k]:=by simp_all
   obtain⟨h1,h2⟩:=h _ (aAG hlt);simp only[e,aA];rw[NP (by omega)]
   refine .beq (λh18=>?_) λh18=>.beq (λh22=>?_) λh22=>?_
   ·rw[wrap64 (by omega) (by omega)]
    exact .cnt ⟨⟨k+1,by grind [Wv,Sk],hlt⟩,by grind⟩
   ·obtain⟨a0,g,hg,hp⟩:=h2 h22;rw[Ps _ a0,hg,aA];exact .cnt ⟨⟨k+1,by grind [Wv,Sk],hlt⟩,by grind⟩
   ·exact .cnt ⟨⟨k+1,by grind [Wv,Sk],hlt⟩,by grind⟩
  ·have:k=f.Code.length:=by omega
   subst this;rw[wrap64 (by omega) (by omega)]
   exact rfl
 obtain⟨r,h,rfl⟩:=this;exact h
theorem Ajt {i:Int} (hi:ixO p.Funcs i=some f) (hl:f.Code.length<=10000) (h:Abr p f) (hs:AaY f.Slots) {al:Int} (ha:QF al) (ha':al<=16777216):Tz p i al=some (PR p f al,0):=by
 have hr:=Xf h (k:=f.Code.length) (aAJ _);have hsl:=hs.1;have:Hs (Tz p i al) λr=>r=(PR p f al,0):=by
  unfold Tz;rw[ArF hi hl h,aA,hi,aA];unfold PR;have hr2:0<=16*OV p f f.Code.length/\16*OV p f f.Code.length<=128:=by omega
  generalize 16*OV p f f.Code.length=a0 at *;refine Hs.loop (λq=>∃ k:Nat,q=((plK f.Slots a0 k).1,(k:Int),(plK f.Slots a0 k).2)/\k<=f.Slots.length) (λq=>f.Slots.length-q.2.1.toNat) ⟨0,rfl,aAC _⟩ ?_
  rintro _ ⟨k,rfl,hk⟩;obtain⟨q1,q2,q3⟩:=AfM hs (a:=a0) (by omega) hk
  dsimp only;refine .dec (λhlt=>?_) λhge=>.lft ?_
  ·have hlt:k<f.Slots.length:=by omega
   have e:ixO f.Slots (k:Int)=some f.Slots[k]:=by simp_all
   obtain⟨h1,h2,h3,h4⟩:=hs.2 _ (aAG hlt);obtain⟨u1,u2,_⟩:=TC (n:=(plK f.Slots a0 k).2) (a:=f.Slots[k].Align) (by have:=h1.rng;omega)
   simp only[e,aA];rw[Avd (by omega) (by omega) h1,aA]
   rw[Ato (by omega) (by omega),aA]
   refine .chk (by simp;omega) ?_
   rw[NP (by omega)]
   exact .cnt ⟨⟨k+1,by grind [AdL,Agi],hlt⟩,by grind⟩
  ·have:k=f.Slots.length:=by omega
   subst this;obtain⟨u1,u2,_⟩:=TC (n:=(plK f.Slots a0 f.Slots.length).2) (a:=al) (by have:=ha.rng;omega)
   unfold AfE YD;rw[Avd (by omega) (by omega) ha,aA]
   rw[Ato (by omega) (by omega),aA]
   exact .pure rfl
 obtain⟨r,h,rfl⟩:=this;exact h
section
variable {p:NM} {i:Int} {f:Lo} {al:Int} (h:AgT p i f al)
 include h
theorem Avx (y:NT) (hl:y.Off.length=f.Slots.length) (hk:k<f.Slots.length):Hs (SL ⟨p,i,al,f,y⟩ (k:Int)) λb=>b=true↔AfR f y k:=by
 have eo:y.Off[k]? =some (y.Off[k]'(by omega)):=aAA _
 have es:f.Slots[k]? =some f.Slots[k]:=aAA _;have hs:=(h.slots.2 _ (aAG hk)).1.rng;generalize(y.Off[k]'(by omega))=o at eo
 generalize f.Slots[k]=s at es hs;have key:AfR f y k↔y.Args<=o/\o.tmod s.Align=0/\InI ⟨o,s.Size⟩ y.Size:=by
  grind [AfR]
 rw[key];unfold SL;simp only[Ov,eo,aA];refine .dec (λh1=>?_) λh1=>.pure ⟨λh=>(by cases h),λh=>(h1 h.1).elim⟩
 simp only[es,aA];refine .chk (by omega) (.beq (λh2=>?_) λh2=>.pure ⟨λh=>(by cases h),λh=>(h2 h.2.1).elim⟩)
 unfold PY;simp only[Ov,eo,es,aA,Anw];exact .pure ⟨λh=>⟨h1,h2,of_decide_eq_true h⟩,λh=>decide_eq_true h.2.2⟩
theorem Aup (y:NT):Hs (Ti ⟨p,i,al,f,y⟩) λe=>(e=0\/e=13)/\(e=0↔RP p f al y):=by
 have hal:=h.al16;have hsl:=h.slots.1;have no:∀ {Q:Prop},(RP p f al y->False)->Hs (some (13:Int)) λe=>(e=0\/e=13)/\(e=0↔RP p f al y):=λhn=>.pure ⟨.inr rfl,⟨λh=>(by cases h),λh=>(hn h).elim⟩⟩
 unfold Ti;rw[Ajt h.hi h.RX.len' h.arg h.slots h.alok h.al64,aA,ArF h.hi h.RX.len' h.arg,aA];simp only[bne_self_eq_false,cond_false];refine .bne (λhA=>no (Q:=True) λhq=>hA hq.1) λhA=>.bne (λhL=>no (Q:=True) λhq=>hL (by rw[hq.2.1])) λhL=>?_
 have hL:y.Off.length=f.Slots.length:=by omega
 refine Hs.loop (λq=>∃ k:Nat,q=(k:Int)/\k<=f.Slots.length/\∀ j<k,AfR f y j) (λq=>f.Slots.length-q.toNat) ⟨0,rfl,aAC _,λj hj=>absurd hj (aAI _)⟩ ?_
 rintro _ ⟨k,rfl,hk,hall⟩;refine .dec (λhlt=>?_) λhge=>.lft ?_
 ·have hlt:k<f.Slots.length:=by simp_all
  refine(Avx h y hL hlt).bind λb hb=>.cond (λhb'=>.lft (no (Q:=True) λhq=>?_)) λhb'=>?_
  ·have:=hb.2 (hq.2.2.1 k hlt);simp_all
  ·rw[NP (by omega)]
   refine .cnt ⟨⟨k+1,rfl,hlt,λj hj=>?_⟩,by grind⟩
   grind
 ·have hkk:k=f.Slots.length:=by grind
  subst hkk;refine .chk (by grind) (.bne (λh1=>no (Q:=True) λhq=>h1 hq.2.2.2.1) λh1=>.dec (λh2=>no (Q:=True) λhq=>?_) λh2=>.dec (λh3=>no (Q:=True) λhq=>?_) λh3=>.pure ⟨.inl rfl,⟨λ_=>⟨hA,hL,hall,h1,?_,?_⟩,λ_=>rfl⟩⟩)
  ·have:=hq.2.2.2.2.1;grind
  ·have:=hq.2.2.2.2.2;grind
  all_goals simp_all
end
open Go Go.Dw Go.Proofs
def Vl (y:NT) (s:Int):Int:=(y.Off[s.toNat]?).getD 0
def Wu (f:Lo) (l:List (List Int)) (y:NT) (k:Nat) (s:Int):Prop :=
 ((NI f k).Op=16\/(NI f k).Op=17)/\¬ ((NI f k).Op=17/\Vl y (NI f k).A=Vl y (NI f k).B)/\s∈Oe l k/\s≠(NI f k).A/\Uf ⟨Vl y s,Pm f s⟩ ⟨Vl y (NI f k).A,Pm f (NI f k).A⟩
instance {f:Lo} {l:List (List Int)} {y:NT} {k:Nat} {s:Int}:Decidable (Wu f l y k s):=by unfold Wu;infer_instance
theorem Wu.mono {l':List (List Int)} {y:NT} {s:Int} (h:Wu f l' y k s) (hs:∀ v∈Oe l' k,v∈Oe l k):Wu f l y k s :=
 ⟨h.1,h.2.1,hs s h.2.2.1,h.2.2.2⟩
def Vt (f:Lo) (l:List (List Int)) (y:NT) (k:Nat):Option Int:=(Oe l k).find? λs=>decide (Wu f l y k s)
def Arr (o:Option Int):Int×Bool:=match o with|some y=>(y,true)|none=>(0,false)
theorem Awy {l:List Int} {p:Int->Bool} {j:Nat} {y:Int} (h:l[j]? =some y) (hp:p y=true) (hn:∀ z∈l.take j,p z=false):l.find? p=some y:=by
 grind [List.getElem_cons_drop,aAj]
theorem Akl {y:NT}:Vt f l y k=none↔∀ s,¬ Wu f l y k s:=by
 unfold Vt;rw[List.find?_eq_none];exact⟨λh s hs=>by have:=h s hs.2.2.1;simp_all,λh s _=>by simp[h s]⟩
theorem Arc {y:NT} {s:Int} (h:Vt f l y k=some s):Wu f l y k s:=by
 grind [Vt]
theorem Alq {y:NT} (hl:y.Off.length=f.Slots.length) {s:Int} (h0:0<=s) (h1:s<f.Slots.length):ixO y.Off s=some (Vl y s):=by
 grind [Ps,Vl]
theorem Atz {s:Int} (h0:0<=s) (h1:s<f.Slots.length):∃ x,ixO f.Slots s=some x/\x.Size=Pm f s:=by
 have e:f.Slots[s.toNat]? =some (f.Slots[s.toNat]'(by omega)):=aAA _
 grind [Ps,AaB]
def Adr (f:Lo) (l:List (List Int)) (y:NT) (q:Int×Int×Bool):Prop :=
 (∃ (k:Nat) (s:Int),k<f.Code.length/\Vt f l y k=some s/\(∀ j<k,Vt f l y j=none)/\q=((k:Int),s,true))\/((∀ j<f.Code.length,Vt f l y j=none)/\q=(0,0,false))
theorem Adr.unique {y:NT} {q p:Int×Int×Bool} (h:Adr f l y q) (h':Adr f l y p):q=p:=by
 rcases h with⟨k,s,hk,h1,h2,rfl⟩|⟨h1,rfl⟩<;>rcases h' with⟨k',s',hk',h1',h2',rfl⟩|⟨h1',rfl⟩
 all_goals grind
theorem Adr.found {y:NT} {q:Int×Int×Bool} (h:Adr f l y q):q.2.2=true↔∃ k s,k<f.Code.length/\Wu f l y k s:=by
 rcases h with⟨k,s,hk,h1,h2,rfl⟩|⟨h1,rfl⟩
 all_goals grind [Arc,Akl]
def Adt (p:NM) (f:Lo) (al:Int) (l:List (List Int)) (y:NT) (e:Int):Prop :=
 (¬ RP p f al y/\e=13)\/(RP p f al y/\¬ Acc f l/\e=11)\/(RP p f al y/\Acc f l/\(∃ k s,k<f.Code.length/\Wu f l y k s)/\e=13)\/(RP p f al y/\Acc f l/\(∀ k s,k<f.Code.length->¬ Wu f l y k s)/\e=0)
theorem Adt.unique {al:Int} {y:NT} {a b:Int} (h:Adt p f al l y a) (h':Adt p f al l y b):a=b:=by
 rcases h with⟨h1,rfl⟩|⟨h1,h2,rfl⟩|⟨h1,h2,⟨k,s,hk,hc⟩,rfl⟩|⟨h1,h2,h3,rfl⟩<;>rcases h' with⟨k1,rfl⟩|⟨k1,k2,rfl⟩|⟨k1,k2,⟨k',s',hk',hc'⟩,rfl⟩|⟨k1,k2,k3,rfl⟩ <;>
  first|rfl|exact(h1 k1).elim|exact(k1 h1).elim|exact(h2 k2).elim|exact(k2 h2).elim|exact(k3 _ _ hk hc).elim|simp_all
section
variable {p:NM} {i:Int} {f:Lo} {al:Int} (h:AgT p i f al)
 include h
theorem Aml {y:NT} (hl:y.Off.length=f.Slots.length) {s:Int} (h0:0<=s) (h1:s<f.Slots.length):PY ⟨p,i,al,f,y⟩ s=some ⟨Vl y s,Pm f s⟩:=by
 have:=h
 grind [PY,Atz,Alq]
theorem Awo {y:NT} (hyl:y.Off.length=f.Slots.length) {l:Ob} (hl:RO f l.Out) (hk:k<f.Code.length) :
  Hs (Tf ⟨p,i,al,f,y⟩ l (k:Int)) λq=>q=Arr (Vt f l.Out y k):=by
 have hx:=h.RX.at (j:=(k:Int)) (by omega) (by omega)
 have hrow:=hl.at (j:=(k:Int)) (by omega) (by omega)
 rw[aAB]at hx hrow;have hlo:=hrow.2.1.length_le;have none':(∀ s,¬ Wu f l.Out y k s)->Vt f l.Out y k=none:=Akl.2;unfold Tf;simp only[Ov,hx.1,aA,Aij]
 by_cases hdef:(NI f k).Op=16\/(NI f k).Op=17
 ·rw[if_pos hdef];have hA:=h.defs _ hx.2 hdef;have inner:¬ ((NI f k).Op=17/\Vl y (NI f k).A=Vl y (NI f k).B)->Hs (QY l (k:Int) ((NI f k).A,true) ⟨p,i,al,f,y⟩) λq=>q=Arr (Vt f l.Out y k):=by
   intro hnm;unfold QY;rw[Ov,hrow.1,aA];refine Hs.loop (λi=>∃ j:Nat,i=(j:Int)/\j<=(Oe l.Out k).length/\∀ s∈(Oe l.Out k).take j,¬ Wu f l.Out y k s) (λi=>(Oe l.Out k).length-i.toNat) ⟨0,rfl,aAC _,λy hy=>by simp at hy⟩ ?_
   rintro _ ⟨j,rfl,hj,hno⟩;refine .dec (λhlt=>?_) λhge=>.lft (.pure ?_)
   ·have hlt:j<(Oe l.Out k).length:=by omega
    have hgx:(Oe l.Out k)[j]? =some (Oe l.Out k)[j]:=aAA _;have hxm:=aAG hlt;have htk:(Oe l.Out k).take (j+1)=(Oe l.Out k).take j++[(Oe l.Out k)[j]]:=by simp_all
    generalize(Oe l.Out k)[j]=s at hgx hxm htk;have hs0:=(hrow.2.1.2 s hxm).1;have hsn:=hrow.2.2 s hxm;have stp:¬ Wu f l.Out y k s->∀ z∈(Oe l.Out k).take (j+1),¬ Wu f l.Out y k z:=by
     grind
    simp only[Ov,hgx,aA,Aml h hyl hs0 hsn,Aml h hyl hA.1 hA.2,AsK];rw[NP (by omega)]
    refine .bne (λh1=>.cond (λh2=>.lft (.pure ?_)) λh2=>?_) λh1=>?_
    ·have hL:Wu f l.Out y k s:=⟨hdef,hnm,hxm,h1,of_decide_eq_true h2⟩;rw[Vt,Awy hgx (by simp[hL]) λz hz=>by simp_all]
     rfl
    ·exact .cnt ⟨⟨j+1,rfl,hlt,stp λh=>by rw[decide_eq_true h.2.2.2.2]at h2;cases h2⟩,by grind⟩
    ·exact .cnt ⟨⟨j+1,rfl,hlt,stp λh=>h.2.2.2.1 h1⟩,by grind⟩
   ·rw[none' λs hs=>hno s (by rw[aAh (by omega)];exact hs.2.2.1) hs]
    rfl
  refine .beq (λh17=>?_) λh17=>inner λh=>h17 h.1
  have hB:=h.RX.uses _ hx.2 (NI f k).B (by grind [Pr])
  rw[Alq hyl hA.1 hA.2,aA,Alq hyl hB.1 hB.2,aA];refine .beq (λh=>.pure ?_) λh=>inner λh'=>h h'.2
  rw[none' λs hs=>hs.2.1 ⟨h17,h⟩]
  rfl
 ·rw[if_neg hdef];refine .pure ?_;rw[none' λs hs=>hdef hs.1]
  rfl
theorem Auo {y:NT} (hyl:y.Off.length=f.Slots.length) {l:Ob} (hl:RO f l.Out):Hs (Vb ⟨p,i,al,f,y⟩ l) (Adr f l.Out y):=by
 have hlen:=h.RX.len';refine Hs.loop (λi=>∃ k:Nat,i=(k:Int)/\k<=f.Code.length/\∀ j<k,Vt f l.Out y j=none) (λi=>f.Code.length-i.toNat) ⟨0,rfl,aAC _,λj hj=>absurd hj (aAI _)⟩ ?_
 rintro _ ⟨k,rfl,hk,hall⟩;refine .dec (λhlt=>?_) λhge=>.lft (.pure (Or.inr ⟨λj hj=>hall j (by grind),rfl⟩))
 have hlt:k<f.Code.length:=by simp_all
 refine(Awo h hyl hl hlt).bind λq hq=>?_
 subst hq;cases hlk:Vt f l.Out y k with
 | some s=>exact .lft (.pure (Or.inl ⟨k,s,hlt,hlk,hall,rfl⟩))
 | none =>
  simp only[Arr,cond_false];rw[NP (by omega)]
  refine .cnt ⟨⟨k+1,rfl,hlt,λj hj=>?_⟩,by grind⟩
  grind
theorem AwW (y:NT) {l:Ob} (hl:Ue l.Out):Hs (Vc ⟨p,i,al,f,y⟩ l) λe=>(¬ RP p f al y/\e=13)\/(RP p f al y/\¬ Acc f l.Out/\e=11)\/(RP p f al y/\Acc f l.Out/\e=0):=by
 refine(Aup h y).bind λe he=>.bne (λhne=>.pure (.inl ⟨λhs=>hne (he.2.2 hs),?_⟩)) λh0=>?_
 ·omega
 refine(Amz h.RX hl).bind λc hc=>.bne (λhne=>.pure (.inr (.inl ⟨he.2.1 h0,λha=>hne (hc.2.2 ha),rfl⟩))) λhc0=>.pure (.inr (.inr ⟨he.2.1 h0,hc.2.1 hc0,rfl⟩))
theorem Ajr (y:NT) {l:Ob} (hl:Ue l.Out):Hs (XS p i al l y) (Adt p f al l.Out y):=by
 unfold XS;rw[h.hi,aA];refine(AwW h y hl).bind λe he=>.bne (λhne=>.pure ?_) λh0=>?_
 ·rcases he with⟨h1,h2⟩|⟨h1,h2,h3⟩|⟨_,_,h3⟩
  ·exact .inl ⟨h1,h2⟩
  ·exact .inr (.inl ⟨h1,h2,h3⟩)
  omega
 obtain⟨hs,ha⟩:RP p f al y/\Acc f l.Out:=by
  simp_all
 refine(Auo h hs.2.1 ha.1).bind λq hq=>.cond (λhb=>.pure (.inr (.inr (.inl ⟨hs,ha,hq.found.1 hb,rfl⟩)))) λhb=>.pure (.inr (.inr (.inr ⟨hs,ha,λk s hk hc=>?_,rfl⟩)))
 rw[hq.found.2 ⟨k,s,hk,hc⟩]at hb;cases hb
end
open Go Go.Dw Go.Proofs
theorem Axb:∀ k:Fin 17,Xc ((k:Nat):Int)=Tk ((k:Nat):Int)/\(Tk ((k:Nat):Int)).isSome=true:=by decide +kernel
theorem ApG (n:Int):∃ b,Xc n=some b/\Tk n=some b:=by
 by_cases h:1<=n/\n<=16
 ·have:=Axb ⟨n.toNat,by omega⟩
  grind [Option.isSome_iff_exists]
 ·refine⟨false,?_,?_⟩
  ·grind [Xc]
  ·unfold Tk;have e1:(n==1)=false:=by simp;omega
   have e2:(n==2)=false:=by simp;omega
   have e3:(n==4)=false:=by simp;omega
   have e4:(n==8)=false:=by simp;omega
   have e5:(n==16)=false:=by simp;omega
   grind
def Pw (n:Int):Prop:=∃ i:Nat,i<=24/\n=(2 ^ i:Nat)
theorem Ali (n:Int) (j:Nat) (hj:j<=24):RU n ((2 ^ j:Nat):Int)=if n=(2 ^ j:Nat)then some (.inr true)else some (.inl ((2 ^ (j+1):Nat):Int)):=by
 have h1:2 ^ j<=2 ^ 24:=aAL (by decide) hj
 have h2:(2 ^ j:Nat)<=16777216:=by omega
 have w:IntKind.i64.wrap (((2 ^ j:Nat):Int)*2)=((2 ^ (j+1):Nat):Int):=by
  grind [wrap64]
 unfold RU;have hd:decide (((2 ^ j:Nat):Int)<=16777216)=true:=by grind
 simp_all
theorem AvI (n:Int):∀ (d j:Nat),j+d<=24->n=(2 ^ (j+d):Nat)->NW (λs=>RU n s) ((2 ^ j:Nat):Int)=some true:=by
 intro d
 induction d with
 | zero =>
  intro j hj hn;rw[Vy];rw[Ali n j (by omega),if_pos (by omega)]
 | succ d ih =>
  intro j hj hn;rw[Vy];rw[Ali n j (by omega),if_neg]
  ·grind
  ·have:2 ^ j<2 ^ (j+(d+1)):=Nat.pow_lt_pow_right (by decide) (by omega)
   omega
theorem Aog (n:Int) (h:¬ Pw n):∀ (d j:Nat),j+d=25->NW (λs=>RU n s) ((2 ^ j:Nat):Int)=some false:=by
 intro d
 induction d with
 | zero =>
  simp_all[Vy,RU]
 | succ d ih =>
  intro j hj;rw[Vy];rw[Ali n j (by omega),if_neg (λe=>h ⟨j,by omega,e⟩)]
  grind
theorem AxW (h:2 ^ i<=16777216):i<=24:=by
 by_cases hi:i<=24
 ·exact hi
 ·have:2 ^ 25<=2 ^ i:=aAL (by decide) (by omega)
  omega
theorem AnJ (n:Int):∃ b,Qx n=some b/\QU n=some b:=by
 have hr:QU n=NW (λs=>RU n s) ((2 ^ 0:Nat):Int):=rfl
 by_cases h:1<=n/\n<=16777216
 ·obtain⟨m,rfl⟩:∃ m:Nat,n=m:=⟨n.toNat,by omega⟩
  have e1:Qx (m:Int)=some (decide (m &&& (m-1)=0)):=by
   unfold Qx;have h1:((m:Int)>=1):=h.1;have h2:((m:Int)<=16777216):=h.2;have w:IntKind.i64.wrap ((m:Int)-1)=((m-1:Nat):Int):=by grind [wrap64]
   have t1:(aAP IntKind.i64.bits (m:Int)).toNat=m:=by
    show(aAP 64 (m:Int)).toNat=m
    grind
   have t2:(aAP IntKind.i64.bits ((m-1:Nat):Int)).toNat=m-1:=by
    grind
   have hle:m &&& (m-1)<=m:=Nat.and_le_left;have w2:IntKind.i64.wrap ((m &&& (m-1):Nat):Int)=((m &&& (m-1):Nat):Int):=wrap64 (by omega) (by omega)
   rw[decide_eq_true h1,cond_true,decide_eq_true h2,cond_true,w,aAb,t1,t2,w2];congr 1
   grind
  by_cases hp:m &&& (m-1)=0
  ·obtain⟨i,hi⟩:=(aAV (show m≠0 by omega)).1 hp
   refine⟨true,by simp_all,?_⟩
   exact AvI _ i 0 (by have:=AxW (i:=i) (by omega);omega) (by simp_all)
  ·refine⟨false,by simp_all,?_⟩
   refine Aog _ (λ⟨i,_,hi⟩=>hp ?_) 25 0 (by omega)
   exact(aAV (show m≠0 by omega)).2 ⟨i,by omega⟩
 ·refine⟨false,?_,?_⟩
  ·grind [Qx]
  ·rw[hr];refine Aog _ (λ⟨i,hi24,hi⟩=>h ?_) 25 0 (by omega)
   have h1:2 ^ i<=2 ^ 24:=aAL (by decide) hi24
   grind
noncomputable def Aby (x:NS):Bool:=(Tk x.Size).getD false&&(QU x.Align).getD false
theorem Avc (x:NS):TR x=some (!Aby x):=by
 obtain⟨a,a1,a2⟩:=ApG x.Size;obtain⟨b,b1,b2⟩:=AnJ x.Align
 grind [TR,Aby]
def Akc (s:List NS) (e:Int):Prop:=(512<s.length/\e=3)\/(s.length<=512/\(∀ x∈s,Aby x=true)/\e=0)\/(s.length<=512/\(∃ x∈s,Aby x=false)/\e=5)
theorem Akc.one {a b:Int} (h:Akc s a) (k:Akc s b):a=b:=by
 rcases h with⟨h1,h2⟩|⟨h1,h2,h3⟩|⟨h1,⟨x,h2,h3⟩,h4⟩<;>rcases k with⟨k1,k2⟩|⟨k1,k2,k3⟩|⟨k1,⟨y,k2,k3⟩,k4⟩<;>first
  | omega
  | (simp_all)
  | simp_all
theorem Arm (s:List NS):Hs (Uu s) (Akc s):=by
 refine .dec (λh=>.pure (.inl ⟨by omega,rfl⟩)) λh=>?_
 have hl:s.length<=512:=by omega
 have key:Hs (NW (λst=>Pb s st) 0) λr=>(r= -1/\∀ x∈s,Aby x=true)\/(0<=r/\∃ x∈s,Aby x=false):=by
  refine Hs.loop (λi=>0<=i/\i<=s.length/\∀ (j:Nat) x,(j:Int)<i->s[j]? =some x->Aby x=true) (λi=>s.length-i.toNat) ⟨by omega,by omega,λj x h=>by omega⟩ ?_
  rintro i ⟨h0,h1,h2⟩;refine .dec (λhlt=>?_) λhlt=>?_
  ·refine(Hs.ix h0 hlt λx hx=>hx).bind λx hx=>?_
   rw[Avc,aA];refine .cond (λhb=>.lft (.pure (.inr ⟨h0,x,aAD hx,by simp_all⟩))) λhb=>?_
   have w:IntKind.i64.wrap (i+1)=i+1:=wrap64 (by omega) (by omega)
   rw[w];refine .cnt ⟨⟨by omega,by omega,λj y hj hy=>?_⟩,by grind⟩
   grind
  ·refine .lft (.pure (.inl ⟨rfl,λx hx=>?_⟩))
   grind [aAk]
 refine Hs.bind (P:=λb=>(b=false/\∀ x∈s,Aby x=true)\/(b=true/\∃ x∈s,Aby x=false)) (key.bind λr hr=>.pure ?_) λb hb=>?_
 ·grind
 ·rcases hb with⟨rfl,h⟩|⟨rfl,h⟩
  ·exact .pure (.inr (.inl ⟨hl,h,rfl⟩))
  ·exact .pure (.inr (.inr ⟨hl,h,rfl⟩))
theorem AvD (s:List NS):Hs (Uj s) (Akc s):=by
 refine .dec (λh=>.pure (.inl ⟨by omega,rfl⟩)) λh=>?_
 have hl:s.length<=512:=by omega
 refine Hs.loop (λi=>0<=i/\i<=s.length/\∀ (j:Nat) x,(j:Int)<i->s[j]? =some x->Aby x=true) (λi=>s.length-i.toNat) ⟨by omega,by omega,λj x h=>by omega⟩ ?_
 rintro i ⟨h0,h1,h2⟩;refine .dec (λhlt=>?_) λhlt=>?_
 ·refine(Hs.ix h0 hlt λx hx=>hx).bind λx hx=>?_
  obtain⟨a,a1,a2⟩:=ApG x.Size;obtain⟨b,b1,b2⟩:=AnJ x.Align;have hg:Aby x=(a&&b):=by grind [Aby]
  rw[a2,aA];have hx':ixO s i=some x:=by grind [Ps]
  cases a
  ·exact .lft (.pure (.inr (.inr ⟨hl,⟨x,aAD hx,hg⟩,rfl⟩)))
  ·rw[hx',aA,b2,aA];cases b
   ·exact .lft (.pure (.inr (.inr ⟨hl,⟨x,aAD hx,hg⟩,rfl⟩)))
   ·simp only[aAN,cond_false];have w:IntKind.i64.wrap (i+1)=i+1:=wrap64 (by omega) (by omega)
    rw[w];refine .cnt ⟨⟨by omega,by omega,λj y hj hy=>?_⟩,by grind⟩
    grind
 ·refine .lft (.pure (.inr (.inl ⟨hl,λx hx=>?_,rfl⟩)))
  grind [aAk]
theorem Auy (s:List NS):∃ e,Uu s=some e/\Uj s=some e/\(e=0->s.length<=512):=by
 obtain⟨a,a1,a2⟩:=Arm s;obtain⟨b,b1,b2⟩:=AvD s;obtain rfl:=a2.one b2;exact⟨a,a1,b1,λh=>by rcases a2 with h1|h1|h1<;>omega⟩
def Ala (s:List NS):Int:=s.foldl (λa x=>OI a x.Align) 16
theorem Ank (s:List NS):∃ a,XQ s=some a/\Vq s=some a:=by
 obtain⟨e,h1,h2,h3⟩:=Auy s;unfold XQ Vq;rw[h1,h2,aA,aA]
 by_cases he:e=0
 ·subst he;have hl:=h3 rfl;simp only[beq_self_eq_true,cond_true,bne_self_eq_false,cond_false];have p1:Hs (NW (λq=>AcD s q.1 q.2) (0,16)) λa=>a=Ala s:=by
   refine Hs.loop (λq=>∃ k:Nat,q.1=(k:Int)/\k<=s.length/\q.2=Ala (s.take k)) (λq=>s.length-q.1.toNat) ⟨0,rfl,aAC _,rfl⟩ ?_
   rintro⟨_,_⟩ ⟨k,rfl,hk,rfl⟩;refine .dec (λhlt=>?_) λhge=>.lft (.pure ?_)
   ·have hlt:k<s.length:=by omega
    rw[Ov,aAA hlt,aA,NP (by omega)]
    refine .cnt ⟨⟨k+1,rfl,hlt,?_⟩,by grind⟩
    grind [Ala,aAT]
   ·have hkk:k=s.length:=by omega
    subst hkk;show Ala _=_;simp_all
  have p2:Hs (NW (λq=>Aam s q.1 q.2) (16,0)) λa=>a=Ala s:=by
   refine Hs.loop (λq=>∃ k:Nat,q.2=(k:Int)/\k<=s.length/\q.1=Ala (s.take k)) (λq=>s.length-q.2.toNat) ⟨0,rfl,aAC _,rfl⟩ ?_
   rintro⟨_,_⟩ ⟨k,rfl,hk,rfl⟩;refine .dec (λhlt=>?_) λhge=>.lft (.pure ?_)
   ·have hlt:k<s.length:=by omega
    rw[Ov,aAA hlt,aA,NP (by omega)]
    refine .cnt ⟨⟨k+1,rfl,hlt,?_⟩,by grind⟩
    grind [Ala,aAT]
   ·have hkk:k=s.length:=by omega
    subst hkk;show Ala _=_;simp_all
  obtain⟨a,q1,rfl⟩:=p1;obtain⟨b,q2,rfl⟩:=p2;simp_all
 grind
theorem AsV (p:NM) (hp:p.Funcs.length<=1000000):∃ a,Si p=some a/\RL p=some a:=by
 have step:∀ k≤p.Funcs.length,∃ a:Int,∀ b:Int,True:=λ_ _=>⟨0,λ_=>trivial⟩
 let al:Lo->Int:=λf=>Classical.choose (Ank f.Slots)
 have hal:∀ f:Lo,XQ f.Slots=some (al f)/\Vq f.Slots=some (al f):=λf=>Classical.choose_spec (Ank f.Slots)
 let A:List Lo->Int:=λl=>l.foldl (λa f=>OI a (al f)) 16
 have hA:∀ k (hk:k<p.Funcs.length),A (p.Funcs.take (k+1))=OI (A (p.Funcs.take k)) (al p.Funcs[k]):=λk hk=>by
  grind [aAT]
 have p1:Hs (Si p) λa=>a=A p.Funcs:=by
  refine Hs.loop (λq=>∃ k:Nat,q.2=(k:Int)/\k<=p.Funcs.length/\q.1=A (p.Funcs.take k)) (λq=>p.Funcs.length-q.2.toNat) ⟨0,rfl,aAC _,rfl⟩ ?_
  rintro⟨_,_⟩ ⟨k,rfl,hk,rfl⟩;refine .dec (λhlt=>?_) λhge=>.lft (.pure ?_)
  ·have hlt:k<p.Funcs.length:=by omega
   rw[Ov,aAA hlt,aA,(hal _).1,aA,NP (by omega)]
   exact .cnt ⟨⟨k+1,rfl,hlt,(hA k hlt).symm⟩,by grind⟩
  ·have hkk:k=p.Funcs.length:=by omega
   subst hkk;show A _=_;simp_all
 have p2:Hs (RL p) λa=>a=A p.Funcs:=by
  refine Hs.loop (λq=>∃ k:Nat,q.2=(k:Int)/\k<=p.Funcs.length/\q.1=A (p.Funcs.take k)) (λq=>p.Funcs.length-q.2.toNat) ⟨0,rfl,aAC _,rfl⟩ ?_
  rintro⟨_,_⟩ ⟨k,rfl,hk,rfl⟩;refine .dec (λhlt=>?_) λhge=>.lft (.pure ?_)
  ·have hlt:k<p.Funcs.length:=by omega
   rw[Ov,aAA hlt,aA,(hal _).2,aA,NP (by omega)]
   exact .cnt ⟨⟨k+1,rfl,hlt,(hA k hlt).symm⟩,by grind⟩
  ·have hkk:k=p.Funcs.length:=by omega
   subst hkk;show A _=_;simp_all
 obtain⟨a,q1,rfl⟩:=p1;obtain⟨b,q2,rfl⟩:=p2;simp_all
theorem AoN (p:NM) {i:Int} (f:Lo) (hp:p.Funcs.length<=1000000) (h0:0<=i) (h1:i<p.Funcs.length):Ty p i f=some ⟨p.Funcs.set i.toNat f⟩:=by
 unfold Ty Ard ZC
 grind [Ou]
theorem Asc (p:NM) {i:Int} (f:Lo) (hp:p.Funcs.length<=1000000) (h0:0<=i) (h1:i<p.Funcs.length):Aay p i f=some ⟨p.Funcs.set i.toNat f⟩:=by
 grind [Aay,Abx,Ou]
structure Ahq (p:NM) (i:Int) (f:Lo):Prop where
 hi:ixO p.Funcs i=some f
 arg:Abr p f
 so:∀ x∈f.Slots,Aee x
 sl:f.Slots.length<=40
 RX:Ot f
 defs:Rx f
 ml:Acs f
 last:XH f
 calls:Aes p.Funcs.length f
 pl:p.Funcs.length<=1000
 all:∀ g∈p.Funcs,AaY g.Slots
theorem Ra.opt (h:Ra p) {i:Int} (hi:ixO p.Funcs i=some f):Ahq p i f:=by
 obtain⟨i0,i1,hif⟩:=AbF hi;have hm:=aAD hif;have hg:=h.all f hm;have hl:=h.few;exact⟨hi,h.args hm,hg.slot,hg.slots,hg.RX,hg.defs,hg.AnG,hg.last,by have:=hg.calls;simp_all,by omega,λg hgm=>(h.all g hgm).AyZ⟩
section
variable {p:NM} {i:Int} {f:Lo} (h:Ahq p i f)
 include h
theorem Ahq.align:∃ al,Si p=some al/\RL p=some al/\QF al/\16<=al/\al<=16777216:=by
 obtain⟨al,eal,eal'⟩:=AsV p (by have:=h.pl;omega)
 obtain⟨a,e,ha⟩:=AwN (B:=16777216) (by omega) h.pl λg hg=>⟨by have:=(h.all g hg).1;omega,λx hx=>⟨((h.all g hg).2 x hx).1,((h.all g hg).2 x hx).2.1⟩⟩
 simp_all
theorem Ahq.lay {al:Int} (ha:QF al/\16<=al/\al<=16777216):AgT p i f al:=⟨h.hi,h.arg,⟨h.sl,λx hx=>(h.so x hx).al⟩,ha.1,ha.2.1,ha.2.2,h.RX,h.defs,h.ml⟩
theorem Ahq.next {r:NV} (hr:SB f r) {q:Lo} (ha:Rq f r=some (q,0)) (hx:Zu f r (q,0)) {al:Int} (hal:QF al/\16<=al/\al<=16777216):AgT ⟨p.Funcs.set i.toNat q⟩ i q al/\q.Params=f.Params/\Aes p.Funcs.length q/\(∀ x∈q.Slots,Aee x):=by
 obtain⟨i0,i1,hif⟩:=AbF h.hi;have hf:=h.RX;obtain⟨qf,qd,qc⟩:Ot q/\Rx q/\Aes p.Funcs.length q:=by
  obtain⟨q',e,_,h1,h2,h3⟩:=Asz hf h.defs h.last h.calls hr;simp_all
 have hml:=hx.Ayq hf h.defs h.ml hr;obtain⟨_,hqp,used,to',pl,hu,hsx,hn,hpl,hcode⟩:=id hx;have hslot:=TK.Azq h.so hr.1.1 hsx;have hul:q.Slots.length<=f.Slots.length:=by
  rw[hsx.len];have:=AhW (l:=used) (a:=0) (n:=(f.Slots.length:Int)) hu.1.1 λv hv=>by
   obtain⟨_,j,hj,hk,hv'⟩:=(hu.2 v).1 hv;exact ZQ hf h.defs hr.1 (hf.at (j:=(j:Int)) (by omega) (by omega)).2 v hv'
  omega
 have harg:Abr ⟨p.Funcs.set i.toNat q⟩ q:=by
  intro y hy;rw[hcode]at hy;obtain⟨pn,hp⟩:=aAH hy;obtain⟨j,h1,_,_,rfl⟩:=(Xt (f:=f) (keep:=r.Keep) (to:=to') (pl:=pl) _ (by rw[hr.2.1];omega)).2 pn y hp
  have hm:=(hf.at (j:=(j:Int)) (by omega) (by omega)).2
  rw[AlA,Adh];refine⟨λe=>?_,λe=>?_⟩
  ·rw[Ani (.inl e)];exact(h.arg _ hm).1 e
  ·rw[Ani (.inr e)];obtain⟨a0,gg,hgg,hpp⟩:=(h.arg _ hm).2 e
   grind
 have hset:ixO (⟨p.Funcs.set i.toNat q⟩:NM).Funcs i=some q:=by
  grind [Ps]
 have hsl:AaY q.Slots:=⟨by have:=h.sl;omega,λx hx=>(hslot x hx).al⟩
 exact⟨⟨hset,harg,hsl,hal.1,hal.2.1,hal.2.2,qf,qd,hml⟩,hqp,qc,hslot⟩
end
open Go Go.Dw Go.Proofs
attribute [local simp] Ou aAS
inductive AbA (n size params frames:Int):Mk->Prop
 | load (a o s:Int):TD a->s∈([1,2,4,8,16]:List Int)->0<=o->o+s<=size+16*params->AbA n size params frames ⟨15,a,o,s,0⟩
 | store (o b s:Int):TD b->s∈([1,2,4,8,16]:List Int)->0<=o->o+s<=size->AbA n size params frames ⟨16,o,b,s,0⟩
 | move (o o' s:Int):s∈([1,2,4,8,16]:List Int)->0<=o->o+s<=size->0<=o'->o'+s<=size->AbA n size params frames ⟨17,o,o',s,0⟩
 | const (a w:Int):TD a->AbA n size params frames ⟨0,a,0,0,w⟩
 | bin (op a b c:Int):2<=op->op<12->TD a->TD b->TD c->AbA n size params frames ⟨op,a,b,c,0⟩
 | one (op a:Int):(op=13\/op=14)->TD a->AbA n size params frames ⟨op,a,0,0,0⟩
 | two (op a b:Int):(op=1\/op=12)->TD a->TD b->AbA n size params frames ⟨op,a,b,0,0⟩
 | call (j:Int):0<=j->j<frames->AbA n size params frames ⟨22,j,0,0,0⟩
 | jump (t:Int):0<=t->t<n->AbA n size params frames ⟨20,t,0,0,0⟩
 | branch (a t:Int):TD a->0<=t->t<n->AbA n size params frames ⟨21,a,t,0,0⟩
 | ret:AbA n size params frames ⟨23,0,0,0,0⟩
 | trap (w:Int):AbA n size params frames ⟨24,0,0,0,w⟩
theorem QI (n l:Int):Ro n l=some (decide (0<=n/\n<l)):=by
 grind [Ro]
theorem Wp:∀ {s:List Int},s.length<=1000->(∀ x∈s,0<=x/\x<8)->Pj s=some false:=by
 intro s hl hs;unfold Pj;have hh:Hs (Pz s) λr=>r= -1:=by
  unfold Pz;refine Hs.loop (λi=>∃ k:Nat,i=(k:Int)/\k<=s.length) (λi=>s.length-i.toNat) ⟨0,rfl,aAC _⟩ λi ⟨k,hi,hk⟩=>?_
  subst hi;unfold QX;refine .dec (λhlt=>?_) λhlt=>.lft (.pure rfl)
  refine(Hs.ix (l:=s) (i:=(k:Int)) (by omega) hlt λz hz=>hz).bind λx hx=>?_
  have hr:=hs x (aAD hx);have hb:Uv x=some false:=by grind [Uv,QI]
  rw[hb,aA];refine .cond (λe=>absurd e (by simp)) λe=>.cnt ⟨⟨k+1,NP (by omega),by omega⟩,?_⟩
  grind [NP]
 obtain⟨r,h1,rfl⟩:=hh;rw[h1];rfl
theorem Als {s:Int} (h:s∈([1,2,4,8,16]:List Int)):Xc s=some true/\1<=s/\s<=16:=by
 simp only[aAX,List.not_mem_nil,or_false]at h;rcases h with rfl|rfl|rfl|rfl|rfl<;>exact⟨by decide +kernel,by decide,by decide⟩
section
variable {f:Oz} {n size params:Int} (hn:(f.Frame.Code.length:Int)=n) (hs:f.Frame.Size=size) (hp:f.Frame.Params=params) (hs0:0<=size) (hs1:size<=2147483519) (hp0:0<=params) (hp1:params<=8)
 include hn hs hp hs0 hs1 hp0 hp1
theorem Azm (h:AbA n size params f.frames x):OX f x=some 0:=by
 have hw:IntKind.i64.wrap (f.Frame.Size+IntKind.i64.wrap (16*f.Frame.Params))=size+16*params:=by
  grind [wrap64]
 have ins:∀ {o s k:Int},0<=o->1<=s->o+s<=k->k<=2147483647->Sx ⟨o,s⟩ k=some true:=by
  intro o s k h0 h1 h2 h3;rw[Anw];congr 1;rw[decide_eq_true_eq]
  grind [InI,Rj]
 cases h with
 | load a o s ha hsz h0 h1 =>
  obtain⟨z1,z2,z3⟩:=Als hsz;obtain⟨a0,a1⟩:=ha;have hr:=Wp (s:=[a]) (by simp) (by simp;omega)
  have hi:=ins h0 z2 h1 (by omega)
  simp[OX,QI,OO,QA,Po,Pg,OR,Qp,PC,OT,OY,OL,hr,OJ,z1,OK,Rh,Qz,hw,hi,OA]
 | store o b s hb hsz h0 h1 =>
  obtain⟨z1,z2,z3⟩:=Als hsz;obtain⟨a0,a1⟩:=hb;have hr:=Wp (s:=[b]) (by simp) (by simp;omega)
  have hi:=ins h0 z2 h1 (by omega)
  simp[OX,QI,OO,QA,Po,Pg,OR,Qp,PC,OT,OY,OL,hr,OJ,z1,OK,Rh,Qz,hs,hi,OA]
 | move o o' s hsz h0 h1 h2 h3 =>
  obtain⟨z1,z2,z3⟩:=Als hsz;have hr:=Wp (s:=[]) (by simp) (by simp)
  have hi:=ins h0 z2 h1 (by omega)
  have hi':=ins (k:=size+16*params) h2 z2 (by omega) (by omega)
  have hw2:=hw;rw[hs]at hw2;simp[OX,QI,OO,QA,Po,Pg,OR,Qp,PC,OT,OY,OL,hr,OJ,z1,OK,Rh,Qz,hw2,hs,hi,hi',OA]
 | const a w ha =>
  obtain⟨a0,a1⟩:=ha;have hr:=Wp (s:=[a]) (by simp) (by simp;omega)
  simp[OX,QI,OO,QA,Po,Pg,PD,OR,Qp,PC,OT,OY,OL,hr,OJ,OK,Rh,Qz,OA]
 | bin op a b c h0 h1 ha hb hc =>
  obtain⟨a0,a1⟩:=ha;obtain⟨b0,b1⟩:=hb;obtain⟨c0,c1⟩:=hc;have hr:=Wp (s:=[a,b,c]) (by simp) (by simp;omega)
  have ho:op=2\/op=3\/op=4\/op=5\/op=6\/op=7\/op=8\/op=9\/op=10\/op=11:=by omega
  rcases ho with rfl|rfl|rfl|rfl|rfl|rfl|rfl|rfl|rfl|rfl<;>simp[OX,QI,OO,QA,Po,Pg,OR,Qp,PC,OT,hr,OJ,OK,Rh,Qz,OA]
 | one op a ho ha =>
  obtain⟨a0,a1⟩:=ha;have hr:=Wp (s:=[a]) (by simp) (by simp;omega)
  rcases ho with rfl|rfl<;>simp[OX,QI,OO,QA,Po,Pg,PD,OR,Qp,PC,OT,OY,OL,hr,OJ,OK,Rh,Qz,OA]
 | two op a b ho ha hb =>
  obtain⟨a0,a1⟩:=ha;obtain⟨b0,b1⟩:=hb;have hr:=Wp (s:=[a,b]) (by simp) (by simp;omega)
  rcases ho with rfl|rfl<;>simp[OX,QI,OO,QA,Po,Pg,PD,OR,Qp,PC,OT,OY,OL,hr,OJ,OK,Rh,Qz,OA]
 | call j h0 h1 =>
  have hr:=Wp (s:=[]) (by simp) (by simp)
  simp[OX,QI,OO,QA,Po,Pg,PD,OR,Qp,PC,OT,OY,OL,hr,OJ,OK,Rh,Qz,OA,h0,h1]
 | jump t h0 h1 =>
  have hr:=Wp (s:=[]) (by simp) (by simp)
  simp[OX,QI,OO,QA,Po,Pg,PD,OR,Qp,PC,OT,OY,OL,hr,OJ,OK,Rh,Qz,OA,h0,h1,hn]
 | branch a t ha h0 h1 =>
  obtain⟨a0,a1⟩:=ha;have hr:=Wp (s:=[a]) (by simp) (by simp;omega)
  simp[OX,QI,OO,QA,Po,Pg,PD,OR,Qp,PC,OT,OY,OL,hr,OJ,OK,Rh,Qz,OA,h0,h1,hn]
 | ret =>
  have hr:=Wp (s:=[]) (by simp) (by simp)
  simp[OX,QI,OO,QA,Po,Pg,PD,OR,Qp,PC,OT,OY,OL,hr,OJ,OK,Rh,Qz,OA]
 | trap w =>
  have hr:=Wp (s:=[]) (by simp) (by simp)
  simp[OX,QI,OO,QA,Po,Pg,PD,OR,Qp,PC,OT,OY,OL,hr,OJ,OK,Rh,Qz,OA]
end
open Go Go.Dw Go.Proofs
attribute [local simp] Ou aAS
structure Awc (frames:List OG) (al:Int) (fr:OG):Prop where
 par:0<=fr.Params/\fr.Params<=8
 size:0<=fr.Size/\fr.Size<=2147483519
 al_:fr.Size.tmod al=0
 len:1<=fr.Code.length/\fr.Code.length<=1024
 code:∀ x∈fr.Code,AbA fr.Code.length fr.Size fr.Params frames.length x
 last:∀ x,fr.Code[fr.Code.length-1]? =some x->PS x.Op=some true
 call:∀ x∈fr.Code,x.Op=22->∃ g,ixO frames x.A=some g/\0<=g.Params/\g.Params<=8/\16*g.Params<=fr.Size
section
variable {t:OW} (hal:Qx t.Align=some true) (h16:16<=t.Align) (hl:1<=t.Frames.length/\t.Frames.length<=80) (hfr:∀ fr∈t.Frames,Awc t.Frames t.Align fr)
 include hal h16 hl hfr
theorem Avs (hi:t.Frames[i]? =some fr):AfL t (i:Int)=some (⟨fr,t.Align,t.Frames.length⟩,true):=by
 have _z:=hl
 have h:=hfr fr (aAD hi);have hil:=(aAE.1 hi).1;have hp:=h.par;have hs:=h.size;unfold AfL;rw[QI,decide_eq_true (by omega),aA]
 rw[Ps _ (by omega),aAB,hi,aA,hal,aA,cond_true,QI,decide_eq_true (by omega),aA,cond_true,QI,decide_eq_true (by omega),aA,cond_true,Ou (by omega),h.al_]
 rfl
theorem Avq (hi:t.Frames[i]? =some fr):WM t (i:Int)=some 0:=by
 have h:=hfr fr (aAD hi);have hlen:=h.len;unfold WM;rw[Avs hal h16 hl hfr hi,aA];simp only[aAN,cond_false];rw[decide_eq_false (by omega),cond_false]
 have hh:Hs (NW (λs=>WN (⟨fr,t.Align,t.Frames.length⟩,true) s) 0) λr=>r=0:=by
  refine Hs.loop (λi=>∃ k:Nat,i=(k:Int)/\k<=fr.Code.length) (λi=>fr.Code.length-i.toNat) ⟨0,rfl,aAC _⟩ λi ⟨k,hi,hk⟩=>?_
  subst hi;unfold WN;dsimp only;refine .dec (λhlt=>?_) λhlt=>.lft ?_
  ·refine(Hs.ix (l:=fr.Code) (i:=(k:Int)) (by omega) hlt λz hz=>hz).bind λx hx=>?_
   simp only[aAB]at hx;rw[Azm (f:=⟨fr,t.Align,t.Frames.length⟩) rfl rfl rfl h.size.1 h.size.2 h.par.1 h.par.2 (h.code x (aAD hx)),aA];refine .bne (λe=>absurd rfl e) λe=>.cnt ⟨⟨k+1,NP (by omega),by omega⟩,?_⟩
   grind [NP]
  ·refine .beq (λe=>by omega) λe=>?_
   obtain⟨x,hx⟩:∃ x,fr.Code[fr.Code.length-1]? =some x:=⟨fr.Code[fr.Code.length-1]'(by omega),aAA (by omega)⟩
   rw[wrap64 (by omega) (by omega),Ps _ (by omega),show((fr.Code.length:Int)-1).toNat=fr.Code.length-1 by omega,hx,aA,h.last x hx,aA]
   exact .pure rfl
 obtain⟨r,h1,rfl⟩:=hh;exact h1
theorem Avo (h:Awc t.Frames t.Align fr):VJ ⟨fr,t.Align,t.Frames.length⟩ t=some true:=by
 have _z:=hal;have _z:=h16;have _z:=hl;have _z:=hfr
 have hlen:=h.len;unfold VJ Pe;have hh:Hs (OP fr.Code t ⟨fr,t.Align,t.Frames.length⟩) λr=>r= -1:=by
  unfold OP;refine Hs.loop (λi=>∃ k:Nat,i=(k:Int)/\k<=fr.Code.length) (λi=>fr.Code.length-i.toNat) ⟨0,rfl,aAC _⟩ λi ⟨k,hi,hk⟩=>?_
  subst hi;unfold PQ;refine .dec (λhlt=>?_) λhlt=>.lft (.pure rfl)
  refine(Hs.ix (l:=fr.Code) (i:=(k:Int)) (by omega) hlt λz hz=>hz).bind λx hx=>?_
  simp only[aAB]at hx;have hb:RI x t ⟨fr,t.Align,t.Frames.length⟩=some false:=by
   unfold RI
   by_cases e:x.Op=22
   ·obtain⟨g,hg,g0,g1,g2⟩:=h.call x (aAD hx) e;rw[show(x.Op==22)=true by simp[e],cond_true,hg,aA,wrap64 (by omega) (by omega)]
    simp_all
   simp_all
  rw[hb,aA];refine .cond (λe=>absurd e (by simp)) λe=>.cnt ⟨⟨k+1,NP (by omega),by omega⟩,?_⟩
  grind [NP]
 obtain⟨r,h1,rfl⟩:=hh;rw[h1];rfl
theorem Avp (h0:∀ fr,t.Frames[0]? =some fr->fr.Params=0):Aaj t=some 0:=by
 obtain⟨x,hx⟩:∃ x,t.Frames[0]? =some x:=⟨t.Frames[0]'(by omega),aAA (by omega)⟩
 unfold Aaj;rw[decide_eq_false (by omega),cond_false,show((t.Frames.length:Int)==0)=false by grind,cond_false,hal,aA]
 rw[decide_eq_false (by omega)]
 unfold YC;rw[cond_false,Ps _ (by omega)]
 simp only[Int.toNat_zero,hx,aA,h0 x hx,bne_self_eq_false,cond_false];have hh:Hs (Abu t) λr=>r=0:=by
  refine Hs.loop (λi=>∃ k:Nat,i=(k:Int)/\k<=t.Frames.length) (λi=>t.Frames.length-i.toNat) ⟨0,rfl,aAC _⟩ λi ⟨k,hi,hk⟩=>?_
  subst hi;refine .dec (λhlt=>?_) λhlt=>.lft ?_
  ·obtain⟨x,hx⟩:∃ x,t.Frames[k]? =some x:=⟨t.Frames[k]'(by omega),aAA (by omega)⟩
   rw[Avq hal h16 hl hfr hx,aA];refine .bne (λe=>absurd rfl e) λe=>.cnt ⟨⟨k+1,NP (by omega),by omega⟩,?_⟩
   grind [NP]
  ·refine Hs.loop (λi=>∃ k:Nat,i=(k:Int)/\k<=t.Frames.length) (λi=>t.Frames.length-i.toNat) ⟨0,rfl,aAC _⟩ λi ⟨k,hi,hk⟩=>?_
   subst hi;unfold AeZ;refine .dec (λhlt=>?_) λhlt=>.lft (.pure rfl)
   obtain⟨x,hx⟩:∃ x,t.Frames[k]? =some x:=⟨t.Frames[k]'(by omega),aAA (by omega)⟩
   rw[Avs hal h16 hl hfr hx,aA];simp only;rw[Avo hal h16 hl hfr (hfr x (aAD hx)),aA];refine .cond (λe=>absurd e (by simp)) λe=>.cnt ⟨⟨k+1,NP (by omega),by omega⟩,?_⟩
   grind [NP]
 obtain⟨r,h1,rfl⟩:=hh;exact h1
end
open Go Go.Dw Go.Proofs
attribute [local simp] Ou aAS
def Pp (f:Lo) (y:NT) (x:Mk):Mk :=
 if x.Op=15 then⟨15,x.A,Vl y x.B,Pm f x.B,0⟩
 else if x.Op=16 then⟨16,Vl y x.A,x.B,Pm f x.A,0⟩
 else if x.Op=17 then⟨17,Vl y x.A,Vl y x.B,Pm f x.A,0⟩
 else if x.Op=18 then⟨16,16*x.A,x.B,16,0⟩
 else if x.Op=19 then⟨15,x.A,y.Size+16*x.B,16,0⟩
 else x
theorem AtN (p:NM) (n:Int) (x:Mk):n<=Sk p n x:=by
 unfold Sk;split
 ·simp_all[Ait]
 ·split
  all_goals simp_all[Ait]
theorem AgV {p:NM} {f:Lo}:∀ {m k:Nat},k<=m->m<=f.Code.length->OV p f k<=OV p f m
 | 0,k,h,_=>by simp_all
 | m+1,k,h,hm=>by
  by_cases e:k=m+1
  ·simp_all
  ·have h1:=AgV (p:=p) (f:=f) (m:=m) (k:=k) (by omega) (by omega)
   have h2:=AtN p (OV p f m) (f.Code[m]'(by omega))
   grind [Wv]
theorem Atl (hx:x∈f.Code):(x.Op=18->x.A+1<=OV p f f.Code.length)/\(x.Op=22->∀ g,p.Funcs[x.A.toNat]? =some g->g.Params<=OV p f f.Code.length):=by
 obtain⟨k,hk⟩:=aAH hx;obtain⟨hkl,he⟩:=aAE.1 hk;have hm:=AgV (p:=p) (f:=f) (m:=f.Code.length) (k:=k+1) (by omega) (aAJ _)
 rw[Wv hkl,he]at hm;unfold Sk at hm;constructor
 ·intro h;have:=(Ait (OV p f k) (x.A+1)).2;omega
 ·intro h g hg;rw[if_neg (by omega),if_pos h,hg]at hm
  have:=(Ait (OV p f k) g.Params).2
  grind
section
variable {nf:Int} {p:NM} {f:Lo} {al:Int} {y:NT} (hg:GW nf f) (hy:RP p f al y) (hs:y.Size<=1100000000)
 include hg hy hs
theorem Axc {s:Int} (h0:0<=s) (h1:s<f.Slots.length):ixO y.Off s=some (Vl y s)/\(∃ z,ixO f.Slots s=some z/\z.Size=Pm f s)/\Pm f s∈([1,2,4,8,16]:List Int)/\0<=Vl y s/\Vl y s+Pm f s<=y.Size:=by
 have _z:=hs
 obtain⟨_,hl,hpl,_⟩:=hy;obtain⟨o,z,e1,e2,e3,e4,e5⟩:=hpl s.toNat (by omega)
 have ho:Vl y s=o:=by grind [Vl]
 obtain⟨z',e6,e7⟩:=Atz (f:=f) h0 h1;rw[Ps _ h0,e2]at e6;cases e6;have hz:=hg.slot z (aAD e2);unfold InI Rj at e5;simp only at e5;refine⟨Alq hl h0 h1,⟨z,by grind [Ps],e7⟩,?_,by omega,by omega⟩
 rw[<- e7];exact hz.1
theorem Avk (hx:x∈f.Code):Pt f y x=some (Pp f y x)/\(0<=x.Op/\x.Op<25)/\AbA f.Code.length y.Size f.Params nf (Pp f y x)/\((Pp f y x).Op=22->x.Op=22/\(Pp f y x).A=x.A)/\(∀ b,PS x.Op=some b->PS (Pp f y x).Op=some b):=by
 have sl:=fun{s:Int}=>Axc hg hy hs (s:=s)
 obtain⟨ha,_,_,_,hA,_⟩:=id hy;have hat:=(Atl (p:=p) hx).1;have hpar:=hg.par;have hreg16:(16:Int)∈([1,2,4,8,16]:List Int):=by decide
 have hmx:=hg.AnG x hx;cases hg.body x hx with
 | store a b h1 h2 h3 =>
  obtain⟨s1,⟨z,s2,s3⟩,s4,s5,s6⟩:=sl h1 h2;refine⟨by grind [Pt,Pp],by simp,.store _ _ _ h3 s4 s5 s6,by simp[Pp],by grind [Pp]⟩
 | load a b h1 h2 h3 =>
  obtain⟨s1,⟨z,s2,s3⟩,s4,s5,s6⟩:=sl h2 h3;refine⟨by grind [Pt,Pp],by simp,.load _ _ _ h1 s4 s5 (by grind),by simp[Pp],by grind [Pp]⟩
 | move a b h1 h2 h3 =>
  obtain⟨a0,a1,b0,b1,hsz⟩:=hmx rfl;obtain⟨s1,⟨z,s2,s3⟩,s4,s5,s6⟩:=sl a0 a1;obtain⟨t1,_,t4,t5,t6⟩:=sl b0 b1;refine⟨by grind [Pt,Pp],by simp,.move _ _ _ s4 s5 s6 t5 (by simp_all),by simp[Pp],by grind [Pp]⟩
 | const a w h1=>exact⟨by simp[Pt,Pp],by simp,.const _ _ h1,by simp[Pp],by simp[Pp]⟩
 | bin op a b c h1 h2 h3 h4 h5 =>
  have e:∀ n:Int,12<=n->¬ op=n:=λn h=>by omega
  refine⟨by simp[Pt,Pp,e],by grind,?_,by simp[Pp,e],by simp[Pp,e]⟩
  have:Pp f y ⟨op,a,b,c,0⟩=⟨op,a,b,c,0⟩:=by simp[Pp,e]
  rw[this];exact .bin _ _ _ _ h1 h2 h3 h4 h5
 | one op a h1 h2 =>
  rcases h1 with rfl|rfl
  ·exact⟨by simp[Pt,Pp],by simp,.one _ _ (by simp) h2,by simp[Pp],by simp[Pp]⟩
  ·exact⟨by simp[Pt,Pp],by simp,.one _ _ (by simp) h2,by simp[Pp],by simp[Pp]⟩
 | two op a b h1 h2 h3 =>
  rcases h1 with rfl|rfl
  ·exact⟨by simp[Pt,Pp],by simp,.two _ _ _ (by simp) h2 h3,by simp[Pp],by simp[Pp]⟩
  ·exact⟨by simp[Pt,Pp],by simp,.two _ _ _ (by simp) h2 h3,by simp[Pp],by simp[Pp]⟩
 | param a b h1 h2 h3 =>
  have w1:IntKind.i64.wrap (16*b)=16*b:=wrap64 (by omega) (by omega)
  have hy0:0<=y.Size:=by
   have:0<=OV p f f.Code.length:=by have:=AgV (p:=p) (f:=f) (m:=f.Code.length) (k:=0) (aAC _) (aAJ _);grind [OV]
   omega
  have w2:IntKind.i64.wrap (y.Size+16*b)=y.Size+16*b:=wrap64 (by omega) (by omega)
  exact⟨by simp_all[Pt,Pp],by simp,.load _ _ _ h1 hreg16 (by grind) (by grind),by simp[Pp],by simp[Pp,PS]⟩
 | arg a b h1 h2 h3 =>
  have w1:IntKind.i64.wrap (16*a)=16*a:=wrap64 (by omega) (by omega)
  have:=hat rfl;simp only at this;exact⟨by grind [Pt,Pp],by simp,.store _ _ _ h3 hreg16 (by grind) (by grind),by simp[Pp],by simp[Pp,PS]⟩
 | call j h1 h2=>exact⟨by simp[Pt,Pp],by simp,.call _ h1 h2,by simp[Pp],by simp[Pp]⟩
 | jump t h1=>exact⟨by simp[Pt,Pp],by simp,.jump _ h1.1 h1.2,by simp[Pp],by simp[Pp]⟩
 | branch a t h1 h2=>exact⟨by simp[Pt,Pp],by simp,.branch _ _ h1 h2.1 h2.2,by simp[Pp],by simp[Pp]⟩
 | ret=>exact⟨by simp[Pt,Pp],by simp,.ret,by simp[Pp],by simp[Pp]⟩
 | trap w=>exact⟨by simp[Pt,Pp],by simp,.trap _,by simp[Pp],by simp[Pp]⟩
end
open Go Go.Dw Go.Proofs
structure ChY (p:NM) (i:Int) (f:Lo) (al:Int) (r:Lo×NT×Int×Int):Prop where
 err:r.2.2.2=0
 gok:GW p.Funcs.length r.1
 arg:Abr ⟨p.Funcs.set i.toNat r.1⟩ r.1
 par:r.1.Params=f.Params
 shape:RP ⟨p.Funcs.set i.toNat r.1⟩ r.1 al r.2.1
 size:r.2.1.Size<=(PR p f al).Size
theorem Atv (h:Ot f):¬ Acc f []:=λha=>by
 have:=ha.1.1;have:=h.len;simp at *;omega
theorem Adt.shape {al:Int} {y:NT} (h:Adt p f al l y 0):RP p f al y/\Acc f l:=by
 rcases h with⟨_,h⟩|⟨_,_,h⟩|⟨_,_,_,h⟩|⟨h1,h2,_⟩
 ·exact absurd h (by decide)
 ·exact absurd h (by decide)
 ·exact absurd h (by decide)
 ·exact⟨h1,h2⟩
section
variable {p:NM} {i:Int} {f:Lo} (h:Ahq p i f) (hg:GW p.Funcs.length f)
 include h hg
theorem AtV {al:Int} (ea:Si p=some al) (hal:QF al/\16<=al/\al<=16777216) (x:Oh) (hx1:Ue x.Live.Out) (hx2:Ue x.LiveAfter.Out):∃ r,QK p i x=some r/\ChY p i f al r/\r.1.Code.length<=f.Code.length/\(x.Live.Out=[]->r=(f,PR p f al,0,0)):=by
 obtain⟨i0,i1,hif⟩:=AbF h.hi;have hL:=h.lay hal;have eb:=Ajt h.hi h.RX.len' h.arg hL.slots hal.1 hal.2.2;obtain⟨e,ev,hv⟩:=ApK h.RX h.defs hx1 x.Rename;obtain⟨c,ec,hc⟩:=Ajr hL x.Layout hx1;have hset:(⟨p.Funcs.set i.toNat f⟩:NM)=p:=by
  have:p.Funcs.set i.toNat f=p.Funcs:=by
   apply List.ext_getElem?;intro a
   by_cases e:i.toNat=a
   ·subst e;rw[aAO (by omega),hif]
   ·rw[aAR e]
  rw[this]
 have old:∀ (y:NT) (n:Int),RP p f al y->ChY p i f al (f,y,n,0):=λy n hy=>⟨rfl,hg,by simp only[hset];exact h.arg,rfl,by simp only[hset];exact hy,hy.2.2.2.2.2⟩
 have j1:∃ r,RG p i al x f (PR p f al,0)=some r/\ChY p i f al r/\r.1.Code.length<=f.Code.length/\(x.Live.Out=[]->r=(f,PR p f al,0,0)):=by
  unfold RG;rw[ec,aA]
  by_cases h0:c=0
  ·subst h0;exact⟨_,rfl,old _ _ hc.shape.1,aAJ _,λhn=>absurd (hn▸hc.shape.2) (Atv h.RX)⟩
  ·rw[show(c==0)=false by simp[h0]]
   exact⟨_,rfl,old _ _ (AtO hL.bas),aAJ _,λ_=>rfl⟩
 unfold QK;simp only[ea,eb,h.hi,aA,bne_self_eq_false,cond_false,ev]
 by_cases he:e=0
 ·subst he;simp only[beq_self_eq_true,cond_true];obtain⟨hacc,hr⟩:Acc f x.Live.Out/\SB f x.Rename:=by
   rcases hv with⟨_,h2⟩|⟨_,_,h2⟩|⟨h1,h2,_⟩
   ·omega
   ·omega
   ·exact⟨h1,h2⟩
  have hne:x.Live.Out=[]->False:=λhn=>absurd (hn▸hacc) (Atv h.RX)
  obtain⟨⟨q,qe⟩,ep,er,hx⟩:=AiT h.RX h.defs hr;have qe0:qe=0:=hx.1;subst qe0;simp only[ep,aA,AoN p q (show p.Funcs.length<=1000000 by have:=h.pl;omega) i0 (by omega)]
  obtain⟨hL2,hqp,_⟩:=h.next hr er hx hal;obtain⟨d,h1,h2⟩:=Ajr hL2 x.Layout hx2;obtain⟨hgq,hql⟩:GW p.Funcs.length q/\q.Code.length<=f.Code.length:=by
   obtain⟨q',e1,_,used,nm,pl,hw⟩:=AuF h.RX h.defs hr;rw[er]at e1;cases e1;have h1:=hw.len;have h2:=AfK x.Rename.Keep f.Code.length;refine⟨hw.gw hg,?_⟩;simp only at h1;omega
  have j2:∀ b:Bool,(b=true->ChY p i f al (q,x.Layout,2,0))->∃ r,Rb (q,0) x p i al f (PR p f al,0) b=some r/\ChY p i f al r/\r.1.Code.length<=f.Code.length/\(x.Live.Out=[]->r=(f,PR p f al,0,0)):=by
   intro b hb;unfold Rb;cases b
   ·exact j1
   ·exact⟨_,rfl,hb rfl,hql,λhn=>(hne hn).elim⟩
  simp only[beq_self_eq_true,cond_true]
  by_cases hs:x.Layout.Size<=(PR p f al).Size
  ·rw[decide_eq_true hs,cond_true,h1,aA]
   by_cases hd:d=0
   ·subst hd;exact j2 _ λ_=>⟨rfl,hgq,hL2.arg,hqp,h2.shape.1,hs⟩
   ·rw[show(d==0)=false by simp[hd]]
    exact j2 _ λh=>by cases h
  ·rw[decide_eq_false hs,cond_false];exact j2 _ λh=>by cases h
 ·rw[show(e==0)=false by simp[he]]
  exact j1
end
open Go Go.Dw Go.Proofs
def rowAt (g:List (List Int)) (y:Int):List Int:=(g[y.toNat]?).getD []
def AtK (n:Int) (x:Nat) (s:List Int):Prop:=OM s/\(∀ y∈s,y<n)/\(x:Int)∉s
def Aca (g:List (List Int)) (n:Int):Prop:=(g.length:Int)=n/\(∀ (x:Nat) s,g[x]? =some s->AtK n x s)/\∀ (x:Nat) s,g[x]? =some s->∀ y∈s,(x:Int)∈rowAt g y
attribute [local simp] Ou aAS
section
variable {g:List (List Int)} {n:Int}
theorem Azi (hn:(g.length:Int)=n) (hg:g.length<=1000) (hq:∀ s∈g,s.length<=9223372036854775807) {x:Nat} {row:List Int} (hx:g[x]? =some row) (hset:OM row) (a b:List Int) (d:Bool) :
  ∃ r,XX g (x:Int) n a b d=some r/\((∀ y∈row,y<n/\(x:Int)∈rowAt g y)/\r= .inl ((x+1:Nat):Int)\/(¬ ∀ y∈row,y<n/\(x:Int)∈rowAt g y)/\r= .inr false):=by
 have hxl:=(aAE.1 hx).1;have hlen:=hset.length_le;have wx:=NP (show x<9223372036854775807 by omega)
 unfold XX
 open Classical in
 have:=Sf (body:=λs=>Vw g (x:Int) n a b d s) row (λ(_:Unit) i=>i) (λ_ _=>True) (λ_ l=>some (if ∀ y∈l,y<n/\(x:Int)∈rowAt g y then(.inl ((x+1:Nat):Int):Int⊕Bool)else .inr false))
  (λ_ _=>⟨.inl ((x+1:Nat):Int),by simp_all[Vw,Aaq],by simp⟩) (λ_ i y r _ hd hi hy=>by
   have hym:y∈row:=aAD hy;have h0:=hset.2 y hym;have w:=NP (show i<9223372036854775807 by omega)
   by_cases hyn:y<n
   ·have hyl:y.toNat<g.length:=by omega
    have hgy:g[y.toNat]? =some g[y.toNat]:=aAA hyl;have hs:=hq _ (aAG hyl);have hra:rowAt g y=g[y.toNat]:=by grind [rowAt]
    by_cases hin:(x:Int)∈g[y.toNat]
    all_goals simp_all[Vw,Ps,AcH]
   ·refine .inr ⟨.inr false,?_,?_⟩
    ·simp_all[Vw]
    ·simp[hyn]) () trivial
 grind
theorem AvC (hg:g.length<=1000) (hq:∀ s∈g,s.length<=9223372036854775807):∃ b,Abm g n=some b/\(b=true↔Aca g n):=by
 unfold Abm
 by_cases hn:(g.length:Int)=n
 ·simp only[hn,bne_self_eq_false,cond_false];refine Apl (body:=λs=>Rp n g s) (s:=0) (λs=>∃ x:Nat,s=(x:Int)/\x<=g.length/\∀ (k:Nat) s,k<x->g[k]? =some s->AtK n k s/\∀ y∈s,(k:Int)∈rowAt g y)
   (λb=>b=true↔Aca g n) (λs=>g.length-s.toNat) ⟨0,rfl,aAC _,λk s hk=>absurd hk (aAI _)⟩ (λs hI=>?_)
  obtain⟨x,rfl,hx,hall⟩:=hI
  by_cases hlt:x<g.length
  ·have hgx:g[x]? =some g[x]:=aAA hlt;have hxn:(x:Int)<n:=by omega
   have hl:=hq _ (aAG hlt);have bad:¬ (AtK n x g[x]/\∀ y∈g[x],(x:Int)∈rowAt g y)->Rp n g x=some (.inr false)->(∃ r,Rp n g x=some (.inr r)/\(r=true↔Aca g n)):=λh1 h2=>⟨false,h2,λh=>(by cases h),λh=>(h1 ⟨h.2.1 x _ hgx,h.2.2 x _ hgx⟩).elim⟩
   by_cases hset:OM g[x]
   ·have hb:UL none g[x]=true:=(Adu _).2 hset
    by_cases hc:(x:Int)∈g[x]
    ·exact .inr (bad (λh=>h.1.2.2 hc) (by simp_all[Rp,AfY,AcH]))
    ·obtain⟨r,h1,⟨h2,rfl⟩|⟨h2,rfl⟩⟩:=Azi hn hg hq hgx hset g[x] g[x] false
     ·refine .inl ⟨((x+1:Nat):Int),by simp_all[Rp,AfY,AcH],⟨x+1,rfl,hlt,λk s hk hks=>?_⟩,by omega⟩
      by_cases hkx:k=x
      ·subst hkx;rw[hgx]at hks;cases hks;exact⟨⟨hset,λy hy=>(h2 y hy).1,hc⟩,λy hy=>(h2 y hy).2⟩
      grind
     ·exact .inr (bad (λh=>h2 λy hy=>⟨h.1.2.1 y hy,h.2 y hy⟩) (by simp_all[Rp,AfY,AcH]))
   ·have hb:UL none g[x]=false:=by
     grind [Adu]
    exact .inr (bad (λh=>hset h.1.1) (by simp_all[Rp,AfY]))
  ·right;have hxn:¬ (x:Int)<n:=by omega
   refine⟨true,by simp[Rp,hxn],λ_=>?_,λ_=>rfl⟩
   exact⟨hn,λk s hks=>(hall k s (by grind) hks).1,λk s hks=>(hall k s (by grind) hks).2⟩
 ·refine⟨false,by simp[hn],λh=>(by cases h),λh=>(hn h.1).elim⟩
end
open Go Go.Dw Go.Proofs
theorem Uf.symm {a b:NU} (h:Uf a b):Uf b a:=⟨h.2.1,h.1,h.2.2.2.1,h.2.2.1,h.2.2.2.2.2,h.2.2.2.2.1⟩
theorem AxQ (l:List NU) (hl:l.length<=1000000) (x:NU):Hs (AcN l x) λb=>b=true↔∀ u∈l,¬ Uf u x:=by
 unfold AcN;refine Hs.loop (λi=>∃ k:Nat,i=(k:Int)/\k<=l.length/\∀ u∈l.take k,¬ Uf u x) (λi=>l.length-i.toNat) ⟨0,rfl,aAC _,λu hu=>by simp at hu⟩ ?_
 rintro _ ⟨k,rfl,hk,hno⟩;unfold Afd;refine .dec (λhlt=>?_) λhge=>.lft (.pure ⟨λ_ u hu=>hno u (by grind),λ_=>rfl⟩)
 have hlt:k<l.length:=by omega
 rw[Ov,aAA hlt,aA,Aus,aA];refine .dec (λh=>.lft (.pure ⟨λh=>(by cases h),λh'=>(h' _ (aAG hlt) h).elim⟩)) λh=>?_
 rw[NP (by omega)]
 refine .cnt ⟨⟨k+1,rfl,hlt,λu hu=>?_⟩,by grind⟩
 grind [List.take_add_one]
theorem AuG:∀ l:List NU,l=[]\/∃ (k:Nat) (x:NU),l[k]? =some x/\∀ u∈l,u.Off+u.Size<=x.Off+x.Size
 | []=>.inl rfl
 | a::l=>by
  refine .inr ?_;rcases AuG l with rfl|⟨k,x,hk,hx⟩
  ·exact⟨0,a,rfl,λu hu=>by simp_all⟩
  ·by_cases h:a.Off+a.Size<=x.Off+x.Size
   ·exact⟨k+1,x,hk,λu hu=>(aAX.1 hu).elim (λe=>e▸h) (hx u)⟩
   ·refine⟨0,a,rfl,λu hu=>?_⟩
    grind
def Fits (l:List NU) (frm size align M b:Int):Prop:=frm<=b/\b<=M+63/\b.tmod align=0/\∀ u∈l,¬ Uf u ⟨b,size⟩
theorem AyN {l:List NU} {size align M:Int} (hl:l.length<=1000) (hM:M<=100000) (hf:0<=frm/\frm<=M) (hs:1<=size/\size<=16) (ha:QF align) (ha':align<=64) (hu:∀ u∈l,Rj u/\u.Off+u.Size<=M) :
  Hs (AeM l frm size align) λr=>r.2=0/\Fits l frm size align M r.1:=by
 have ep:QU align=some true:=by obtain⟨m,hm,rfl⟩:=ha;exact Ajw hm
 have har:=ha.rng;obtain⟨m,hm0,hm1,hmx⟩:∃ m:Int,-1<=m/\m<l.length/\∀ c:Int,((0<=m/\∃ x,l[m.toNat]? =some x/\c=OI frm (x.Off+x.Size))\/(m<0/\c=frm))->∀ u∈l,u.Off+u.Size<=c:=by
  rcases AuG l with rfl|⟨k,x,hk,hx⟩
  ·exact⟨-1,by omega,by simp,λc _ u hu=>by cases hu⟩
  ·have hkl:=(aAE.1 hk).1;refine⟨(k:Int),by omega,by omega,λc hc u hu=>?_⟩
   grind [OI]
 unfold AeM;simp only[Adw,aA,ep];rw[decide_eq_true (p:=0<=frm/\frm<=2147483647) (by omega),decide_eq_true (p:=0<=size/\size<=2147483647) (by omega)]
 refine Hs.loop (λi=>∃ k:Nat,i=(k:Int)/\k<=l.length) (λi=>l.length-i.toNat) ⟨0,rfl,aAC _⟩ ?_
 rintro _ ⟨k,rfl,hk⟩;refine .dec (λhlt=>?_) λ_=>.lft ?_
 ·have hlt:k<l.length:=by omega
  rw[Ov,aAA hlt,aA,AbX,aA,decide_eq_true (hu _ (aAG hlt)).1];rw[NP (by omega)]
  exact .cnt ⟨⟨k+1,rfl,by omega⟩,by grind⟩
 refine Hs.loop (λs=>-1<=s.2.2/\s.2.2<=l.length/\(s.2.1=true->Fits l frm size align M s.1)/\(s.2.1=true\/s.2.2<=m)) (λs=>((l.length:Int)-s.2.2).toNat) ⟨by simp,by simp_all,λh=>(by cases h),.inr hm0⟩ ?_
 rintro⟨best,found,i⟩ ⟨h0,h1,h2,h3⟩;replace h0: -1<=i:=h0;replace h3:found=true\/i<=m:=h3;have j4:∀ c:Int,i<l.length->frm<=c->c<=M->(i=m->∀ u∈l,u.Off+u.Size<=c)->Hs (XV align size l found i best c) (Rnd (λs:Int×Bool×Int=>-1<=s.2.2/\s.2.2<=l.length/\(s.2.1=true->Fits l frm size align M s.1)/\(s.2.1=true\/s.2.2<=m)) (λs=>((l.length:Int)-s.2.2).toNat) (best,found,i) λr=>r.2=0/\Fits l frm size align M r.1):=by
  intro c hi c0 c1 hc;unfold XV;have w:IntKind.i64.wrap (i+1)=i+1:=wrap64 (by omega) (by omega)
  obtain⟨u1,u2,u3⟩:=TC (n:=c) (a:=align) (by omega)
  rw[w,Aoh (by omega) (by omega) ha,aA]
  have hR:Rj ⟨upN c align,size⟩:=by refine⟨?_,?_,?_,?_,?_⟩<;>simp only<;>omega
  rw[AbX,aA,decide_eq_true hR,cond_true];have ht:(upN c align).tmod align=0:=by grind
  have fin:∀ (a:Int) (b:Bool),(b=true->Fits l frm size align M a)->(b=true\/i+1<=m)->Hs (cnt (a,b,i+1):Option ((Int×Bool×Int)⊕(Int×Int))) (Rnd (λs:Int×Bool×Int=>-1<=s.2.2/\s.2.2<=l.length/\(s.2.1=true->Fits l frm size align M s.1)/\(s.2.1=true\/s.2.2<=m)) (λs=>((l.length:Int)-s.2.2).toNat) (best,found,i) λr=>r.2=0/\Fits l frm size align M r.1):=λa b g1 g2=>.cnt ⟨⟨by grind,by grind,g1,g2⟩,by grind⟩
  refine(AxQ l (by omega) _).bind λb hb=>.cond (λhb'=>?_) λhb'=>?_
  ·have hG:Fits l frm size align M (upN c align):=⟨by omega,by omega,ht,hb.1 hb'⟩
   grind
  ·refine fin _ _ h2 ?_;rcases h3 with h3|h3
   ·simp_all
   ·by_cases e:i=m
    ·have:b=true:=hb.2 λu hu' ho=>by
      have h5:=hc e u hu';have h6:=ho.2.2.2.2.2
      grind
     simp_all
    ·omega
 refine .dec (λhlt=>.dec (λhge=>?_) λhge=>?_) λhge=>.lft ?_
 ·have hge:0<=i:=hge;have hlt:i<l.length:=hlt;have hin:i.toNat<l.length:=by omega
  have hx:l[i.toNat]? =some (l[i.toNat]'hin):=aAA _;have hxu:=hu _ (aAG hin);generalize(l[i.toNat]'hin)=x at hx hxu;obtain⟨x1,x2,x3,x4,x5⟩:=hxu.1;rw[Ps _ hge,hx,aA,aA,wrap64 (by omega) (by omega)]
  refine j4 _ hlt (by grind [OI]) (by grind [OI]) λe u hu'=>hmx _ (.inl ⟨by omega,x,by simp_all,rfl⟩) u hu'
 ·have hge:¬ 0<=i:=hge;exact j4 _ hlt (by omega) (by omega) λe u hu'=>hmx _ (.inr ⟨by omega,rfl⟩) u hu'
 ·have hft:found=true:=by
   grind
  subst hft;exact .pure ⟨rfl,h2 rfl⟩
theorem Avv (s:List NS) (hs:s.length<=1000):Hs (Aeo s) λout=>out.length=s.length/\(∀ v∈out,0<=v/\v<s.length)/\∀ j:Nat,j<s.length->(j:Int)∈out:=by
 refine Hs.loop (λq=>∃ k:Nat,q.2=(k:Int)/\k<=s.length/\q.1.length=k/\(∀ v∈q.1,0<=v/\v<s.length)/\∀ j:Nat,j<k->(j:Int)∈q.1) (λq=>s.length-q.2.toNat) ⟨0,rfl,aAC _,rfl,λv hv=>(by cases hv),λj hj=>absurd hj (aAI _)⟩ ?_
 rintro⟨out,_⟩ ⟨k,rfl,hk,hol,hov,hoa⟩;replace hol:out.length=k:=hol;replace hov:∀ v∈out,0<=v/\v<s.length:=hov;dsimp only;refine .dec (λhlt=>?_) λhge=>.lft (.pure ⟨by omega,hov,λj hj=>hoa j (by omega)⟩)
 have hlt:k<s.length:=by omega
 have j3:∀ m:Int,0<=m->m<=out.length->Hs (Vx out (k:Int) m) (Rnd (λq:List Int×Int=>∃ k:Nat,q.2=(k:Int)/\k<=s.length/\q.1.length=k/\(∀ v∈q.1,0<=v/\v<s.length)/\∀ j:Nat,j<k->(j:Int)∈q.1) (λq=>s.length-q.2.toNat) (out,(k:Int)) (λout=>out.length=s.length/\(∀ v∈out,0<=v/\v<s.length)/\∀ j:Nat,j<s.length->(j:Int)∈out)):=by
  intro m h0 h1;unfold Vx;refine .chk ⟨h0,h1⟩ (.chk (by simp;omega) (.chk (by simp;omega) (.chk ⟨h0,h1⟩ (.chk (by simp;omega) ?_))))
  unfold Aax;rw[NP (by omega)]
  refine .cnt ⟨⟨k+1,rfl,hlt,by simp;omega,λv hv=>?_,λj hj=>?_⟩,by grind⟩
  all_goals grind [aAj]
 refine Hs.loop (λm=>0<=m/\m<=out.length) (λm=>m.toNat) ⟨by omega,by omega⟩ ?_
 rintro m ⟨h0,h1⟩;refine .dec (λhp=>?_) λ_=>.lft (j3 m h0 h1)
 rw[wrap64 (n:=m-1) (by omega) (by omega)]
 exact(Hs.ix (P:=λ_=>True) (by omega) (by omega) λ_ _=>trivial).bind λx _=>.chk (by omega) ((Hs.get (by omega) (by omega) λv hv=>hov v (aAD hv)).bind λv hv=>(Hs.ix (P:=λ_=>True) hv.1 hv.2 λ_ _=>trivial).bind λy _=>(AuK x y).bind λb _=>.cond (λ_=>.cnt ⟨⟨by omega,by omega⟩,by grind⟩) λ_=>.lft (j3 m h0 h1))
def oN (off:List Int) (k:Nat):Int:=(off[k]?).getD 0
def szN (s:List NS) (k:Nat):Int:=((s[k]?).map NS.Size).getD 0
def alN (s:List NS) (k:Nat):Int:=((s[k]?).map NS.Align).getD 0
def ivN (s:List NS) (off:List Int) (k:Nat):NU:=⟨oN off k,szN s k⟩
def Plc (s:List NS) (frm B:Int) (off:List Int) (k:Nat):Prop:=frm<=oN off k/\oN off k+szN s k<=B/\(oN off k).tmod (alN s k)=0
structure Asg (s:List NS) (g:List (List Int)) (frm:Int) (ord:List Int) (k:Nat) (done:List Bool) (off:List Int):Prop where
 dl:done.length=s.length
 fl:off.length=s.length
 pl:∀ y:Nat,done[y]? =some true->Plc s frm (frm+80*k) off y
 ap:∀ y z:Nat,y≠z->done[y]? =some true->done[z]? =some true->(z:Int)∈rowAt g y->¬ Uf (ivN s off y) (ivN s off z)
 cov:∀ j<k,∀ v,ord[j]? =some v->done[v.toNat]? =some true
theorem AaC {x:NS} (h:s[k]? =some x):szN s k=x.Size/\alN s k=x.Align:=by simp[szN,alN,h]
theorem Aca.sym {n:Int} (h:Aca g n) {y z:Nat} (hz:(z:Int)∈rowAt g y):(y:Int)∈rowAt g z:=by
 unfold rowAt at hz;rw[aAB]at hz;cases e:g[y]? with
 | none=>rw[e]at hz;cases hz
 | some t=>rw[e]at hz;exact h.2.2 y t e _ hz
theorem Asg.step {ord:List Int} {done:List Bool} (h:Asg s g frm ord k done off) {n:Int} (hg:Aca g n) {w:Nat} (hk:ord[k]? =some (w:Int)) {x:NS} (hx:s[w]? =some x) {r:Int} (h1:frm<=r) (h2:r+x.Size<=frm+80*(k+1)) (h3:r.tmod x.Align=0) (h4:∀ y:Nat,done[y]? =some true->(y:Int)∈rowAt g w->¬ Uf (ivN s off y) ⟨r,x.Size⟩) :
  Asg s g frm ord (k+1) (done.set w true) (off.set w r):=by
 obtain⟨dl,fl,pl,ap,cov⟩:=h;have hw:=(aAE.1 hx).1;have d1:∀ y:Nat,(done.set w true)[y]? =some true->y=w\/done[y]? =some true:=λy hy=>by
  by_cases e:y=w
  ·exact .inl e
  ·rw[aAR (λh=>e h.symm)]at hy;exact .inr hy
 have o1:oN (off.set w r) w=r:=by unfold oN;rw[aAO (by omega)];rfl
 have o2:∀ y:Nat,y≠w->oN (off.set w r) y=oN off y:=λy hy=>by unfold oN;rw[aAR (λh=>hy h.symm)]
 obtain⟨z1,z2⟩:=AaC hx;refine⟨by simp[dl],by simp[fl],λy hy=>?_,λy z hne hy hz hm=>?_,λj hj v hv=>?_⟩
 ·by_cases e:y=w
  ·subst e;refine⟨?_,?_,?_⟩
   ·rw[o1];exact h1
   ·rw[o1,z1];omega
   ·rw[o1,z2];exact h3
  ·rcases d1 y hy with h|h
   ·exact(e h).elim
   obtain⟨p1,p2,p3⟩:=pl y h;refine⟨?_,?_,?_⟩
   ·rw[o2 y e];exact p1
   ·rw[o2 y e];omega
   ·rw[o2 y e];exact p3
 ·unfold ivN at *
  by_cases e:y=w
  ·subst e;have ez:z≠y:=λh=>hne h.symm
   rcases d1 z hz with h|h
   ·exact(ez h).elim
   rw[o1,z1,o2 z ez];exact λho=>h4 z h hm ho.symm
  ·rcases d1 y hy with h|h
   ·exact(e h).elim
   rw[o2 y e]
   by_cases e':z=w
   ·subst e';rw[o1,z1];exact h4 y h (hg.sym hm)
   ·rcases d1 z hz with h'|h'
    ·exact(e' h').elim
    rw[o2 z e'];exact ap y z hne h h' hm
 ·by_cases e:v.toNat=w
  ·rw[e,aAO (by omega)]
  ·rw[aAR (λh=>e h.symm)]
   by_cases ej:j=k
   ·subst ej;rw[hk]at hv;cases hv;simp at e
   ·exact cov j (by omega) v hv
theorem AuI (hs:Aoo s) (hso:∀ x∈s,TJ x) (hg:Aca g s.length) (hgl:∀ row∈g,row.length<=512) (hf:0<=frm/\frm<=1000) :
  Hs (ZY s g frm) λq=>q.2=0/\q.1.length=s.length/\(∀ y:Nat,y<s.length->Plc s frm (frm+80*s.length) q.1 y)/\∀ y z:Nat,y<s.length->z<s.length->y≠z->(z:Int)∈rowAt g y->¬ Uf (ivN s q.1 y) (ivN s q.1 z):=by
 have hsl:=hs.1;have hgg:g.length=s.length:=by have:=hg.1;omega
 obtain⟨b,hb1,hb2⟩:=AvC (g:=g) (n:=(s.length:Int)) (by omega) λr hr=>by have:=hgl r hr;omega
 unfold ZY;refine(AvL hso (by omega)).bind λe he=>?_
 subst he;rw[hb1,hb2.2 hg,aA,Adw,aA,decide_eq_true (by omega)]
 simp only[bne_self_eq_false,cond_false,aAN];unfold Zq;refine .chk (by omega) (.chk (by omega) ((Avv s (by omega)).bind λord ⟨ol,ov,oa⟩=>?_))
 refine Hs.loop (λq=>∃ k:Nat,q.2.2=(k:Int)/\k<=ord.length/\Asg s g frm ord k q.1 q.2.1) (λq=>ord.length-q.2.2.toNat) ⟨0,rfl,aAC _,by simp,by simp,λy hy=>?_,λy z _ hy=>?_,λj hj=>absurd hj (aAI _)⟩ ?_
 ·simp[aAd]at hy
 ·simp[aAd]at hy
 rintro⟨done,off,_⟩ ⟨k,rfl,hk,hI⟩;replace hI:Asg s g frm ord k done off:=hI;obtain⟨dl,fl,pl,ap,cov⟩:=id hI;unfold Ada;dsimp only;refine .dec (λhlt=>?_) λhge=>.lft (.pure ?_)
 rotate_left
 ·have hkk:k=s.length:=by omega
  subst hkk;have all:∀ y:Nat,y<s.length->done[y]? =some true:=λy hy=>by
   obtain⟨j,hj⟩:=aAH (oa y hy);have:=(aAE.1 hj).1;simpa using cov j (by omega) _ hj
  exact⟨rfl,fl,λy hy=>pl y (all y hy),λy z hy hz hne hm=>ap y z hne (all y hy) (all z hz) hm⟩
 have hlt:k<ord.length:=by omega
 have hov:ord[k]? =some ord[k]:=aAA hlt;have hvr:=ov _ (aAG hlt);generalize ord[k]=v at hov hvr;refine .chk (by omega) ?_
 rw[aAB,hov,aA];obtain⟨w,rfl⟩:∃ w:Nat,v=(w:Int):=⟨v.toNat,by omega⟩
 have hw:w<s.length:=by omega
 have hgr:ixO g (w:Int)=some (rowAt g w):=by
  rw[Ov];unfold rowAt;rw[aAB,aAA (by omega)];rfl
 have hrl:(rowAt g w).length<=512:=by
  unfold rowAt;rw[aAB,aAA (by omega)]
  exact hgl _ (aAG _)
 refine Hs.loop (λq=>∃ j:Nat,q.2=(j:Int)/\j<=s.length/\q.1.length<=j/\(∀ u∈q.1,∃ y:Nat,done[y]? =some true/\u=ivN s off y)/\∀ y:Nat,y<j->done[y]? =some true->(y:Int)∈rowAt g w->ivN s off y∈q.1) (λq=>s.length-q.2.toNat) ⟨0,rfl,aAC _,by simp,λu hu=>(by cases hu),λy hy=>absurd hy (aAI _)⟩ ?_
 rintro⟨used,_⟩ ⟨j,rfl,hj,hul,hu1,hu2⟩;replace hul:used.length<=j:=hul;replace hu1:∀ u∈used,∃ y:Nat,done[y]? =some true/\u=ivN s off y:=hu1;replace hu2:∀ y:Nat,y<j->done[y]? =some true->(y:Int)∈rowAt g w->ivN s off y∈used:=hu2;unfold Adb;dsimp only;refine .dec (λhlt'=>?_) λhge=>.lft ?_
 ·have hjl:j<s.length:=by omega
  have hdj:done[j]? =some (done[j]'(by omega)):=aAA _
  generalize(done[j]'(by omega))=d at hdj
  refine .chk (by omega) ?_
  rw[aAB,hdj,aA];have no:¬ (d=true/\(j:Int)∈rowAt g w)->∀ y:Nat,y<j+1->done[y]? =some true->(y:Int)∈rowAt g w->ivN s off y∈used:=λhn y hy h1 h2=>by
   by_cases e:y=j
   ·subst e;rw[hdj]at h1;exact(hn ⟨Option.some.inj h1,h2⟩).elim
   ·exact hu2 y (by omega) h1 h2
  have key:∀ d:Bool,(bif d then(ixO g (w:Int)).bind λx=>(Vr x (j:Int)).bind λr=>Sh (j:Int) off s used r else Sh (j:Int) off s used false)=Sh (j:Int) off s used (d&&decide ((j:Int)∈rowAt g w)):=λd=>by
   cases d
   ·rfl
   ·rw[cond_true,hgr,aA,AcH _ _ (by omega),aA,Bool.true_and]
  rw[key];unfold Sh;rw[NP (by omega)]
  refine .cond (λhd=>?_) λhd=>.cnt ⟨⟨j+1,rfl,hjl,by simp only;omega,hu1,no λh=>by simp[h.1,h.2]at hd⟩,by simp only;omega⟩
  ·have hd:d=true:=by simp at hd;exact hd.1
   refine .chk (by omega) ?_
   have hoj:off[j]? =some (oN off j):=by unfold oN;rw[aAA (by omega)];rfl
   have hsj:s[j]? =some s[j]:=aAA _;rw[aAB,hoj,aA,Ov,hsj,aA];have hiv:(NU.mk (oN off j) s[j].Size)=ivN s off j:=by unfold ivN;rw[(AaC hsj).1]
   rw[hiv];refine .chk (by simp;omega) (.cnt ⟨⟨j+1,rfl,hjl,by simp;omega,λu hu=>?_,λy hy h1 h2=>?_⟩,by simp only;omega⟩)
   ·rcases List.mem_append.1 hu with hu|hu
    ·exact hu1 u hu
    ·simp at hu;subst hu;exact⟨j,by rw[hdj,hd],rfl⟩
   ·by_cases e:y=j
    ·subst e;simp
    ·exact List.mem_append_left _ (hu2 y (by omega) h1 h2)
 ·have hjj:j=s.length:=by omega
  subst hjj;have hsw:s[w]? =some s[w]:=aAA _;obtain⟨a1,a2,a3,a4⟩:=hs.2 _ (aAG hw);generalize s[w]=x at hsw a1 a2 a3 a4;simp only[Ov,hsw,aA];have hR:∀ u∈used,Rj u/\u.Off+u.Size<=frm+80*(k:Int):=λu hu=>by
   obtain⟨y,hy,rfl⟩:=hu1 u hu;obtain⟨p1,p2,_⟩:=pl y hy;have hyl:y<s.length:=by rw[<- dl];exact(aAE.1 hy).1
   have hsy:s[y]? =some s[y]:=aAA _;obtain⟨_,_,b3,b4⟩:=hs.2 _ (aAG hyl);rw[<- (AaC hsy).1]at b3 b4;refine⟨⟨?_,?_,?_,?_,?_⟩,p2⟩<;>simp only[ivN]<;>omega
  refine(AyN (M:=frm+80*(k:Int)) (by omega) (by omega) (by omega) ⟨a3,a4⟩ a1 a2 hR).bind λr ⟨r0,r1,r2,r3,r4⟩=>?_
  rw[r0];simp only[bne_self_eq_false,cond_false];refine .chk (by omega) ?_
  rw[aAB,aAA (by omega),aA]
  refine .chk (by omega) ?_
  rw[aAA (by omega),aA]
  unfold Zr;rw[NP (by omega)]
  exact .cnt ⟨⟨k+1,rfl,hlt,hI.step hg hov hsw r1 (by omega) r3 λy h1 h2=>r4 _ (hu2 y (by rw[<- dl];exact(aAE.1 h1).1) h1 h2)⟩,by simp only;omega⟩
theorem AyM (hs:s.length<=1000) (hl:off.length=s.length) {B:Int} (hB:0<=B/\B<=100000) (h:∀ y:Nat,y<s.length->0<=oN off y+szN s y/\oN off y+szN s y<=B):Hs (AeO s off) λe=>0<=e/\e<=B/\∀ y:Nat,y<s.length->oN off y+szN s y<=e:=by
 unfold AeO;refine Hs.loop (λq=>∃ k:Nat,q.2=(k:Int)/\k<=s.length/\0<=q.1/\q.1<=B/\∀ y:Nat,y<k->oN off y+szN s y<=q.1) (λq=>s.length-q.2.toNat) ⟨0,rfl,aAC _,Int.le_refl _,hB.1,λy hy=>absurd hy (aAI _)⟩ ?_
 rintro⟨n,_⟩ ⟨k,rfl,hk,h0,h1,h2⟩;replace h0:0<=n:=h0;replace h1:n<=B:=h1;replace h2:∀ y:Nat,y<k->oN off y+szN s y<=n:=h2;unfold Agt;dsimp only;refine .dec (λhlt=>.dec (λhlt2=>?_) λhge=>?_) λhge=>.lft (.pure ⟨h0,h1,λy hy=>h2 y (by omega)⟩)
 rotate_left
 ·omega
 have hlt:k<s.length:=by omega
 unfold Adc;have ho:off[k]? =some (oN off k):=by unfold oN;rw[aAA (by omega)];rfl
 have hsk:s[k]? =some s[k]:=aAA _;obtain⟨a1,a2⟩:=h k hlt;rw[Ov,ho,aA,Ov,hsk,aA,<- (AaC hsk).1,NP (by omega),wrap64 (by omega) (by omega)]
 refine .cnt ⟨⟨k+1,rfl,hlt,?_,?_,λy hy=>?_⟩,by simp only;omega⟩
 ·simp only;unfold OI;split<;>omega
 ·simp only;unfold OI;split<;>omega
 ·have:y<k->oN off y+szN s y<=n:=h2 y
  by_cases e:y=k
  ·subst e;simp only;unfold OI;split<;>omega
  ·have:=this (by omega)
   simp only;unfold OI;split<;>omega
section
variable {p:NM} {i:Int} {f:Lo} {al:Int} (h:AgT p i f al)
 include h
theorem AsN (hl:off.length=f.Slots.length) (hp:∀ y:Nat,y<f.Slots.length->Plc f.Slots (16*OV p f f.Code.length) (16*OV p f f.Code.length+80*f.Slots.length) off y) :
  Hs (ZZ p i al off) λq=>(q.2=0/\q.1.Off=off/\(RP p f al q.1↔q.1.Size<=(PR p f al).Size))/\∃ M,q.1.Size=upN M al/\0<=M/\M<=16*OV p f f.Code.length+80*f.Slots.length:=by
 have hr:=Xf h.arg (k:=f.Code.length) (aAJ _);have hsl:=h.slots.1;have h16:=h.al16;have h64:=h.al64;have bnd:∀ y:Nat,y<f.Slots.length->1<=szN f.Slots y/\szN f.Slots y<=16:=λy hy=>by
  have hsy:f.Slots[y]? =some f.Slots[y]:=aAA _;obtain⟨_,_,b3,b4⟩:=h.slots.2 _ (aAG hy);rw[(AaC hsy).1];exact⟨b3,b4⟩
 have rgt:∀ y:Nat,y<f.Slots.length->Rj (ivN f.Slots off y):=λy hy=>by
  obtain⟨p1,p2,_⟩:=hp y hy;have:=bnd y hy;refine⟨?_,?_,?_,?_,?_⟩<;>simp only[ivN]<;>omega
 unfold ZZ;rw[h.hi,aA];refine .bne (λhne=>(hne (by rw[hl])).elim) λ_=>?_
 refine Hs.loop (λq=>∃ k:Nat,q=(k:Int)/\k<=f.Slots.length) (λq=>f.Slots.length-q.toNat) ⟨0,rfl,aAC _⟩ ?_
 rintro _ ⟨k,rfl,hk⟩;unfold Adf;refine .dec (λhlt=>?_) λ_=>.lft ?_
 ·have hlt:k<f.Slots.length:=by omega
  have ho:off[k]? =some (oN off k):=by unfold oN;rw[aAA (by omega)];rfl
  have hsk:f.Slots[k]? =some f.Slots[k]:=aAA _;rw[Ov,ho,aA,Ov,hsk,aA,<- (AaC hsk).1,AbX,aA,decide_eq_true (show Rj ⟨oN off k,szN f.Slots k⟩from rgt k hlt)]
  simp only[aAN,cond_false];rw[NP (by omega)]
  exact .cnt ⟨⟨k+1,rfl,hlt⟩,by simp only;omega⟩
 ·rw[AmS h.hi h.RX.len' h.arg,aA];refine(AyM (by omega) hl (B:=16*OV p f f.Code.length+80*f.Slots.length) (by omega) λy hy=>?_).bind λe ⟨e0,e1,e2⟩=>?_
  ·obtain⟨p1,p2,_⟩:=hp y hy;have:=bnd y hy;exact⟨by omega,p2⟩
  have hm:16*OV p f f.Code.length<=OI (16*OV p f f.Code.length) e/\e<=OI (16*OV p f f.Code.length) e/\OI (16*OV p f f.Code.length) e<=16*OV p f f.Code.length+80*f.Slots.length:=by unfold OI;split<;>omega
  generalize OI (16*OV p f f.Code.length) e=M at hm;obtain⟨u1,u2,u3⟩:=TC (n:=M) (a:=al) (by omega)
  rw[Aoh (by omega) (by omega) h.alok,aA]
  simp only[bne_self_eq_false,cond_false];rw[decide_eq_false (by omega),cond_false]
  refine .chk (by simp;omega) (.pure ⟨⟨rfl,by simp,⟨λhs=>hs.2.2.2.2.2,λhle=>⟨rfl,by simpa using hl,λk hk=>?_,?_,?_,hle⟩⟩⟩,M,rfl,by omega,hm.2.2⟩)
  ·have ho:off[k]? =some (oN off k):=by unfold oN;rw[aAA (by omega)];rfl
   have hsk:f.Slots[k]? =some f.Slots[k]:=aAA _;obtain⟨p1,p2,p3⟩:=hp k hk;refine⟨oN off k,f.Slots[k],by simpa using ho,hsk,p1,by rw[<- (AaC hsk).2];exact p3,by rw[<- (AaC hsk).1];exact rgt k hk,?_⟩
   have:=e2 k hk;rw[(AaC hsk).1]at this;simp only;omega
  ·show(upN M al).tmod al=0;rw[Int.tmod_eq_emod_of_nonneg (by omega)];exact u3
  ·simp only;omega
end
open Go Go.Dw Go.Proofs
theorem Azh {a v:Int} (e:Ed mv f l a v):v≠a:=by
 obtain⟨j,hj,h1,h2,h3,h4,h5,_⟩:=e;exact h5
theorem Qu.graph (h:Qu f.Slots.length g λa v=>Ed mv f l a v\/Ed mv f l v a):Aca g f.Slots.length:=by
 obtain⟨h0,h⟩:=h;refine⟨by rw[h0],λx s hx=>⟨(h x s hx).1.1,(h x s hx).1.2,λhm=>?_⟩,λx s hx y hy=>?_⟩
 ·grind [Azh]
 ·have hr:=(h x s hx).1;have y0:=(hr.1.2 y hy).1;have y1:=hr.2 y hy
  grind [rowAt]
theorem Ans (hlen:f.Code.length<=10000) (hsl:f.Slots.length<=500) (hml:Acs f) {Q:Nat->Int->Prop} (hg:Qu f.Slots.length g Q) (hsym:∀ (x y:Nat) r s,g[x]? =some r->g[y]? =some s->(y:Int)∈r->(x:Int)∈s) (hirr:∀ (x:Nat) r,g[x]? =some r->(x:Int)∉r):Hs (Wn f g) λto=>Acq f g to:=by
 unfold Wn;refine Hs.loop (λs=>∃ k:Nat,s.2=(k:Int)/\k<=f.Slots.length/\s.1.length=k/\∀ j:Nat,j<k->s.1[j]? =some (j:Int)) (λs=>f.Slots.length-s.2.toNat) ⟨0,rfl,aAC _,rfl,λj hj=>absurd hj (aAI _)⟩ ?_
 rintro⟨to,_⟩ ⟨k,rfl,hk,htl,hto⟩;replace htl:to.length=k:=htl;replace hto:∀ j:Nat,j<k->to[j]? =some (j:Int):=hto;refine .dec (λhlt=>?_) λhge=>.lft ?_
 ·have hlt:k<f.Slots.length:=by omega
  refine .chk (by simp;omega) ?_
  rw[NP (by omega)]
  refine .cnt ⟨⟨k+1,rfl,hlt,by simp[htl],λj hj=>?_⟩,by grind⟩
  grind
 have hkk:k=f.Slots.length:=by omega
 subst hkk;have hid:∀ j:Nat,j<f.Slots.length->Oa to j=(j:Int):=by
  grind [Oa]
 have hc0:Acq f g to:=by
  refine⟨⟨htl,λs hs=>?_⟩,λx y row hx hy he hr hyr=>?_⟩
  all_goals grind
 clear hto hid;refine(Aya hlen).bind λmv hmv=>?_
 obtain⟨hmvl,hmv⟩:=hmv;refine Hs.loop (λs=>∃ i:Nat,s.2=(i:Int)/\i<=mv.length/\Acq f g s.1) (λs=>mv.length-s.2.toNat) ⟨0,rfl,aAC _,hc0⟩ ?_
 clear hc0 htl hge;rintro⟨to,_⟩ ⟨i,rfl,hi,hc⟩;replace hc:Acq f g to:=hc;have htl:=hc.ok.1;unfold AbK;refine .dec (λhlt=>?_) λ_=>.lft (.pure hc)
 have hlt:i<mv.length:=by omega
 have hgp:mv[i]? =some mv[i]:=aAA _;have hpm:=aAG hlt;generalize mv[i]=p at hgp hpm;obtain⟨x,hx,hop,rfl⟩:=hmv p hpm;obtain⟨a0,a1,b0,b1,hsz⟩:=hml x hx hop;have hA:=QP (to:=to) (s:=x.A) a0 (by omega)
 have hB:=QP (to:=to) (s:=x.B) b0 (by omega)
 simp only[aAB,hgp,aA,hA,hB];have skip:Hs (RJ (i:Int) to) (Rnd (λs:List Int×Int=>∃ i:Nat,s.2=(i:Int)/\i<=mv.length/\Acq f g s.1) (λs=>mv.length-s.2.toNat) (to,(i:Int)) λto=>Acq f g to):=by
  unfold RJ;rw[NP (by omega)]
  exact .cnt ⟨⟨i+1,rfl,hlt,hc⟩,by grind⟩
 refine .chk (by omega) (.chk (by omega) (.chk (by omega) (.chk (by omega) (.beq (λ_=>skip) λhne=>?_))))
 refine(Awg hg htl hsl (Oa to x.A) (Oa to x.B)).bind λr hr=>.cond (λ_=>skip) λhrt=>?_
 have hap:=hr (by simp_all)
 have nat:∀ {s:Int},0<=s->s<to.length->0<=Oa to s/\Oa to s<to.length/\Pm f (Oa to s)=Pm f s/\Oa to (Oa to s)=Oa to s:=by
  intro s h0 h1;obtain⟨j,rfl⟩:∃ j:Nat,s=(j:Int):=⟨s.toNat,by omega⟩
  exact hc.ok.2 j (by omega)
 obtain⟨qa1,qa2,qa3,qa4⟩:=nat a0 (by omega)
 obtain⟨qb1,qb2,qb3,qb4⟩:=nat b0 (by omega)
 generalize Oa to x.A=a at *;generalize Oa to x.B=b at *;unfold Yv;refine Hs.loop (λs=>∃ k:Nat,s.2=(k:Int)/\k<=to.length/\s.1.length=to.length/\∀ j:Nat,j<to.length->Oa s.1 j=if j<k then Sq a b (Oa to j)else Oa to j) (λs=>to.length-s.2.toNat) ⟨0,rfl,aAC _,rfl,λj _=>(by simp)⟩ ?_
 rintro⟨t2,_⟩ ⟨k,rfl,hk,h2l,h2⟩;replace h2l:t2.length=to.length:=h2l;replace h2:∀ j:Nat,j<to.length->Oa t2 j=if j<k then Sq a b (Oa to j)else Oa to j:=h2
 unfold AbL;refine .dec (λhlt2=>?_) λhge2=>.lft ?_
 ·have hlt2:k<to.length:=by simp_all
  have hgk:=QP (to:=t2) (s:=(k:Int)) (by omega) (by omega)
  rw[h2 k hlt2,if_neg (Nat.lt_irrefl _)]at hgk;refine .chk (by omega) ?_
  rw[hgk,aA];have fin:∀ q:Bool,(q=true↔Oa to k=a\/Oa to k=b)->Hs (TY (k:Int) t2 a b q) (Rnd (λs:List Int×Int=>∃ k:Nat,s.2=(k:Int)/\k<=to.length/\s.1.length=to.length/\∀ j:Nat,j<to.length->Oa s.1 j=if j<k then Sq a b (Oa to j)else Oa to j) (λs=>to.length-s.2.toNat) (t2,(k:Int)) (Rnd (λs:List Int×Int=>∃ i:Nat,s.2=(i:Int)/\i<=mv.length/\Acq f g s.1) (λs=>mv.length-s.2.toNat) (to,(i:Int)) λto=>Acq f g to)):=by
   intro q hq;unfold TY;rw[NP (by omega)]
   refine .cond (λh=>.chk (by omega) ?_) λh=>.cnt ⟨⟨k+1,rfl,hlt2,h2l,λj hj=>?_⟩,by grind⟩
   ·rw[hgk,aA];refine .cnt ⟨⟨k+1,rfl,hlt2,by simp[h2l],λj hj=>?_⟩,by grind⟩
    by_cases e:j=k
    ·simp_all[Oa,Sq]
    ·have:=h2 j hj;simp only[Oa,aAB]at this ⊢
     grind
   ·show Oa t2 j=_;rw[h2 j hj]
    by_cases e:j=k
    ·simp_all[Sq]
    omega
  refine .beq (λh=>fin true ⟨λ_=>.inl h,λ_=>rfl⟩) λh=>.chk (by omega) ?_
  exact fin _ ⟨λh'=>.inr (by simp_all),λh'=>by simp_all⟩
 ·have hkk:k=to.length:=by grind
  subst hkk;unfold RJ;rw[NP (by omega)]
  refine .cnt ⟨⟨i+1,rfl,hlt,?_⟩,by simp only;omega⟩
  refine hc.join hg hsym (a:=a) (b:=b) ⟨qa1,by omega⟩ ⟨qb1,by omega⟩ qa4 qb4 (by rw[qa3,qb3,hsz]) hap h2l λj hj=>?_
  simp_all
def Afx (f:Lo) (l:List (List Int)) (k:Nat):Prop:=((NI f k).Op=16\/(NI f k).Op=17)/\(NI f k).A∉Oe l k
theorem AxI (hf:Ot f) {l:Ob} (hl:RO f l.Out) (hk:k<f.Code.length):Hs (AcY f l (k:Int)) λb=>b=true↔Afx f l.Out k:=by
 have hx:=hf.at (j:=(k:Int)) (by omega) (by omega)
 have hrow:=hl.at (j:=(k:Int)) (by omega) (by omega)
 rw[aAB]at hx hrow;have hlo:=hrow.2.1.length_le;unfold AcY;simp only[Ov,hx.1,aA,Alr,Ahx]
 by_cases hd:(NI f k).Op=16\/(NI f k).Op=17
 ·rw[if_pos hd];simp only[cond_true,hrow.1,aA];rw[AcH _ _ (by omega),aA]
  exact .pure ⟨λh=>⟨hd,by simp_all⟩,λh=>by simpa using h.2⟩
 ·rw[if_neg hd];exact .pure ⟨λh=>(by cases h),λh=>(hd h.1).elim⟩
theorem Atq (hf:Ot f) {l:Ob} (hl:RO f l.Out) {to:List Int} (hml:Acs f) (htl:to.length=f.Slots.length):Hs (AcX f l to) λkeep=>keep.length=f.Code.length/\∀ k:Nat,k<f.Code.length->(Oi keep k=true↔¬ Afx f l.Out k/\¬ ((NI f k).Op=17/\Oa to (NI f k).A=Oa to (NI f k).B)):=by
 have hlen:=hf.len';refine Hs.loop (λs=>∃ k:Nat,s.2=(k:Int)/\k<=f.Code.length/\s.1.length=k/\∀ j:Nat,j<k->(Oi s.1 j=true↔¬ Afx f l.Out j/\¬ ((NI f j).Op=17/\Oa to (NI f j).A=Oa to (NI f j).B))) (λs=>f.Code.length-s.2.toNat) ⟨0,rfl,aAC _,rfl,λj hj=>absurd hj (aAI _)⟩ ?_
 rintro⟨keep,_⟩ ⟨k,rfl,hk,hkl,hkp⟩;replace hkl:keep.length=k:=hkl;refine .dec (λhlt=>?_) λhge=>.lft (.pure ?_)
 ·have hlt:k<f.Code.length:=by omega
  have hx:=hf.at (j:=(k:Int)) (by omega) (by omega)
  rw[aAB]at hx;simp only[Ov,hx.1,aA];rw[NP (by omega)]
  have fin:∀ q:Bool,(q=true↔¬ Afx f l.Out k/\¬ ((NI f k).Op=17/\Oa to (NI f k).A=Oa to (NI f k).B))->Hs (chk (keep.length+([q]:List Bool).length<=16777216) (cnt (keep++([q]:List Bool),((k+1:Nat):Int)):Option ((List Bool×Int)⊕List Bool))) (Rnd (λs:List Bool×Int=>∃ k:Nat,s.2=(k:Int)/\k<=f.Code.length/\s.1.length=k/\∀ j:Nat,j<k->(Oi s.1 j=true↔¬ Afx f l.Out j/\¬ ((NI f j).Op=17/\Oa to (NI f j).A=Oa to (NI f j).B))) (λs=>f.Code.length-s.2.toNat) (keep,(k:Int)) λkeep=>keep.length=f.Code.length/\∀ k:Nat,k<f.Code.length->(Oi keep k=true↔¬ Afx f l.Out k/\¬ ((NI f k).Op=17/\Oa to (NI f k).A=Oa to (NI f k).B))):=by
   intro q hq;refine .chk (by simp;omega) (.cnt ⟨⟨k+1,rfl,hlt,by simp[hkl],λj hj=>?_⟩,by grind⟩)
   grind [Oi,List.getElem?_concat_length]
  refine(AxI hf hl hlt).bind λr hr=>.cond (λh=>?_) λh=>fin false ⟨λh=>(by cases h),λh'=>(h'.1 (hr.1 (by simp_all))).elim⟩
  have hnd:¬ Afx f l.Out k:=λh'=>by simp_all
  refine .beq (λh17=>?_) λh17=>fin true ⟨λ_=>⟨hnd,λh=>h17 h.1⟩,λ_=>rfl⟩
  obtain⟨a0,a1,b0,b1,_⟩:=hml _ hx.2 h17
  grind [Ps,QP]
 ·have hkk:k=f.Code.length:=by omega
  subst hkk;exact⟨hkl,hkp⟩
def Axx (n:Nat) (f:Lo):Prop:=∀ x∈f.Code,x.Op=22->0<=x.A/\x.A<n
theorem Sm.calls {ps:List Int} {i most:Int} (h:Sm ps i most f) (hi:0<=i):Axx ps.length f:=by
 intro x hx hop;obtain⟨k,hk⟩:=aAH hx;have hkl:=(aAE.1 hk).1
 by_cases hk1:k+1<f.Code.length
 ·have hins:=h.body k x hk hk1;cases hins<;>grind
 ·have he:=h.last x (by grind)
  rcases he with rfl|⟨w,_,rfl⟩<;>simp at hop
theorem AtX (hf:Ot f) (hd:Rx f) (hml:Acs f) {l:Ob} (hacc:Acc f l.Out):Hs (YR f l) λg=>Hs (Wn f g.1) λto=>Hs (AcX f l to) λkeep=>SB f ⟨to,keep⟩:=by
 have hlen:=hf.len';have hsl:=hf.slots;refine Hs.mono (P:=Zw YQ f l.Out) ?_ λg hg=>?_
 ·exact(Alh hf hd (hacc.1.len hf) false).bind λr hr=>.pure hr
 rcases hg with⟨_,_,hg⟩|⟨_,hn,_⟩
 rotate_left
 ·simp_all
 refine(Ans hlen hsl hml hg (λx y r s hr hs hy=>((hg.2 y s hs).2 _).2 (((hg.2 x r hr).2 _).1 hy).symm) λx r hr hx=>?_).mono λto hto=>?_
 ·rcases((hg.2 x r hr).2 _).1 hx with⟨_,_,_,_,_,_,h',_⟩|⟨_,_,_,_,_,_,h',_⟩<;>exact h' rfl
 refine(Atq hf hacc.1 hml hto.ok.1).mono λkeep ⟨hkl,hkp⟩=>⟨hto.ok,hkl,λk hk h=>?_⟩
 by_cases h1:Afx f l.Out k
 ·exact h1.1
 grind
theorem TK.Azr (hs:∀ x∈f.Slots,TJ x) {r:NV} (htl:r.To.length=f.Slots.length) {used:List Int} {out:List NS} (h:TK f r used out):∀ y∈out,TJ y:=by
 intro y hy;obtain⟨j,hj⟩:=aAH hy;have hjl:=(aAE.1 hj).1;have hu:used[j]? =some (used[j]'(by rw[<- h.len];exact hjl)):=aAA _
 obtain⟨x,l,h1,h2,h3,h4⟩:=h.at_ j _ y hu hj;have hx:=hs x (aAD h1);unfold TJ;rw[h2];refine⟨hx.1,?_⟩;rcases h4.2.2 with e|⟨t,ht,e⟩
 ·rw[e];exact hx.2
 ·obtain⟨k,hk,rfl,_⟩:=(h3 t).1 ht;have hs':f.Slots[k]? =some (f.Slots[k]'(by omega)):=aAA _
  have:alS f (k:Int)=(f.Slots[k]'(by omega)).Align:=by unfold alS;rw[aAB,hs'];rfl
  rw[e,this];exact(hs _ (aAG _)).2
structure Aon (p:NM) (i:Int) (f:Lo) (al:Int) (x:Oh) (q:Lo):Prop where
 prop:YL p i=some x
 app:Rq f x.Rename=some (q,0)
 ax:Zu f x.Rename (q,0)
 acc:Acc f x.Live.Out
 rw_:SB f x.Rename
 lost:∀ k y,k<f.Code.length->¬ Zx f x.Live.Out x.Rename k y
 after:Ue x.LiveAfter.Out
 lay:AgT ⟨p.Funcs.set i.toNat q⟩ i q al
 size:∃ M,x.Layout.Size=upN M al/\0<=M/\M<=16*OV p f f.Code.length+80*q.Slots.length
 ok:∀ e,Adt ⟨p.Funcs.set i.toNat q⟩ q al x.LiveAfter.Out x.Layout e->(e=0↔x.Layout.Size<=(PR ⟨p.Funcs.set i.toNat q⟩ q al).Size)
theorem AsW {i:Int} (h:Ahq p i f) (hq:∀ (r:NV) (q:Lo),SB f r->Zu f r (q,0)->(∀ y∈q.Slots,TJ y)/\q.Slots.length<=7) {al:Int} (ea':RL p=some al) (hal:QF al/\16<=al/\al<=16777216):∃ x q,Aon p i f al x q:=by
 obtain⟨i0,i1,hif⟩:=AbF h.hi;have hf:=h.RX;have hlen:=hf.len';obtain⟨l,el,hl⟩:=Asn hf;have hacc:=hl.acc hf;obtain⟨⟨g,ge⟩,eg,hg⟩:Hs (YR f l) (Zw YQ f l.Out):=by
  unfold YR;exact(Alh hf h.defs (hacc.1.len hf) false).bind λr hr=>.pure hr
 rcases hg with⟨_,_,hg⟩|⟨_,hn,_⟩
 rotate_left
 ·exact(hn hacc).elim
 replace hg:Qu f.Slots.length g λa v=>Ed YQ f l.Out a v\/Ed YQ f l.Out v a:=hg
 obtain⟨to,ec,hcls⟩:=Ans hlen hf.slots h.ml hg (λx y r s hr hs hy=>((hg.2 y s hs).2 _).2 (((hg.2 x r hr).2 _).1 hy).symm) λx r hr hx=>by
  rcases((hg.2 x r hr).2 _).1 hx with⟨_,_,_,_,_,_,h',_⟩|⟨_,_,_,_,_,_,h',_⟩<;>exact h' rfl
 obtain⟨keep,ek,hkeep⟩:=Atq hf hacc.1 h.ml hcls.ok.1;have hr:SB f ⟨to,keep⟩:=by
  obtain⟨g2,e1,t2,e2,k2,e3,hr⟩:=AtX hf h.defs h.ml hacc;rw[eg]at e1;cases e1;rw[ec]at e2;cases e2;rw[ek]at e3;cases e3;exact hr
 obtain⟨⟨q,qe⟩,_,ea,hx⟩:=AiT hf h.defs hr;have qe0:qe=0:=hx.1;subst qe0;obtain⟨hL,hqp,_⟩:=h.next hr ea hx hal;have qf:=hL.RX;have qd:=hL.defs;obtain⟨l2,e2,hl2⟩:=Asn qf;have hacc2:=hl2.acc qf;obtain⟨⟨s,se⟩,es,hs⟩:Hs (ZX q l2) (Zw AdG q l2.Out):=by
  unfold ZX;exact(Alh qf qd (hacc2.1.len qf) true).bind λr hr=>.pure hr
 rcases hs with⟨_,_,hs⟩|⟨_,hn,_⟩
 rotate_left
 ·exact(hn hacc2).elim
 replace hs:Qu q.Slots.length s λa v=>Ed AdG q l2.Out a v\/Ed AdG q l2.Out v a:=hs
 obtain⟨_,_,used,to',pl,hu,hsx,hn,hpl,hcode⟩:=id hx;replace hsx:TK f ⟨to,keep⟩ used q.Slots:=hsx;replace hcode:q.Code=Tj f keep to' pl f.Code.length:=hcode;obtain⟨hslot,hul⟩:=hq _ _ hr hx;have hargs:OV ⟨p.Funcs.set i.toNat q⟩ q q.Code.length=OV p f f.Code.length:=by
  unfold OV;rw[aAM,aAM,hcode,ApM h.hi hqp hr _ (aAJ _),aAM]
 have era:=AmS h.hi hlen h.arg;have hk4:=Xf h.arg (aAJ f.Code.length)
 obtain⟨⟨off,oe⟩,eas,o0,al',ap,ac⟩:=AuI (s:=q.Slots) ⟨by omega,λx hx=>(hslot x hx).al⟩ hslot hs.graph (λrow hrow=>by
  obtain⟨k,hk⟩:=aAH hrow
  exact(hs.2 k row hk).1.1.length_le) (frm:=16*OV p f f.Code.length) (by omega)
 replace o0:oe=0:=o0;subst o0;replace al':off.length=q.Slots.length:=al';replace ap:∀ y:Nat,y<q.Slots.length->Plc q.Slots (16*OV p f f.Code.length) (16*OV p f f.Code.length+80*q.Slots.length) off y:=ap;replace ac:∀ y z:Nat,y<q.Slots.length->z<q.Slots.length->y≠z->(z:Int)∈rowAt s y->¬ Uf (ivN q.Slots off y) (ivN q.Slots off z):=ac;rw[<- hargs]at ap;obtain⟨⟨y,ye⟩,ey,⟨_,yo,ys⟩,M,ym,m0,m1⟩:=AsN hL al' ap;replace yo:y.Off=off:=yo;replace ys:RP ⟨p.Funcs.set i.toNat q⟩ q al y↔y.Size<=(PR ⟨p.Funcs.set i.toNat q⟩ q al).Size:=ys;refine⟨⟨l,⟨to,keep⟩,l2,y⟩,q,?_,ea,hx,hacc,hr,?_,hacc2.1.len qf,hL,⟨M,ym,m0,by rw[hargs]at m1;exact m1⟩,?_⟩
 ·unfold YL;simp only[h.hi,aA,el,eg,ec,ek,ea,e2,es,era,eas,bne_self_eq_false,cond_false,Asc p q (show p.Funcs.length<=1000000 by have:=h.pl;omega) i0 (by omega),ea',ey]
 ·rintro m y hm ⟨h1,h2,h3,h4,h5⟩;have hxx:=hf.at (j:=(m:Int)) (by omega) (by omega)
  have hrow:=hacc.1.at (j:=(m:Int)) (by omega) (by omega)
  rw[aAB]at hxx hrow;have hA:=h.defs _ hxx.2 h1;have hy0:=(hrow.2.1.2 y h3).1;have hyn:=hrow.2.2 y h3;have htl:=hcls.ok.1;have hkp:=hkeep.2 m hm
  by_cases hdk:Afx f l.Out m
  ·have hkf:¬ Oi keep m=true:=λh=>(hkp.1 h).1 hdk
   have hyA:y=(NI f m).A:=aAK λh=>hkf (h4.2 h)
   exact(hdk.2 (hyA▸h3)).elim
  ·have hyA:=h4.1 (hkp.2 ⟨hdk,h2⟩);have hed:Ed YQ f l.Out (NI f m).A y:=by
    refine⟨m,hm,rfl,h1,λh=>h2 ⟨h.1,by rw[h.2]⟩,h3,hyA,?_⟩
    by_cases e17:(NI f m).Op=17
    ·have:(NI f m).B≠y:=λh=>h2 ⟨e17,by rw[h,h5]⟩
     simp[YQ,this]
    ·simp[YQ,e17]
   obtain⟨a,ha⟩:∃ a:Nat,(NI f m).A=(a:Int):=⟨(NI f m).A.toNat,by omega⟩
   obtain⟨b,rfl⟩:∃ b:Nat,y=(b:Int):=⟨y.toNat,by omega⟩
   have hgl:=hg.1;have hgr:g[a]? =some (g[a]'(by omega)):=aAA _
   refine(hcls.apart a b _ (by omega) (by omega) (by rw[<- ha,h5]) hgr (((hg.2 a _ hgr).2 _).2 (.inl ?_))).elim
   rw[<- ha];exact hed
 ·have no:∀ (j:Nat) (t:Int),j<q.Code.length->¬ Wu q l2.Out y j t:=by
   rintro j t hj ⟨hdef,hnm,hm,hne,ho⟩;have hxx:=qf.at (j:=(j:Int)) (by omega) (by omega)
   have hrow:=hacc2.1.at (j:=(j:Int)) (by omega) (by omega)
   rw[aAB]at hxx hrow;have hA:=qd _ hxx.2 hdef;have s0:=(hrow.2.1.2 t hm).1;have s1:=hrow.2.2 t hm;have hed:Ed AdG q l2.Out (NI q j).A t:=⟨j,hj,rfl,hdef,λh=>hnm ⟨h.1,by rw[h.2]⟩,hm,hne,rfl⟩
   obtain⟨A,hAe⟩:∃ A:Nat,(NI q j).A=(A:Int):=⟨(NI q j).A.toNat,by omega⟩
   obtain⟨t,rfl⟩:∃ n:Nat,t=(n:Int):=⟨t.toNat,by omega⟩
   rw[hAe]at hed hA hne ho;have hgA:s[A]? =some (s[A]'(by have:=hs.1;omega)):=aAA _
   have hmem:(t:Int)∈rowAt s (A:Int):=by
    unfold rowAt;rw[aAB,hgA];exact((hs.2 A _ hgA).2 _).2 (.inl hed)
   refine ac A t (by omega) (by omega) (λh=>hne (by rw[h])) hmem ?_
   have:=ho.symm;unfold Vl at this;rw[yo]at this;exact this
  intro e he
  by_cases hle:y.Size<=(PR ⟨p.Funcs.set i.toNat q⟩ q al).Size
  ·have hsh:=ys.2 hle;rcases he with⟨h1,_⟩|⟨_,h1,_⟩|⟨_,_,⟨j,t,hj,h1⟩,_⟩|⟨_,_,_,rfl⟩
   ·exact(h1 hsh).elim
   ·exact(h1 hacc2).elim
   ·exact(no j t hj h1).elim
   ·exact iff_of_true rfl hle
  ·have hns:¬ RP ⟨p.Funcs.set i.toNat q⟩ q al y:=λh=>hle (ys.1 h)
   rcases he with⟨_,rfl⟩|⟨h1,_⟩|⟨h1,_⟩|⟨h1,_⟩
   ·exact iff_of_false (by decide) hle
   all_goals exact(hns h1).elim
theorem AsX {i:Int} (h:Ahq p i f) (hso:∀ x∈f.Slots,TJ x) (hsl:f.Slots.length<=7) {al:Int} (ea':RL p=some al) (hal:QF al/\16<=al/\al<=16777216):∃ x q,Aon p i f al x q:=by
 refine AsW h (λr q hr hx=>?_) ea' hal
 obtain⟨_,_,used,to',pl,hu,hsx,hn,hpl,hcode⟩:=hx;replace hsx:TK f r used q.Slots:=hsx;refine⟨TK.Azr hso hr.1.1 hsx,?_⟩;rw[hsx.len];have:=AhW (l:=used) (a:=0) (n:=(f.Slots.length:Int)) hu.1.1 λv hv=>by
  obtain⟨_,j,hj,hk,hv'⟩:=(hu.2 v).1 hv;exact ZQ h.RX h.defs hr.1 (h.RX.at (j:=(j:Int)) (by omega) (by omega)).2 v hv'
 omega
def Way (g:List (List Int)):Nat->Int->Int->Prop
 | 0,i,k=>i=k
 | n+1,i,k=>∃ j,Way g n i j/\k∈g.getD j.toNat []
theorem Auc (S:Int->Prop) (hr:∀ v,S v->0<=v/\v<g.length) (hn:∀ v,S v->∃ u∈g.getD v.toNat [],S u) {v:Int} (hv:S v):∃ (i:Nat) (n:Nat),i<g.length/\n<g.length/\Way g (n+1) i i:=by
 obtain⟨nx,hnx⟩:∃ nx:Int->Int,∀ v,S v->nx v∈g.getD v.toNat []/\S (nx v):=by
  refine⟨λv=>Classical.epsilon λu=>u∈g.getD v.toNat []/\S u,λv hv=>?_⟩
  obtain⟨u,h1,h2⟩:=hn v hv;exact Classical.epsilon_spec (p:=λu=>u∈g.getD v.toNat []/\S u) ⟨u,h1,h2⟩
 obtain⟨f,hf0,hf⟩:∃ f:Nat->Int,f 0=v/\∀ n,f (n+1)=nx (f n):=⟨λn=>n.rec v λ_ x=>nx x,rfl,λ_=>rfl⟩
 have hS:∀ n,S (f n):=by
  intro n
  induction n with
  | zero=>rw[hf0];exact hv
  | succ n ih=>rw[hf];exact(hnx _ ih).2
 have hw:∀ a d,Way g d (f a) (f (a+d)):=by
  intro a d
  induction d with
  | zero=>rfl
  | succ d ih=>exact⟨_,ih,by rw[show a+(d+1)=(a+d)+1 by omega,hf];exact(hnx _ (hS _)).1⟩
 have hnot:¬ ((aAF (g.length+1)).map f).Nodup:=by
  intro hd
  have:=(AfC g.length _ hd λx hx=>by
   obtain⟨k,_,rfl⟩:=aAU.1 hx
   exact hr _ (hS k)).1
  simp at this;omega
 have hex:∃ a b:Nat,a<b/\b<=g.length/\f a=f b:=by
  apply aAK;intro hne;refine hnot (aAa.2 λa b ha hb hab=>?_)
  simp only[List.length_map,List.length_range]at ha hb;simp only[List.getElem_map,List.getElem_range];exact λe=>hne ⟨a,b,hab,by omega,e⟩
 obtain⟨a,b,hab,hbl,e⟩:=hex;have h1:=hw a (b-a);rw[show a+(b-a)=b by omega,<- e]at h1
 have h2:=hr _ (hS a);refine⟨(f a).toNat,b-a-1,by omega,by omega,?_⟩
 rw[show((f a).toNat:Int)=f a by omega,show b-a-1+1=b-a by omega]
 exact h1
theorem ArD {g:List (List Int)} {done:List Int}:∀ (d k:Nat),nxY g done d k<0->∀ j,k<=j->j<k+d->¬ (¬ (j:Int)∈done/\∀ v∈g.getD j [],v∈done)
 | 0,_,_=>λj h1 h2=>by omega
 | d+1,k,h=>λj h1 h2=>by
  unfold nxY at h;split at h
  ·omega
  ·rename_i hn
   by_cases e:j=k
   ·subst e;exact hn
   ·exact ArD d (k+1) h j (by omega) (by omega)
theorem ApD:∀ {l m:List Int},l.Nodup->(∀ x∈l,x∈m)->l.length<=m.length
 | [],_,_,_=>aAC _
 | x::l,m,hd,hs=>by
  have hx:x∈m:=hs x (by simp)
  have hd':=List.nodup_cons.1 hd;have:=ApD (m:=m.erase x) hd'.2 λy hy=>(List.mem_erase_of_ne (λe=>hd'.1 (by subst e;exact hy))).2 (hs y (by simp[hy]))
  rw[List.length_erase_of_mem hx]at this;have:=List.length_pos_of_mem hx;simp only[List.length_cons];omega
theorem Amm (hg:GrY g) (he:Rm g=some ([],8)):∃ (i:Nat) (n:Nat),i<g.length/\n<g.length/\Way g (n+1) i i:=by
 have hh:Hs (Rm g) λr=>r.2=8->∃ (i:Nat) (n:Nat),i<g.length/\n<g.length/\Way g (n+1) i i:=by
  unfold Rm;refine Hs.loop (λs:List Int×List Int=>UK g s.1 s.2/\s.1.length<=g.length) (λs=>g.length-s.1.length) ⟨UK.nil g,aAC _⟩ λs ⟨hs,hsl⟩=>?_
  refine⟨Aep g s.1 s.2,ApI hg hs,?_⟩;cases hst:Aep g s.1 s.2 with
  | inl s' =>
   obtain⟨h1,h2,h3⟩:=Ast hg hs hst;exact⟨⟨h1,by omega⟩,by show g.length-s'.1.length<g.length-s.1.length;omega⟩
  | inr r =>
   unfold Aep at hst;split at hst
   ·rename_i hlt;split at hst
    ·rename_i hneg;intro _;have hno:∀ j:Nat,j<g.length->(j:Int)∉s.2->∃ v∈g.getD j [],v∉s.2:=by
      intro j hj hd;apply aAK;intro hall;have hc:∀ v∈g.getD j [],v∈s.2:=λv hv=>aAK λhn=>hall ⟨v,hv,hn⟩
      exact ArD (g.length) 0 hneg j (aAC _) (by omega) ⟨hd,hc⟩
     have hex:∃ j:Nat,j<g.length/\(j:Int)∉s.2:=by
      apply aAK;intro hall;have hin:∀ x∈(aAF g.length).map (λn:Nat=>(n:Int)),x∈s.1:=by
       intro x hx;obtain⟨k,hk,rfl⟩:=aAU.1 hx;have hk:=aAl.1 hk;exact(hs.mem _).1 (aAK λhn=>hall ⟨k,hk,hn⟩)
      have hnd:((aAF g.length).map (λn:Nat=>(n:Int))).Nodup:=by
       refine aAa.2 λa b ha hb hab=>?_
       simp only[List.getElem_map,List.getElem_range];omega
      have:=ApD hnd hin;simp at this;omega
     obtain⟨j,hj,hjd⟩:=hex;refine Auc (λv=>(0<=v/\v<g.length)/\v∉s.2) (λv hv=>hv.1) (λv hv=>?_) (v:=(j:Int)) ⟨by omega,hjd⟩
     have e:((v.toNat:Nat):Int)=v:=by omega
     obtain⟨u,hu,hud⟩:=hno v.toNat (by omega) (by rw[e];exact hv.2)
     have hrow:g[v.toNat]? =some (g[v.toNat]'(by omega)):=aAA _
     have hg1:g.getD v.toNat []=g[v.toNat]'(by omega):=by rw[aAQ,hrow];rfl
     have h2:=(hg.at_ hrow);refine⟨u,hu,⟨(h2.1.2 u (hg1▸hu)).1,h2.2 u (hg1▸hu)⟩,hud⟩
    ·cases hst
   ·cases hst;intro e;cases e
 obtain⟨r,h1,h2⟩:=hh;rw[he]at h1;cases h1;exact h2 rfl
theorem Avn {a b a' b':Int} (h1:a'<=a) (h2:b'<=b):OI a' b'<=OI a b:=by
 grind [OI]
theorem AnA {f f':Nat->Option Int} (hf:∀ i x,f i=some x->∃ x',f' i=some x'/\x'<=x):∀ {s:List Int} {b b' m:Int},b'<=b->s.foldlM (λa j=>(f j.toNat).map (OI a)) b=some m->∃ m',s.foldlM (λa j=>(f' j.toNat).map (OI a)) b'=some m'/\m'<=m
 | [],b,b',m,hb,h=>by simp_all
 | x::s,b,b',m,hb,h=>by
  simp only[List.foldlM_cons,aAn,aAW]at h;obtain⟨c,hc,h⟩:=h;obtain⟨y,hy,rfl⟩:=aAi.1 hc;obtain⟨y',hy',hle⟩:=hf _ _ hy;obtain⟨m',h1,h2⟩:=AnA hf (Avn hb hle) h;simp_all
def LeW (w' w:List Int):Prop:=w'.length=w.length/\∀ (i:Nat) x,w[i]? =some x->∃ x',w'[i]? =some x'/\0<=x'/\x'<=x
theorem Atm {g:List (List Int)} {w w':List Int} (hw:LeW w' w):∀ (n i:Nat) (x:Int),bF g w n i=some x->∃ x',bF g w' n i=some x'/\x'<=x
 | 0,_,_,h=>by cases h
 | n+1,i,x,h=>by
  unfold bF at h;simp only[aAW]at h;obtain⟨s,hs,y,hy,m,hm,h⟩:=h;obtain⟨y',hy',y0,y1⟩:=hw.2 i y hy;obtain⟨m',hm',h2⟩:=AnA (Atm hw n) (Int.le_refl 0) hm;split at h
  ·cases h;refine⟨y'+m',?_,by omega⟩
   unfold bF
   grind
  ·cases h
theorem YW.mono {w w':List Int} {o r':List Int×Int} (h:YW g w o r) (h':YW g w' o r') (h0:r.2=0) (hw:LeW w' w):r'.2=0:=by
 rcases h with⟨_,rfl⟩|⟨⟨hz,hwt⟩,⟨h2,rfl⟩|⟨h2,⟨_,rfl⟩|⟨h3,h4,h5⟩⟩⟩
 ·omega
 ·omega
 ·omega
 have hwt':WtY g w':=⟨hw.1.trans hwt.1,λx hx=>by
  obtain⟨k,hk⟩:=aAH hx;have hkl:=(aAE.1 hk).1;have hk2:w[k]? =some (w[k]'(by have:=hw.1;omega)):=aAA _
  obtain⟨x',e1,e2,e3⟩:=hw.2 k _ hk2;rw[hk]at e1;cases e1;have:=hwt.2 _ (aAD hk2)
  omega⟩
 rcases h' with⟨g1,_⟩|⟨_,⟨g2,_⟩|⟨_,⟨⟨i,hi,hn⟩,_⟩|⟨g3,_⟩⟩⟩
 all_goals grind [Atm,vB]
attribute [local simp] Ou aAS
def zB:PH:=⟨⟨0,[]⟩,0,[],[]⟩
theorem AtA (p:NM) (l:List Oh) (g:List (List Int)) (hn:p.Funcs.length<=1000) {e:Int} (he:e≠0):RA p l g e=some (zB,e):=by
 have hh:Hs (RA p l g e) λr=>r=(zB,e):=by
  have hb:(e==0)=false:=by simp[he]
  refine Hs.loop (λz=>z.1=e/\z.2.1=[]/\z.2.2.1=[]/\∃ k:Nat,z.2.2.2=(k:Int)/\k<=p.Funcs.length) (λz=>p.Funcs.length-z.2.2.2.toNat) ⟨rfl,rfl,rfl,0,rfl,aAC _⟩ ?_
  rintro⟨x7,x8,x9,x10⟩ ⟨h7,h8,h9,k,hk,hkl⟩;subst h7;subst h8;subst h9;subst hk;dsimp only;have nx:k<p.Funcs.length->Hs (cnt (R:=PH×Int) (x7,([]:List OG),([]:List Int),IntKind.i64.wrap ((k:Int)+1))) (Rnd (λz:Int×List OG×List Int×Int=>z.1=x7/\z.2.1=[]/\z.2.2.1=[]/\∃ k:Nat,z.2.2.2=(k:Int)/\k<=p.Funcs.length) (λz=>p.Funcs.length-z.2.2.2.toNat) (x7,[],[],(k:Int)) λr:PH×Int=>r=(zB,x7)):=by
   intro hlt;refine .cnt ⟨⟨rfl,rfl,rfl,k+1,NP (by omega),by omega⟩,?_⟩
   grind [NP]
  refine .dec (λhlt=>?_) λhlt=>.lft ?_
  ·refine .dec (λhl=>?_) λhl=>?_
   ·refine(Hs.ix (l:=l) (i:=(k:Int)) (by omega) hl λz hz=>hz).bind λx _=>?_
    rw[hb,cond_false];exact nx (by omega)
   ·rw[hb,cond_false];exact nx (by omega)
  ·rw[hb,cond_false];unfold UB;rw[show(x7 != 0)=true by simp[he],cond_true]
   exact .pure rfl
 obtain⟨r,h1,rfl⟩:=hh;exact h1
section
variable {p:NM} (h:Ra p)
 include h
theorem Ra.at (hf:p.Funcs[i]? =some f):Ahq p i f:=h.opt (by simp_all)
theorem Ra.gw (hf:p.Funcs[i]? =some f):GW p.Funcs.length f:=h.all f (aAD hf)
theorem Ra.calls:CallsIn p:=by
 intro f hf;obtain⟨i,hi⟩:=aAH hf;exact(h.at hi).calls
theorem Ra.gr:GrY (cgR p):=Ayx (by have:=h.few;omega) h.calls
theorem Ra.align:∃ al,Si p=some al/\RL p=some al/\QF al/\16<=al/\al<=16777216:=by
 have:=h.few;exact(h.at (aAA (show 0<p.Funcs.length by omega))).align
theorem Ra.Azo {al:Int} (ea:Si p=some al) (hal:QF al/\16<=al/\al<=16777216) (l:List Oh) (g:List (List Int)) (hr:Wy g (p.Funcs.map (λf=>(PR p f al).Size))=some r) (hz:TQ p l g r.2=some z) :
  Sc p l g 0=some z:=by
 have hf:=h.few;have hh:Hs (Sc p l g 0) λx=>x=z:=by
  unfold Sc;refine Hs.loop (λz=>∃ k:Nat,z.2=(k:Int)/\k<=p.Funcs.length/\z.1=(p.Funcs.take k).map (λf=>(PR p f al).Size)) (λz=>p.Funcs.length-z.2.toNat) ⟨0,rfl,aAC _,rfl⟩ ?_
  rintro⟨out,k4⟩ ⟨k,hk,hkl,ho⟩;simp only at hk ho;subst hk;refine .dec (λhlt=>?_) λhlt=>.lft ?_
  ·obtain⟨f,hx⟩:∃ f,p.Funcs[k]? =some f:=⟨p.Funcs[k]'(by omega),aAA (by omega)⟩
   have hO:=h.at hx;rw[ea,aA,Ajt hO.hi hO.RX.len' hO.arg (hO.lay hal).slots hal.1 hal.2.2,aA];refine .bne (λe=>absurd rfl e) λ_=>.chk (by grind) (.cnt ⟨⟨k+1,NP (by omega),by omega,?_⟩,?_⟩)
   ·simp_all[Adj]
   grind [NP]
  ·have:k=p.Funcs.length:=by omega
   rw[this,aAM]at ho;rw[ho,hr,aA,hz];exact .pure rfl
 obtain⟨r,h1,rfl⟩:=hh;exact h1
end
open Go Go.Dw Go.Proofs
set_option maxHeartbeats 4000000 in
def UU (l:List Oh) (i:Nat):Oh:=(l[i]?).getD ⟨⟨[]⟩,⟨[],[]⟩,⟨[]⟩,⟨0,0,[]⟩⟩
def frY (p:NM) (R:Nat->Lo×NT×Int×Int) (i:Nat):OG:=⟨((p.Funcs[i]?).map Lo.Params).getD 0,(R i).2.1.Size,(R i).1.Code.map (Pp (R i).1 (R i).2.1)⟩
section
variable {p:NM} (h:Ra p) {al:Int} (hal:QF al/\16<=al/\al<=16777216)
 include h hal
theorem Ra.params (hf:p.Funcs[i]? =some f):0<=f.Params/\f.Params<=8:=by
 have _z:=hal
 exact(h.gw hf).par
theorem Ra.small (hf:p.Funcs[i]? =some f):(PR p f al).Size<=1000000000:=(Ake ((h.at hf).lay hal).bas).2.2.2.2.2
theorem Ra.AyP {R:Nat->Lo×NT×Int×Int} (hR:∀ (i:Nat) f,p.Funcs[i]? =some f->ChY p i f al (R i)) (hf:p.Funcs[i]? =some f):Awc ((aAF p.Funcs.length).map (frY p R)) al (frY p R i):=by
 have hc:=hR i f hf;have hp:=h.params hal hf;have hb:=h.small hal hf;have hg:=hc.gok;have hsz:=hc.size;obtain⟨s1,s2,s3,s4,s5,s6⟩:=id hc.shape;have hpar:(frY p R i).Params=f.Params:=by grind [frY]
 have hA0:0<=OV ⟨p.Funcs.set (i:Int).toNat (R i).1⟩ (R i).1 (R i).1.Code.length:=by
  have:=AgV (p:=⟨p.Funcs.set (i:Int).toNat (R i).1⟩) (f:=(R i).1) (m:=(R i).1.Code.length) (k:=0) (aAC _) (aAJ _)
  grind [OV]
 have low:=λx hx=>Avk hg hc.shape (by omega) (x:=x) hx
 have hcl:(frY p R i).Code.length=(R i).1.Code.length:=by simp[frY]
 have hsize:(frY p R i).Size=(R i).2.1.Size:=rfl;refine⟨by omega,by omega,s4,by have:=hg.len;have:=hg.len';omega,λx hx=>?_,λx hx=>?_,λx hx hop=>?_⟩
 ·obtain⟨x0,hx0,rfl⟩:=aAU.1 hx;have:=(low x0 hx0).2.2.1;rw[hcl,hpar,hsize,<- hc.par];simp_all
 ·rw[hcl]at hx;have hln:=hg.len;have hk:(R i).1.Code[(R i).1.Code.length-1]? =some (NI (R i).1 ((R i).1.Code.length-1:Nat)):=by
   grind [NI]
  have hx':(frY p R i).Code[(R i).1.Code.length-1]? =some (Pp (R i).1 (R i).2.1 (NI (R i).1 ((R i).1.Code.length-1:Nat))):=by
   grind [frY]
  rw[hx']at hx;cases hx;refine(low _ (aAD hk)).2.2.2.2 true ?_;rcases hg.last with e|e|e<;>rw[e]<;>simp[PS]
 ·obtain⟨x0,hx0,rfl⟩:=aAU.1 hx;obtain⟨e1,e2⟩:=(low x0 hx0).2.2.2.1 hop;obtain⟨a0,g,hg1,g0,g1⟩:=(hc.arg x0 hx0).2 e1;have hge:=(Atl hx0).2 e1 g hg1;rw[e2];simp only at hg1;have hAl:x0.A.toNat<p.Funcs.length:=by
   grind
  have hpg:((p.Funcs[x0.A.toNat]?).map Lo.Params).getD 0=g.Params:=by
   have hsp:=Ams (p:=p) (i:=(i:Int)) (f:=f) (q:=(R i).1) (by simp_all) hc.par x0.A.toNat
   simp_all
  grind [frY,Ps]
end
open Go Go.Dw Go.Proofs
structure AqI (p:NM) (al:Int) (o r:List Int×Int):Prop where
 ea:Si p=some al
 hal:QF al/\16<=al/\al<=16777216
 ord:Rm (cgR p)=some o
 ho:o=([],8)\/(o.2=0/\o.1.length=(cgR p).length/\∃ done,UK (cgR p) o.1 done)
 b1:Wy (cgR p) (p.Funcs.map λf=>(PR p f al).Size)=some r
 out:YW (cgR p) (p.Funcs.map λf=>(PR p f al).Size) o r
theorem Atk (hg:GrY g) (w:List Int):∃ o r,Rm g=some o/\Wy g w=some r/\YW g w o r/\(o=([],8)\/(o.2=0/\o.1.length=g.length/\∃ done,UK g o.1 done)):=by
 obtain⟨o,e1,e3⟩:=ApE hg;obtain⟨r,h1,h2⟩:=AuM hg (w:=w) e1;exact⟨o,r,e1,h1,h2,e3⟩
theorem Ra.Axq (h:Ra p):∃ al o r,AqI p al o r:=by
 obtain⟨al,ea,_,hal⟩:=h.align;obtain⟨o,r,c1,b1,oW,ho⟩:=Atk h.gr (p.Funcs.map λf=>(PR p f al).Size)
 exact⟨al,o,r,ea,hal,c1,ho,b1,oW⟩
def ChD (p:NM) (al:Int) (l:List Oh) (R:Nat->Lo×NT×Int×Int):Prop:=∀ (i:Nat) f,p.Funcs[i]? =some f->QK p i (UU l i)=some (R i)/\ChY p i f al (R i)/\(R i).1.Code.length<=f.Code.length/\((UU l i).Live.Out=[]->R i=(f,PR p f al,0,0))
inductive AhS (p:NM) (l:List Oh) (al:Int) (o r:List Int×Int):PH×Int->Prop
 | cyc:o=([],8)->AhS p l al o r (zB,o.2)
 | over:o.2=0->r.2≠0->AhS p l al o r (zB,r.2)
 | ok (R:Nat->Lo×NT×Int×Int) (rT:List Int×Int) (x0:Int):o.2=0->r.2=0->ChD p al l R->YW (cgR p) (((aAF p.Funcs.length).map (frY p R)).map (·.Size)) o rT->rT.2=0->rT.1[0]? =some x0 ->
  Aol (cgR p) (((aAF p.Funcs.length).map (frY p R)).map (·.Size)) rT.1->AhS p l al o r (⟨⟨al,(aAF p.Funcs.length).map (frY p R)⟩,x0,rT.1,(aAF p.Funcs.length).map λi=>(R i).2.2.1⟩,0)
theorem Avi (n:Int):∀ l,AoF n l=TE n l
 | []=>rfl
 | x::r=>by unfold AoF TE;rw[Avi n r]
theorem Awm (l:List Mk):ZB l=Wz l:=by
 have e:Amt=QM:=by
  funext n s;unfold Amt QM;rw[Avi]
 unfold ZB Wz;rw[e]
theorem Ra.cg (h:Ra p):Aov p=some (cgR p):=by
 have hc:=h.calls;unfold Aov;rw[@Ou _ _ (aAe _) _ ⟨h.few,λf hf=>⟨⟨(h.all f hf).len,(h.all f hf).len'⟩,hc f hf⟩⟩]
 unfold cgR;simp only[Awm]
theorem Aol.broken {w c:List Int} (h:Aol g w c):AfJ g w c=some (0,false):=by
 unfold AfJ;rw[@Ou _ _ (aAe _) _ ⟨h.size,h.row,h.wt,h.cl,h.ge⟩]
theorem Ati {t:OW} (hn:t.Frames.length<=1000000):Wg t=some (t.Frames.map (·.Size)):=by
 have hh:Hs (Wg t) λr=>r=t.Frames.map (·.Size):=by
  unfold Wg;refine Hs.loop (λz=>∃ k:Nat,z.2=(k:Int)/\k<=t.Frames.length/\z.1=(t.Frames.take k).map (·.Size)) (λz=>t.Frames.length-z.2.toNat) ⟨0,rfl,aAC _,rfl⟩ ?_
  rintro⟨w,_⟩ ⟨k,rfl,hk,hw⟩;replace hw:w=(t.Frames.take k).map (·.Size):=hw;unfold AbB;dsimp only;refine .dec (λhlt=>?_) λ_=>.lft (.pure ?_)
  ·have hx:t.Frames[k]? =some (t.Frames[k]'(by omega)):=aAA _
   rw[Ov,hx,aA,NP (by omega)]
   refine .chk (by rw[hw];simp;omega) (.cnt ⟨⟨k+1,rfl,by omega,?_⟩,by simp only;omega⟩)
   show w++_=_;rw[hw,Adj hx,List.map_append];rfl
  ·have:k=t.Frames.length:=by omega
   subst this;rw[aAM]at hw;exact hw
 obtain⟨r,h1,rfl⟩:=hh;exact h1
theorem AhK {α:Type} (f:Nat->α) (k:Nat):(aAF (k+1)).map f=(aAF k).map f++[f k]:=by rw[List.range_succ,List.map_append];rfl
section
variable {p:NM} (h:Ra p) {al:Int} (hal:QF al/\16<=al/\al<=16777216)
 include h hal
theorem Ra.Awn (ea:Si p=some al) (l:List Oh) (hl:∀ x∈l,Ue x.Live.Out/\Ue x.LiveAfter.Out):∃ R:Nat->Lo×NT×Int×Int,ChD p al l R:=by
 have key:∀ i:Nat,∃ r:Lo×NT×Int×Int,∀ f,p.Funcs[i]? =some f->QK p i (UU l i)=some r/\ChY p i f al r/\r.1.Code.length<=f.Code.length/\((UU l i).Live.Out=[]->r=(f,PR p f al,0,0)):=by
  intro i;cases hf:p.Funcs[i]? with
  | none=>exact⟨(⟨0,[],[]⟩,⟨0,0,[]⟩,0,0),λf e=>by cases e⟩
  | some f =>
   have hx:Ue (UU l i).Live.Out/\Ue (UU l i).LiveAfter.Out:=by
    unfold UU;cases hx:l[i]? with
    | none=>exact⟨⟨by simp,by simp⟩,⟨by simp,by simp⟩⟩
    | some x=>exact hl x (aAD hx)
   obtain⟨r,h1⟩:=AtV (h.at hf) (h.gw hf) ea hal (UU l i) hx.1 hx.2;exact⟨r,λf' e=>by cases e;exact h1⟩
 exact aAf key
variable {l:List Oh} {R:Nat->Lo×NT×Int×Int} (hR:ChD p al l R)
 include hR
theorem Ra.AzE (hk:k<p.Funcs.length):QK p k (UU l k)=some (R k)/\(R k).2.2.2=0/\Ty p k (R k).1=some ⟨p.Funcs.set k (R k).1⟩/\Xs ⟨p.Funcs.set k (R k).1⟩ k (R k).2.1=some (frY p R k):=by
 have hf:p.Funcs[k]? =some p.Funcs[k]:=aAA hk;obtain⟨h1,h3,_⟩:=hR k _ hf;have hfew:=h.few;have hsm:=h.small hal hf;have hg:=h3.gok;have hsz:=h3.size;have hx:=λx hx=>Avk hg h3.shape (by omega) (x:=x) hx
 have hfs:(⟨p.Funcs.set k (R k).1⟩:NM).Funcs[k]? =some (R k).1:=aAO (by omega)
 have hl:=hg.len';have e1:=AwB hfs (by omega) (y:=(R k).2.1) (T:=Pp (R k).1 (R k).2.1) (λx hm=>(hx x hm).1) (λx hm=>(hx x hm).2.1)
 have o1:=AoN p (R k).1 (i:=(k:Int)) (by omega) (by omega) (by omega)
 rw[aAB]at o1;refine⟨h1,h3.err,o1,?_⟩;rw[e1,h3.par];unfold frY;rw[hf];rfl
theorem Ra.Azl (hz:WI p l g 0 ((aAF p.Funcs.length).map (frY p R)) ((aAF p.Funcs.length).map (λi=>(R i).2.2.1)) (p.Funcs.length:Int)=lft (some z)):RA p l g 0=some z:=by
 have hfew:=h.few;have hh:Hs (RA p l g 0) λr=>r=z:=by
  unfold RA;refine Hs.loop (λs=>∃ k:Nat,s=(0,(aAF k).map (frY p R),(aAF k).map (λi=>(R i).2.2.1),(k:Int))/\k<=p.Funcs.length) (λs=>p.Funcs.length-s.2.2.2.toNat) ⟨0,rfl,aAC _⟩ ?_
  rintro _ ⟨k,rfl,hkl⟩
  by_cases hlt:k<p.Funcs.length
  ·obtain⟨c1,c3,o1,f1⟩:=h.AzE hal hR hlt;have l1:((aAF k).map (frY p R)).length+([frY p R k]:List OG).length<=16777216:=by simp;omega
   have l2:((aAF k).map (λi=>(R i).2.2.1)).length+([(R k).2.2.1]:List Int).length<=16777216:=by simp;omega
   have nx:Hs (cnt (R:=PH×Int) ((0:Int),(aAF k).map (frY p R)++[frY p R k],(aAF k).map (λi=>(R i).2.2.1)++[(R k).2.2.1],IntKind.i64.wrap ((k:Int)+1))) (Rnd (λs:Int×List OG×List Int×Int=>∃ k:Nat,s=(0,(aAF k).map (frY p R),(aAF k).map (λi=>(R i).2.2.1),(k:Int))/\k<=p.Funcs.length) (λs=>p.Funcs.length-s.2.2.2.toNat) ((0:Int),(aAF k).map (frY p R),(aAF k).map (λi=>(R i).2.2.1),(k:Int)) λr:PH×Int=>r=z):=by
    rw[NP (by omega),<- AhK,<- AhK (λi=>(R i).2.2.1)]
    exact .cnt ⟨⟨k+1,rfl,hlt⟩,by simp only;omega⟩
   unfold WI;dsimp only;rw[decide_eq_true (show(k:Int)<(p.Funcs.length:Int)by omega),cond_true]
   have go:∀ {x},UU l k=x->QK p k x=some (R k):=λe=>e▸c1
   refine .dec (λhl=>?_) λhl=>?_
   ·refine(Hs.ix (l:=l) (i:=(k:Int)) (by omega) hl λz hz=>hz).bind λx hx=>?_
    simp only[aAB]at hx;simp only[go (show UU l k=x by unfold UU;rw[hx];rfl),beq_self_eq_true,cond_true,aA,c3,bne_self_eq_false,cond_false,o1,f1]
    rw[Ou l1,Ou l2];exact nx
   ·simp only[go (show UU l k=⟨⟨[]⟩,⟨[],[]⟩,⟨[]⟩,⟨0,0,[]⟩⟩by unfold UU;rw[aAm (by omega)];rfl),beq_self_eq_true,cond_true,aA,c3,bne_self_eq_false,cond_false,o1,f1]
    rw[Ou l1,Ou l2];exact nx
  ·have:k=p.Funcs.length:=by omega
   subst this;dsimp only;rw[hz];exact .lft (.pure rfl)
 obtain⟨r,h1,rfl⟩:=hh;exact h1
end
theorem Apr (h:Ra p) (s1:Ack p=some 0) {al:Int} {o:List Int×Int} (B:AqI p al o r) {l:List Oh} (hl:∀ x∈l,Ue x.Live.Out/\Ue x.LiveAfter.Out):∃ z,Tc p l=some z/\AhS p l al o r z:=by
 obtain⟨ea,hal,c1,ho,b1,oW⟩:=B;have hfew:=h.few;have hgr:=h.gr;have hgl:(cgR p).length=p.Funcs.length:=by simp[cgR]
 have start:∀ z,Sc p l (cgR p) o.2=some z->Tc p l=some z:=by
  intro z hz;unfold Tc;simp only[beq_self_eq_true,cond_true,s1,aA];unfold WJ;simp only[beq_self_eq_true,cond_true,h.cg,aA,c1];exact hz
 rcases ho with ho|⟨ho0,hol,done,hord⟩
 ·refine⟨_,start _ ?_,.cyc ho⟩;rw[ho];exact AtA p l _ (by omega) (by decide)
 rw[ho0]at start;have psz:∀ z,TQ p l (cgR p) r.2=some z->Tc p l=some z:=λz hz=>start z (h.Azo ea hal l (cgR p) b1 hz)
 by_cases hr0:r.2=0
 ·rw[hr0]at psz;obtain⟨R,hR⟩:=h.Awn hal ea l hl;have hF:∀ (i:Nat) f,p.Funcs[i]? =some f->ChY p i f al (R i):=λi f hf=>(hR i f hf).2.1
  obtain⟨t,ht⟩:∃ t:OW,t=⟨al,(aAF p.Funcs.length).map (frY p R)⟩:=⟨_,rfl⟩;have htl:t.Frames.length=p.Funcs.length:=by rw[ht];simp
  have w1:=Ati (t:=t) (by omega)
  obtain⟨o',rT,c1',b1',oT,_⟩:=Atk hgr (t.Frames.map (·.Size));rw[c1]at c1';cases c1';have hle:LeW (t.Frames.map (·.Size)) (p.Funcs.map λf=>(PR p f al).Size):=by
   refine⟨by simp[htl],λi x hx=>?_⟩
   rw[List.getElem?_map]at hx;obtain⟨f,hf,rfl⟩:=aAi.1 hx;have hil:=(aAE.1 hf).1;have hfr:=(h.AyP hal hF hf).size;refine⟨(frY p R i).Size,?_,hfr.1,(hF i f hf).size⟩;rw[ht];simp[hil]
  have hT0:=YW.mono oW oT hr0 hle;have hbrk:=oT.AzA hgr hT0 hord hol;have hrl:=hbrk.cl;obtain⟨x0,hx0⟩:∃ x0,rT.1[0]? =some x0:=⟨rT.1[0]'(by omega),aAA _⟩
  have hcert:UQ (cgR p) (t.Frames.map (·.Size)) rT.1=some 0:=by
   unfold UQ;rw[AkZ hbrk,aA];simp only[aAN,cond_false];rw[hbrk.broken,aA];rfl
  have hmach:Aaj t=some 0:=by
   obtain⟨m,hm,hme⟩:=hal.1;refine Avp (t:=t) (by rw[ht,hme];exact Ajq hm) (by rw[ht];exact hal.2.1) (by omega) (λfr hfr=>?_) λfr hfr=>?_
   ·rw[ht]at hfr ⊢;obtain⟨i,hi,rfl⟩:=aAU.1 hfr;exact h.AyP hal hF (aAA (aAl.1 hi))
   ·have h0:0<p.Funcs.length:=by omega
    rw[ht,List.getElem?_map,List.getElem?_range h0]at hfr;cases hfr;unfold frY;rw[aAA h0];exact h.zero _ (aAA h0)
  refine⟨(⟨t,x0,rT.1,(aAF p.Funcs.length).map (λi=>(R i).2.2.1)⟩,0),psz _ (h.Azl hal hR ?_),?_⟩
  ·unfold WI;rw[show(decide ((p.Funcs.length:Int)<(p.Funcs.length:Int)))=false by simp,cond_false]
   simp only[beq_self_eq_true,cond_true,ea,aA,<- ht];simp only[w1,aA,b1',hT0,bne_self_eq_false,cond_false];rw[Ps _ (by omega)]
   simp only[Int.toNat_zero,hx0,aA,hcert,bne_self_eq_false,cond_false,hmach];unfold TP UB;simp only[bne_self_eq_false,cond_false];rw[ht]
  ·rw[ht]at oT hbrk ⊢;exact .ok R rT _ ho0 hr0 hR oT hT0 hx0 hbrk
 ·exact⟨(zB,r.2),psz _ (AtA p l _ (by omega) hr0),.over ho0 hr0⟩
open Go Go.Dw Go.Proofs
theorem AnB {f:Nat->Option Int} {C:Int}:∀ {s:List Int} {b:Int},(∀ j∈s,∃ x,f j.toNat=some x/\0<=x/\x<=C)->0<=b/\b<=C->∃ m,s.foldlM (λa j=>(f j.toNat).map (OI a)) b=some m/\0<=m/\m<=C
 | [],b,_,hb=>⟨b,rfl,hb⟩
 | x::s,b,h,hb=>by
  obtain⟨y,hy,hr⟩:=h x (by simp)
  obtain⟨m,hm,hr'⟩:=AnB (f:=f) (C:=C) (s:=s) (b:=OI b y) (λj hj=>h j (by simp[hj])) (by unfold OI;split<;>omega)
  refine⟨m,?_,hr'⟩;simp only[List.foldlM_cons,aAn,hy,Option.map_some,aA];exact hm
theorem AtF {g:List (List Int)} (hg:GrY g) {w order done:List Int} (ho:UK g order done) (hl:order.length=g.length) {M:Int} (hw:w.length=g.length) (hM:∀ x∈w,0<=x/\x<=M) (hmax:(g.length:Int)*M<=2147483647) :
  ∀ (n b:Nat),b<n->∀ i:Nat,order[b]? =some (i:Int)->∃ x,vB g w i=some x/\0<=x/\x<=((b+1:Nat):Int)*M
 | 0,_,h=>by omega
 | n+1,b,hbn=>λi hi=>by
  have hr:=ho.rng _ (aAD hi);have hbl:=(aAE.1 hi).1;obtain⟨s,hs⟩:∃ s,g[i]? =some s:=⟨g[i]'(by omega),aAA _⟩
  obtain⟨y,hy⟩:∃ y,w[i]? =some y:=⟨w[i]'(by omega),aAA _⟩
  have hyr:=hM y (aAD hy);have hM0:0<=M:=by omega
  have hb0:0<=(b:Int)*M:=Int.mul_nonneg (by omega) hM0
  have hb1:((b+1:Nat):Int)*M=(b:Int)*M+M:=by rw[Int.natCast_add,Int.add_mul];omega
  have hb2:((b+1:Nat):Int)*M<=(g.length:Int)*M:=aAY (by omega) hM0
  have hgd:g.getD (i:Int).toNat []=s:=by rw[aAB,aAQ,hs];rfl
  obtain⟨m,hm,hmr⟩:=AnB (f:=vB g w) (C:=(b:Int)*M) (s:=s) (b:=0) (λj hj=>by
   have hrow:=hg.at_ hs;have hj0:=(hrow.1.2 j hj).1;obtain⟨a,ha⟩:=aAH (ho.top b i hi j (hgd▸hj));rw[List.getElem?_take]at ha;split at ha
   ·rename_i hab;obtain⟨x,hx,h0,h1⟩:=AtF hg ho hl hw hM hmax n a (by omega) j.toNat (by rw[show((j.toNat:Nat):Int)=j by omega];exact ha)
    exact⟨x,hx,h0,Int.le_trans h1 (aAY (by omega) hM0)⟩
   ·cases ha) ⟨Int.le_refl 0,hb0⟩
  refine⟨y+m,?_,by omega,by omega⟩
  rw[AuB hg ho hl hi hs hy];unfold mB;rw[hm,aA,if_pos (by omega)]
theorem YW.fits (hg:GrY g) (h1:1<=g.length/\g.length<=80) {w:List Int} {o:List Int×Int} (h:YW g w o r) (h0:o.2=0) {done:List Int} (ho:UK g o.1 done) (hl:o.1.length=g.length) {M:Int} (hw:w.length=g.length) (hM:∀ x∈w,0<=x/\x<=M) (hmax:(g.length:Int)*M<=2147483647) (hM':M<=2147483647):r.2=0:=by
 rcases h with⟨g1,_⟩|⟨_,⟨g2,_⟩|⟨_,⟨⟨i,hi,hn⟩,_⟩|⟨g3,_⟩⟩⟩
 ·exact absurd ⟨h1,hw,λx hx=>by have:=hM x hx;omega⟩ g1
 ·exact absurd h0 g2
 ·obtain⟨p,hp⟩:=ho.full hl hi;obtain⟨x,hx,_⟩:=AtF hg ho hl hw hM hmax (p+1) p (by omega) i hp
  rw[hn]at hx;cases hx
 ·exact g3
set_option maxHeartbeats 40000000
section
theorem Aet {ι R:Type} (body:ι->Option (ι⊕R)) (s:ι):NW body s=(body s).bind (Sum.elim (NW body) some):=by
 rw[Vy];cases body s with
 | none=>rfl
 | some x=>cases x<;>rfl
theorem Aok {n:Int} (h:decide (-9223372036854775808<=n/\n<=9223372036854775807)=true):IntKind.i64.wrap n=n:=by
 simp at h;exact wrap64 h.1 h.2
theorem Axa (h:Xd f.Slots f.Params p.Funcs.length (λt=>0<=t/\t<f.Code.length) x):WY p f x=some 0:=by
 have ten:∀ {op:Int},2<=op->op<12->op=2\/op=3\/op=4\/op=5\/op=6\/op=7\/op=8\/op=9\/op=10\/op=11:=by intro op h1 h2;omega
 cases h with
 | move a b h1 h2 h3 =>
  obtain⟨a0,a1,x,y,hx,hy,e⟩:=h1;have e1:ixO f.Slots a=some x:=by rw[Ps _ a0,hx]
  have e2:ixO f.Slots b=some y:=by rw[Ps _ h2,hy]
  (try simp only[TD]at *);simp(config:={decide:=true}) [WY,Sz,Aet,VL,Tm,WZ,VM,TB,QL.toList,RQ.toList,chk,lft,cnt,Aok, *]
 | bin op a b c h1 h2 h3 h4 h5=>rcases ten h1 h2 with rfl|rfl|rfl|rfl|rfl|rfl|rfl|rfl|rfl|rfl<;>(try simp only[TD]at *)<;>simp(config:={decide:=true}) [WY,Sz,Aet,VL,Tm,WZ,VM,TB,QL.toList,RQ.toList,chk,lft,cnt,Aok, *]
 | one op a h1 h2=>rcases h1 with rfl|rfl<;>(try simp only[TD]at *)<;>simp(config:={decide:=true}) [WY,Sz,Aet,VL,Tm,WZ,VM,TB,QL.toList,RQ.toList,chk,lft,cnt,Aok, *]
 | two op a b h1 h2 h3=>rcases h1 with rfl|rfl<;>(try simp only[TD]at *)<;>simp(config:={decide:=true}) [WY,Sz,Aet,VL,Tm,WZ,VM,TB,QL.toList,RQ.toList,chk,lft,cnt,Aok, *]
 | _ =>
  (try simp only[TD]at *);simp(config:={decide:=true}) [WY,Sz,Aet,VL,Tm,WZ,VM,TB,QL.toList,RQ.toList,chk,lft,cnt,Aok, *]
theorem Ayf (hl:s.length<=512) (h:∀ x∈s,Aee x):Uu s=some 0:=by
 unfold Uu PA PT;have hh:Hs (NW (λst=>Pb s st) 0) λr=>r= -1:=by
  refine Hs.loop (λi=>∃ k:Nat,i=(k:Int)/\k<=s.length) (λi=>s.length-i.toNat) ⟨0,rfl,aAC _⟩ ?_
  rintro _ ⟨k,rfl,hk⟩;unfold Pb;refine .dec (λhlt=>?_) λ_=>.lft (.pure rfl)
  obtain⟨x,hx⟩:∃ x,s[k]? =some x:=⟨s[k]'(by omega),aAA _⟩
  obtain⟨h1,m,hm,h2⟩:=h x (aAD hx);have e:TR x=some false:=by
   unfold TR;rw[(Als h1).1,h2,Ajq hm];rfl
  rw[Ov,hx,aA,e,aA,NP (by omega)]
  exact .cond (λe=>absurd e (by simp)) λ_=>.cnt ⟨⟨k+1,rfl,by omega⟩,by simp only;omega⟩
 obtain⟨r,h1,rfl⟩:=hh;rw[h1,decide_eq_false (by omega)]
 rfl
theorem Ayc (hi:p.Funcs[i]? =some f) (h:GW p.Funcs.length f):YN p i=some 0:=by
 have hil:=(aAE.1 hi).1;have hl:=h.len';have hl0:=h.len;have hp:=h.par;have hsl:=h.slots;unfold YN Sz;rw[decide_eq_true (by omega),cond_true,decide_eq_true (by omega),aA,Ov,hi,aA,decide_eq_false (by omega),Ayf (by omega) h.slot,decide_eq_true (by omega),cond_true,decide_eq_true (by omega)]
 simp only[aAN,cond_false,aA,bne_self_eq_false];have hh:Hs (NW (λs=>Yx f p s) 0) λr=>r=0:=by
  refine Hs.loop (λi=>∃ k:Nat,i=(k:Int)/\k<=f.Code.length) (λi=>f.Code.length-i.toNat) ⟨0,rfl,aAC _⟩ ?_
  rintro _ ⟨k,rfl,hk⟩;unfold Yx;refine .dec (λhlt=>?_) λhlt=>.lft ?_
  ·obtain⟨x,hx⟩:∃ x,f.Code[k]? =some x:=⟨f.Code[k]'(by omega),aAA _⟩
   rw[Ov,hx,aA,Axa (h.body x (aAD hx)),aA,NP (by omega)]
   exact .bne (λe=>absurd rfl e) λe=>.cnt ⟨⟨k+1,rfl,by omega⟩,by simp only;omega⟩
  ·refine .beq (λe=>by omega) λe=>?_
   have hx:f.Code[f.Code.length-1]? =some (f.Code[f.Code.length-1]'(by omega)):=aAA _
   have hcd:NI f (f.Code.length-1:Nat)=f.Code[f.Code.length-1]'(by omega):=by
    unfold NI;rw[aAB,hx];rfl
   have hlast:=h.last;unfold XH at hlast;rw[hcd]at hlast;have ht:PS (f.Code[f.Code.length-1]'(by omega)).Op=some true:=by
    unfold PS;rcases hlast with e|e|e<;>rw[e]<;>rfl
   rw[wrap64 (by omega) (by omega),Ps _ (by omega),show((f.Code.length:Int)-1).toNat=f.Code.length-1 by omega,hx,aA,ht,aA]
   exact .pure rfl
 obtain⟨r,h1,rfl⟩:=hh;exact h1
theorem Ra.AvN (h:Ra p):Ack p=some 0:=by
 have hfew:=h.few;unfold Ack;have hz0:((p.Funcs.length:Int)==0)=false:=by simp only[beq_eq_false_iff_ne,ne_eq];omega
 have h0:p.Funcs[0]? =some (p.Funcs[0]'(by omega)):=aAA _
 rw[decide_eq_false (by omega),cond_false,hz0,cond_false,show(0:Int)=((0:Nat):Int)from rfl,Ov,h0,aA,h.zero _ h0]
 simp only[Int.natCast_zero,bne_self_eq_false,cond_false];have hh:Hs (NW (λs=>Adi p s) 0) λr=>r=0:=by
  refine Hs.loop (λi=>∃ k:Nat,i=(k:Int)/\k<=p.Funcs.length) (λi=>p.Funcs.length-i.toNat) ⟨0,rfl,aAC _⟩ ?_
  rintro _ ⟨k,rfl,hk⟩;unfold Adi;refine .dec (λhlt=>?_) λhlt=>.lft (.pure rfl)
  have hx:p.Funcs[k]? =some (p.Funcs[k]'(by omega)):=aAA _
  rw[Ayc hx (h.all _ (aAD hx)),aA,NP (by omega)]
  exact .bne (λe=>absurd rfl e) λe=>.cnt ⟨⟨k+1,rfl,by omega⟩,by simp only;omega⟩
 obtain⟨r,h1,rfl⟩:=hh;exact h1
end
open Go Go.Dw Go.Proofs
theorem AhS.err {l:List Oh} {al:Int} {o:List Int×Int} (h:AhS p l al o r z) (hr:o.2=0->r.2=0):z.2=o.2:=by
 cases h with
 | cyc _=>rfl
 | over h1 h2=>exact absurd (hr h1) h2
 | ok R rT x0 h1=>exact h1.symm
section
variable {p:NM} (h:Ra p) {al:Int} (hal:QF al/\16<=al/\al<=16777216)
 include h hal
theorem Ra.AtP (hf:p.Funcs[i]? =some f) (hs:f.Slots.length<=7):0<=(PR p f al).Size/\(PR p f al).Size<=134218024:=by
 have hop:=h.at hf;obtain⟨b1,b2,b3,b4,b5,b6⟩:=Ake (hop.lay hal).bas;have ha:=Xf hop.arg (k:=f.Code.length) (aAJ _);have:=AfM ⟨hop.sl,λx hx=>(hop.so x hx).al⟩ (a:=16*OV p f f.Code.length) (by omega) (k:=f.Slots.length) (aAJ _)
 omega
end
theorem AqI.fits (h:Ra p) (hn:p.Funcs.length<=4) (hs:∀ f∈p.Funcs,f.Slots.length<=7) {al:Int} {o:List Int×Int} (B:AqI p al o r) (h0:o.2=0):r.2=0:=by
 have hfew:=h.few;have hgl:(cgR p).length=p.Funcs.length:=by simp[cgR]
 obtain⟨hl,done,ho⟩:o.1.length=(cgR p).length/\∃ done,UK (cgR p) o.1 done:=by
  rcases B.ho with e|⟨_,h2⟩
  ·rw[e]at h0;exact absurd h0 (by decide)
  ·exact h2
 refine YW.fits h.gr (by omega) B.out h0 ho hl (M:=134218024) (by simp[hgl]) (λx hx=>?_) (by omega) (by omega)
 obtain⟨f,hf,rfl⟩:=aAU.1 hx;obtain⟨i,hi⟩:=aAH hf;exact h.AtP B.hal hi (hs f hf)
theorem YW.AzJ {w:List Int} {o:List Int×Int} (hO:YW g w o r) (ho:o.2=0) (hr0:r.2=0):∀ i,i<g.length->∃ x,vB g w i=some x/\r.1[i]? =some x:=by
 rcases hO with⟨_,rfl⟩|⟨_,⟨h2,rfl⟩|⟨_,⟨_,rfl⟩|⟨_,_,h5⟩⟩⟩
 ·cases hr0
 ·exact absurd ho h2
 ·cases hr0
 ·exact h5
def prS:NM:=⟨[⟨0,[],[⟨23,0,0,0,0⟩]⟩]⟩
theorem AnK:Ra prS:=by
 refine⟨λf hf=>by cases hf;rfl,by decide,λf hf=>?_⟩
 rw[aAZ.1 hf];exact⟨by decide,by decide,(λ_ h=>by cases h),by decide,by decide,(λx hx=>by rw[aAZ.1 hx];exact .ret),.inr (.inl rfl)⟩
theorem Ayv:Abg=some true:=by
 obtain⟨al,o,r,B⟩:=AnK.Axq;obtain⟨z,e,hz⟩:=Apr AnK AnK.AvN B (l:=[]) λ_ h=>by cases h
 have hg:cgR prS=[[]]:=rfl;have ho:o.2=0:=by
  rcases B.ho with e|⟨h,_⟩
  ·have hc:=B.ord;rw[e]at hc;obtain⟨i,n,_,_,hw⟩:=Amm AnK.gr hc;obtain⟨j,_,hm⟩:=hw;rw[hg]at hm;cases hj:j.toNat<;>rw[hj]at hm<;>cases hm
  ·exact h
 unfold Abg AcC;change ((Tc prS []).bind _).bind _=_;rw[e];have hf:=B.fits AnK (by decide) (λf hf=>by rw[aAZ.1 hf];decide) ho
 cases hz with
 | cyc h=>rw[h]at ho;cases ho
 | over _ h=>exact absurd hf h
 | ok R rT x0 _ _ hR oT hT hx0 hb =>
  have hbl:=hb.cl;have hR0:=(hR 0 _ (show prS.Funcs[0]? =some _ from rfl)).2.2.2 rfl
  have hs:(frY prS R 0).Size=0:=by
   show(R 0).2.1.Size=0;rw[hR0];show upN 0 al=0;simp[upN]
  obtain⟨x,hx,hx1⟩:=oT.AzJ ho hT 0 (by decide)
  rw[hx0]at hx1;cases hx1;have:vB (cgR prS) (((aAF prS.Funcs.length).map (frY prS R)).map (·.Size)) 0=some 0:=by
   show vB [[]] [(frY prS R 0).Size] 0=some 0;rw[hs];rfl
  rw[hx]at this;cases this;rw[hg]at hbl;simp[hbl,prS]
open Go Go.Dw Go.Proofs
theorem AtW {i:Int} {q:Lo} {al:Int} {x:Oh} (h:Ahq p i f) (ea:Si p=some al) (hal:QF al/\16<=al/\al<=16777216) (hx:Aon p i f al x q) {r:Lo×NT×Int×Int} (hr:QK p i x=some r):(r.2.2.1=2↔x.Layout.Size<=(PR p f al).Size/\x.Layout.Size<=(PR ⟨p.Funcs.set i.toNat q⟩ q al).Size)/\(r.2.2.1=2->r.2.1=x.Layout):=by
 obtain⟨i0,i1,hif⟩:=AbF h.hi;have hL:=h.lay hal;have eb:=Ajt h.hi h.RX.len' h.arg hL.slots hal.1 hal.2.2;have hlen:=hx.acc.1.len h.RX;obtain⟨e,ev,hv⟩:=ApK h.RX h.defs hlen x.Rename;have he:e=0:=by
  rcases hv with⟨h1,_⟩|⟨_,h1,_⟩|⟨_,_,_,h1⟩
  ·exact(h1 hx.acc).elim
  ·rcases h1 with h1|⟨k,y,hk,h1⟩
   ·exact(h1 hx.rw_).elim
   ·exact(hx.lost k y hk h1).elim
  ·exact h1
 subst he;obtain⟨⟨q',qe⟩,ep,er,_⟩:=AiT h.RX h.defs hx.rw_;rw[hx.app]at er;cases er;have j1:∀ {z},RG p i al x f (PR p f al,0)=some z->z.2.2.1≠2:=by
  intro z hz;unfold RG at hz;obtain⟨c,_,hz⟩:=aAW.1 hz;cases hc:(c==0)<;>rw[hc]at hz<;>cases hz<;>simp
 unfold QK at hr;simp only[ea,eb,h.hi,aA,bne_self_eq_false,cond_false,ev,beq_self_eq_true,cond_true,ep,AoN p q (show p.Funcs.length<=1000000 by have:=h.pl;omega) i0 (by omega)]at hr
 by_cases hs:x.Layout.Size<=(PR p f al).Size
 ·obtain⟨d,h1,h2⟩:=Ajr hx.lay x.Layout hx.after;have hd:=hx.ok d h2;rw[decide_eq_true hs,cond_true,h1,aA]at hr;unfold Rb at hr
  by_cases h0:d=0
  ·rw[show(d==0)=true by simp[h0],cond_true]at hr
   cases hr;exact⟨iff_of_true rfl ⟨hs,hd.1 h0⟩,λ_=>rfl⟩
  ·rw[show(d==0)=false by simp[h0],cond_false]at hr
   exact⟨iff_of_false (j1 hr) λh=>h0 (hd.2 h.2),λh=>(j1 hr h).elim⟩
 ·rw[decide_eq_false hs,cond_false]at hr;unfold Rb at hr;exact⟨iff_of_false (j1 hr) λh=>hs h.1,λh=>(j1 hr h).elim⟩
theorem AxA (hn:p.Funcs.length<=1000) {al:Int} {X:Nat->Oh×Lo} (hX:∀ (i:Nat) f,p.Funcs[i]? =some f->Aon p i f al (X i).1 (X i).2):Acj p=some ((aAF p.Funcs.length).map λi=>(X i).1):=by
 have hh:Hs (Acj p) λr=>r=(aAF p.Funcs.length).map λi=>(X i).1:=by
  unfold Acj;refine Hs.loop (λs=>∃ k:Nat,s=((aAF k).map λi=>(X i).1,(k:Int))/\k<=p.Funcs.length) (λs=>p.Funcs.length-s.2.toNat) ⟨0,rfl,aAC _⟩ ?_
  rintro _ ⟨k,rfl,hk⟩;unfold Agu;dsimp only;refine .dec (λhlt=>?_) λhge=>.lft (.pure (by show(aAF k).map _=_;rw[show k=p.Funcs.length by omega]))
  rw[(hX k _ (aAA (by omega))).prop,aA,NP (by omega),<- AhK]
  exact .chk (by simp;omega) (.cnt ⟨⟨k+1,rfl,by omega⟩,by simp only;omega⟩)
 obtain⟨r,h1,rfl⟩:=hh;exact h1
theorem Aru {n y:Int}:∀ {s:List Int},y∈TE n s->y=n\/y∈s
 | [],h=>by simpa[TE]using h
 | x::r,h=>by
  unfold TE at h;split at h
  ·rcases aAX.1 h with rfl|h
   ·exact .inr (by simp)
   ·exact(Aru h).imp id λh=>by simp[h]
  ·split at h
   ·exact .inr h
   ·rcases aAX.1 h with rfl|h
    ·exact .inl rfl
    ·exact .inr h
theorem AtU {y:Int} (l:List Mk):∀ s:List Int,y∈l.foldl (λs x=>if x.Op=22 then QM x.A s else s) s->y∈s\/∃ x∈l,x.Op=22/\x.A=y:=by
 induction l with
 | nil=>exact λ_ h=>.inl h
 | cons x r ih =>
  intro s h;rcases ih _ h with h|⟨z,h1,h2⟩
  ·dsimp only at h;split at h
   ·rename_i h22;unfold QM at h;split at h
    ·rcases Aru h with rfl|h
     ·exact .inr ⟨x,by simp,h22,rfl⟩
     ·exact .inl h
    ·exact .inl h
   ·exact .inl h
  ·exact .inr ⟨z,by simp[h1],h2⟩
theorem AhV.up {funcs most:Int} (h:AhV funcs most p):∀ (n:Nat) (i k:Int),0<=i->Way (cgR p) (n+1) i k->i<k
 | n,i,k,h0,⟨j,hw,hk⟩=>by
  have hij:i<=j/\0<=j:=by
   cases n with
   | zero=>cases hw;omega
   | succ n=>have:=h.up n i j h0 hw;omega
  have hj:k∈(cgR p).getD j.toNat []:=hk;obtain⟨ps,_,_,_,_,hl,hall⟩:=h
  by_cases hjl:j.toNat<p.Funcs.length
  ·have e:(cgR p).getD j.toNat []=Wz (p.Funcs[j.toNat]'hjl).Code:=by simp[cgR,aAQ,hjl]
   rw[e]at hj;rcases AtU _ _ hj with hj|⟨x,hx,h22,rfl⟩
   ·cases hj
   ·have hf:=hall _ _ (aAA hjl);obtain⟨m,hm⟩:=aAH hx;have hml:=(aAE.1 hm).1
    by_cases hlast:m+1<(p.Funcs[j.toNat]'hjl).Code.length
    ·have hb:=hf.body m x hm hlast;cases hb<;>first
      | (rename_i q1 q2;simp only at q1 q2 ⊢;omega)
      | (simp at h22;done)
      | (simp only at h22;omega)
    ·have he:=hf.last x (by rw[show(p.Funcs[j.toNat]'hjl).Code.length-1=m by omega];exact hm)
     rcases he with rfl|⟨w,_,rfl⟩<;>simp at h22
  ·have e:(cgR p).getD j.toNat []=[]:=by simp[cgR,aAQ,aAm (show p.Funcs.length<=j.toNat by omega)]
   rw[e]at hj;cases hj
theorem AaN (codes:List Int) (hc:qL (Pq .u8) codes):RC codes=some true:=by
 unfold RC;simp only[Ayv,aA,aAN,cond_false];obtain⟨c,e1,hcok⟩:=AyU codes 300 hc (by omega) (by omega)
 rw[e1,aA];obtain⟨⟨p,c'⟩,ep,_,hp⟩:=Aut hcok (funcs:=4) (most:=14) (by omega) (by omega) (by omega) (by omega)
 replace hp:AhV 4 14 p:=hp;rw[ep,aA];have hy:=hp.y (by omega) (by omega)
 have hfew:=hy.few;obtain⟨al,ea,ea',hal⟩:=hy.align;have hso:∀ (i:Nat) f,p.Funcs[i]? =some f->(∀ x∈f.Slots,TJ x)/\f.Slots.length<=6/\p.Funcs.length<=4:=λi f hf=>by
  obtain⟨ps,_,_,_,h4,hl,hall⟩:=hp;have:=hall i f hf;exact⟨this.slot,this.slots,by omega⟩
 obtain⟨X,hX⟩:∃ X:Nat->Oh×Lo,∀ (i:Nat) f,p.Funcs[i]? =some f->Aon p i f al (X i).1 (X i).2:=by
  refine aAf (r:=λ(i:Nat) (X:Oh×Lo)=>∀ f,p.Funcs[i]? =some f->Aon p i f al X.1 X.2) λi=>?_
  cases hf:p.Funcs[i]? with
  | none=>exact⟨(⟨⟨[]⟩,⟨[],[]⟩,⟨[]⟩,⟨0,0,[]⟩⟩,⟨0,[],[]⟩),λf e=>by cases e⟩
  | some f =>
   obtain⟨h1,h2,_⟩:=hso i f hf;obtain⟨x,q,h⟩:=AsX (hy.at hf) h1 (by omega) ea' hal
   exact⟨(x,q),λf' e=>by cases e;exact h⟩
 have hall:=AxA (by omega) hX
 generalize hl:((aAF p.Funcs.length).map λi=>(X i).1)=l at hall
 have hll:l.length=p.Funcs.length:=by rw[<- hl];simp
 have hlg:∀ i,i<p.Funcs.length->l[i]? =some (X i).1:=λi hi=>by rw[<- hl];simp[hi]
 have hlens:∀ x∈l,Ue x.Live.Out/\Ue x.LiveAfter.Out:=by
  intro x hx;rw[<- hl]at hx;obtain⟨i,hi,rfl⟩:=aAU.1 hx;have hf:=aAA (aAl.1 hi);have h:=hX i _ hf;exact⟨h.acc.1.len (hy.at hf).RX,h.after⟩
 obtain⟨al2,o,rB,B⟩:=hy.Axq;have:=B.ea;rw[ea]at this;cases this;have ho:o.2=0:=by
  rcases B.ho with e|⟨h,_⟩
  ·have hc:=B.ord;rw[e]at hc;obtain⟨i,n,_,_,hw⟩:=Amm hy.gr hc;have:=hp.up n i i (by omega) hw
   omega
  ·exact h
 have hf0:=B.fits hy (hso 0 _ (aAA (by omega))).2.2 (λf hf=>by
  obtain⟨i,hi⟩:=aAH hf;have:=(hso i f hi).2.1
  omega) ho
 obtain⟨z,z1,z3⟩:=Apr hy hy.AvN B hlens;simp only[hall,aA,ea',z1];cases z3 with
 | cyc h=>rw[h]at ho;cases ho
 | over _ h=>exact absurd hf0 h
 | ok R rT x0 _ _ hR _ _ _ _ =>
 have e2:(((aAF p.Funcs.length).map λi=>(R i).2.2.1).length:Int)=(l.length:Int):=by simp[hll]
 simp only[bne_self_eq_false,cond_false,e2];unfold Rf;generalize htt:(⟨⟨al,(aAF p.Funcs.length).map (frY p R)⟩,x0,rT.1,(aAF p.Funcs.length).map λi=>(R i).2.2.1⟩:PH)=b
 have hch:b.Choices=(aAF p.Funcs.length).map λi=>(R i).2.2.1:=by rw[<- htt]
 have hh:Hs (NW (λs=>Re l (p,c') al (b,0) s) 0) λb=>b=true:=by
  refine Hs.loop (λs=>∃ k:Nat,s=(k:Int)/\k<=l.length) (λs=>l.length-s.toNat) ⟨0,rfl,aAC _⟩ ?_
  rintro _ ⟨k,rfl,hk⟩;unfold Re;refine .dec (λhlt=>?_) λ_=>.lft (.pure rfl)
  have hk':k<p.Funcs.length:=by omega
  have hf:=aAA hk';have hO:=hy.at hf;have hx:=hX k _ hf;have hL:=hx.lay;have b1:=ArI hO.hi hO.RX.len' hO.arg (hO.lay hal).slots hal.1 hal.2.2;have b2:=ArI hL.hi hL.RX.len' hL.arg hL.slots hal.1 hal.2.2;have o2:=Asc p (X k).2 (i:=(k:Int)) (by omega) (by omega) (by omega)
  have hcs:=(hR k _ hf).1;rw[show UU l k=(X k).1 by unfold UU;rw[hlg k hk'];rfl]at hcs
  have hown:=(AtW hO ea hal hx hcs).1;have hck:b.Choices[k]? =some (R k).2.2.1:=by rw[hch];simp[hk']
  have hixk:ixO p.Funcs (k:Int)=some p.Funcs[k]:=by rw[Ov];exact hf
  dsimp only;rw[hixk,aA];refine .chk ⟨by omega,by omega⟩ ?_
  rw[aAB,hlg k hk',aA,hx.app,aA];simp only[b1,o2,b2,aA,bne_self_eq_false,cond_false];unfold Rg;refine .chk ⟨by omega,by omega⟩ ?_
  have hmin:(decide ((X k).1.Layout.Size<=SF (PR p p.Funcs[k] al).Size (PR ⟨p.Funcs.set (k:Int).toNat (X k).2⟩ (X k).2 al).Size))=((R k).2.2.1==2):=by
   rw[Bool.eq_iff_iff,decide_eq_true_eq,beq_iff_eq,hown];unfold SF;split<;>omega
  rw[aAB]at hmin;rw[aAB,hlg k hk',aA,Ov,hck,aA,NP (by omega)]
  simp only[hmin,beq_self_eq_true,aAN,cond_false];exact .cnt ⟨⟨k+1,rfl,by omega⟩,by simp only;omega⟩
 obtain⟨r,h1,rfl⟩:=hh;exact h1
end Go.Proofs.YtcaoepecbgggcaaGreatDoor
