/-
  Plain laws about the typed programs.
-/
import Derived.Test.YtmmchhpdaogopaaGreatDoorPb
open Bool renaming cond_eq_ite->aAA
open List renaming getElem?_eq_getElem->aAB,getElem?_eq_some_iff->aAC,range->aAD
open Option renaming bind_some->aA
namespace Go.Proofs.YtmmchhpdaogopaaGreatDoor
open Go Go.Dw Go.Proofs
variable {p:NL}
theorem Awx {n l:Int}:win n l=true↔0<=n/\n<l:=by grind [win]
structure Axj (n:Nat) (p:NL):Prop where
 few:1<=p.Funcs.length/\p.Funcs.length<=4
 slots:∀ f∈p.Funcs,f.Slots.length<=n
 len:∀ f∈p.Funcs,f.Code.length<=1024
theorem AuU {f:NI} {i k:Int} {x:NJ} (hi:ixO p.Funcs i=some f) (hk:ixO f.Code k=some x) (hwi:win i p.Funcs.length=true) (hwk:win k f.Code.length=true) (h:Wm f.Slots f.Params p.Funcs.length (λt=>0<=t/\t<f.Code.length) x):Sn p i k=some 0:=by
 rw[Awn p f i k x hi hk hwi hwk];unfold Sa;rw[hi,aA,hk,aA,Oz,aA];cases h with
 | bin op a b c h1 h2 h3 h4 h5 =>
  have ho:op=2\/op=3\/op=4\/op=5\/op=6\/op=7\/op=8\/op=9\/op=10\/op=11:=by omega
  obtain⟨a0,a1⟩:=h3;obtain⟨b0,b1⟩:=h4;obtain⟨c0,c1⟩:=h5;rcases ho with rfl|rfl|rfl|rfl|rfl|rfl|rfl|rfl|rfl|rfl <;>
   simp[win,Ol,NX,NV,Oa,NS,NY,Om,Ob,Oe,NW,OC,Oz,aAA,a0,a1,b0,b1,c0,c1]
 | one op a h1 h2 =>
  obtain⟨a0,a1⟩:=h2;rcases h1 with rfl|rfl <;>
   simp[win,Ol,NX,NV,Oa,NS,NY,Om,Ob,Oe,NW,OC,Oz,aAA,a0,a1]
 | two op a b h1 h2 h3 =>
  obtain⟨a0,a1⟩:=h2;obtain⟨b0,b1⟩:=h3;rcases h1 with rfl|rfl <;>
   simp[win,Ol,NX,NV,Oa,NS,NY,Om,Ob,Oe,NW,OC,Oz,aAA,a0,a1,b0,b1]
 | move a b h1 h2 h3 =>
  obtain⟨a0,a1,x,y,hx,hy,e⟩:=h1;simp[win,Ol,NX,NV,Oa,NS,NY,Om,Ob,Oe,NW,OC,Oz,aAA,a0,a1,h2,h3,Py _ a0,Py _ h2];simp_all
 | store a b h1 h2 h3=>obtain⟨b0,b1⟩:=h3;simp[win,Ol,NX,NV,Oa,NS,NY,Om,Ob,Oe,NW,OC,Oz,aAA, *]
 | load a b h1 h2 h3=>obtain⟨b0,b1⟩:=h1;simp[win,Ol,NX,NV,Oa,NS,NY,Om,Ob,Oe,NW,OC,Oz,aAA, *]
 | const a w h1=>obtain⟨b0,b1⟩:=h1;simp[win,Ol,NX,NV,Oa,NS,NY,Om,Ob,Oe,NW,OC,Oz,aAA, *]
 | param a b h1 h2 h3=>obtain⟨b0,b1⟩:=h1;simp[win,Ol,NX,NV,Oa,NS,NY,Om,Ob,Oe,NW,OC,Oz,aAA, *]
 | arg a b h1 h2 h3=>obtain⟨b0,b1⟩:=h3;simp[win,Ol,NX,NV,Oa,NS,NY,Om,Ob,Oe,NW,OC,Oz,aAA, *]
 | call j h1 h2=>simp[win,Ol,NX,NV,Oa,NS,NY,Om,Ob,Oe,NW,OC,Oz,aAA, *]
 | jump t h1=>simp[win,Ol,NX,NV,Oa,NS,NY,Om,Ob,Oe,NW,OC,Oz,aAA, *]
 | branch a t h1 h2=>obtain⟨b0,b1⟩:=h1;simp[win,Ol,NX,NV,Oa,NS,NY,Om,Ob,Oe,NW,OC,Oz,aAA, *]
 | ret=>simp[win,Ol,NX,NV,Oa,NS,NY,Om,Ob,Oe,NW,aAA]
 | trap w=>simp[win,Ol,NX,NV,Oa,NS,NY,Om,Ob,Oe,NW,aAA]
theorem Aay.AqH {x:Og} (h:Aay x):Yh x=true:=by
 obtain⟨h1,m,hm,h2⟩:=h;have e1:TH x.Size=some true:=by
  simp only[List.mem_cons,List.not_mem_nil,or_false]at h1;rcases h1 with e|e|e|e|e<;>rw[e]<;>rfl
 grind [Yh,AlQ]
theorem Awe {f:NI} {i:Nat} (hi:p.Funcs[i]? =some f) (_hn:p.Funcs.length<=80) (h:GW p.Funcs.length f):SM p i=some 0:=by
 have hil:=(aAC.1 hi).1;have hi':ixO p.Funcs (i:Int)=some f:=by simp_all
 have hw:win (i:Int) p.Funcs.length=true:=Awx.2 ⟨by omega,by omega⟩
 have hl:=h.len';have hl0:=h.len;have hp:=h.par;have hsl:=h.slots;unfold SM;rw[Oz,aA,hw];simp only[Bool.not_true,cond_false,hi',aA];obtain⟨e,e1,e2⟩:=Ano f.Slots;have e0:e=0:=by
  rcases e2 with⟨q,_⟩|⟨_,_,q⟩|⟨_,⟨x,hx,q⟩,_⟩
  ·omega
  ·exact q
  ·rw[(h.slot x hx).AqH]at q;cases q
 subst e0;rw[decide_eq_false (by omega),cond_false,e1,aA]
 rw[decide_eq_false (by omega),cond_false,decide_eq_false (by omega),cond_false]
 have hh:Hs (NZ (λs=>Rx f p i s) 0) λr=>r=0:=by
  refine Hs.loop (λi=>∃ k:Nat,i=(k:Int)/\k<=f.Code.length) (λi=>f.Code.length-i.toNat) ⟨0,rfl,Nat.zero_le _⟩ ?_
  rintro _ ⟨k,rfl,hk⟩;refine .dec (λhlt=>?_) λhlt=>.lft ?_
  ·obtain⟨x,hx⟩:∃ x,f.Code[k]? =some x:=⟨f.Code[k]'(by omega),aAB _⟩
   rw[AuU hi' (by simp_all) hw (Awx.2 ⟨by omega,by omega⟩) (h.body x (List.mem_of_getElem? hx)),aA,NQ (by omega)]
   exact .bne (λe=>absurd rfl e) λe=>.cnt ⟨⟨k+1,rfl,by omega⟩,by grind⟩
  ·refine .beq (λe=>by omega) λe=>?_
   have hx:f.Code[f.Code.length-1]? =some (f.Code[f.Code.length-1]'(by omega)):=aAB _
   have hcd:NO f (f.Code.length-1:Nat)=f.Code[f.Code.length-1]'(by omega):=by
    grind [NO]
   have hlast:=h.last;unfold TO at hlast;rw[hcd]at hlast;have ht:Ry (f.Code[f.Code.length-1]'(by omega)).Op=some true:=by
    grind [Ry]
   rw[wrap64 (by omega) (by omega),Py _ (by omega),show((f.Code.length:Int)-1).toNat=f.Code.length-1 by omega,hx,aA,ht,aA]
   exact .pure rfl
 obtain⟨r,h1,rfl⟩:=hh;exact h1
theorem PF.check (h:PF p):YG p=some 0/\TK p=some 0:=by
 have hfew:=h.few;have hr:TK p=some 0:=by
  unfold TK;have hz0:((p.Funcs.length:Int)==0)=false:=by grind
  have h0:p.Funcs[0]? =some (p.Funcs[0]'(by omega)):=aAB _
  rw[decide_eq_false (by omega),cond_false,hz0,cond_false,show(0:Int)=((0:Nat):Int)from rfl,PE,h0,aA,h.zero _ h0]
  have hh:Hs (NZ (λs=>Ts p s) 0) λr=>r=0:=by
   refine Hs.loop (λi=>∃ k:Nat,i=(k:Int)/\k<=p.Funcs.length) (λi=>p.Funcs.length-i.toNat) ⟨0,rfl,Nat.zero_le _⟩ ?_
   rintro _ ⟨k,rfl,hk⟩;refine .dec (λhlt=>?_) λhlt=>.lft (.pure rfl)
   have hx:p.Funcs[k]? =some (p.Funcs[k]'(by omega)):=aAB _
   rw[Awe hx hfew.2 (h.all _ (List.mem_of_getElem? hx)),aA,NQ (by omega)]
   exact .bne (λe=>absurd rfl e) λe=>.cnt ⟨⟨k+1,rfl,by omega⟩,by grind⟩
  obtain⟨r,h1,rfl⟩:=hh;exact h1
 obtain⟨e,e1,e2,_⟩:=Aqq p;simp_all
theorem AsW (hy:PF p):Hs (AcQ p) Acb:=by
 have hfew:=hy.few;unfold AcQ;refine Hs.loop (λs=>∃ k:Nat,s.2=(k:Int)/\k<=p.Funcs.length/\s.1.length=k/\Acb s.1) (λs=>p.Funcs.length-s.2.toNat) ⟨0,rfl,Nat.zero_le _,rfl,λx hx=>by cases hx⟩ ?_
 rintro⟨x,_⟩ ⟨k,rfl,hk,hxl,hx⟩;replace hxl:x.length=k:=hxl;replace hx:Acb x:=hx;unfold Aeq;dsimp only;refine .dec (λhlt=>?_) λ_=>.lft (.pure hx)
 have hf:p.Funcs[k]? =some (p.Funcs[k]'(by omega)):=aAB _
 have hO:=hy.at hf;have hg:=hy.gw hf;refine(AdC hO.hi hO.SI hO.defs hO.ml hO.last hO.calls hO.pl).bind λq hq=>.chk (by simp;omega) ?_
 rw[NQ (by omega)]
 refine .cnt ⟨⟨k+1,rfl,by omega,by simp[hxl],λz hz=>?_⟩,by simp only;omega⟩
 rcases List.mem_append.1 hz with hz|hz
 ·exact hx z hz
 ·rw[List.mem_singleton.1 hz];exact⟨hq.2.1.1.len hO.SI,hq.2.2⟩
theorem Ajd.plain (hy:PF p) {al:Int} {o r:List Int×Int} (B:Ajd p al o r):∃ R,ChD p al [] R:=by
 refine⟨λi=>((p.Funcs[i]?).getD ⟨0,[],[]⟩,PG p ((p.Funcs[i]?).getD ⟨0,[],[]⟩) al,0,0),λi f hf=>?_⟩
 have hO:=hy.at hf;have hg:=hy.gw hf;simp only[hf,Option.getD_some];exact⟨Aqr hO hg B.ea B.hal,AqR hO hg _ _ (AkU (hO.lay B.hal).bas),Nat.le_refl _,λ_=>trivial⟩
theorem AuD {funcs most:Int} (hp:Acs funcs most p) (hm:most<=200) (hfn:funcs<=15) {l:List Oc} (hl:Acb l):∃ b x z:OQ,Sz p l=some (b,0)/\Sz p []=some (x,0)/\TZ p []=some (z,0)/\z.Bound=x.Bound/\0<=b.Bound/\b.Bound<=x.Bound/\x.Bound<=2147483647:=by
 have hy:=hp.y hm (by omega)
 have hfew:=hy.few;have hgl:(cgR p).length=p.Funcs.length:=by simp[cgR]
 have hn:p.Funcs.length<=15/\∀ f∈p.Funcs,f.Slots.length<=7:=by
  obtain⟨ps,_,_,_,h4,h5,hall⟩:=hp;refine⟨by omega,λf hf=>?_⟩
  obtain⟨j,hj⟩:=List.getElem?_of_mem hf;have:=(hall j f hj).slots;omega
 obtain⟨al,o,r,B⟩:=hy.base;obtain⟨s1,s2⟩:=hy.check;have D:Ajd p al o r:=⟨B.ea,B.hal,B.ord,B.ho,B.b1,B.out⟩;have ho:o.2=0:=by
  rcases B.ho with e|⟨h,_⟩
  ·have hc:=B.ord;rw[e]at hc;obtain⟨i,n,_,_,hw⟩:=Apy hy.gr hc;have:=hp.up n i i (by omega) hw
   omega
  ·exact h
 have hr:r.2=0:=by
  obtain⟨hol,done,hord⟩:o.1.length=(cgR p).length/\∃ done,Rs (cgR p) o.1 done:=by
   rcases B.ho with e|⟨_,h2⟩
   ·rw[e]at ho;exact absurd ho (by decide)
   ·exact h2
  refine Uv.fits hy.gr (by omega) B.out ho hord hol (M:=134218024) (by simp[hgl]) (λx hx=>?_) (by omega) (by omega)
  obtain⟨f,hf,rfl⟩:=List.mem_map.1 hx;obtain⟨i,hi⟩:=List.getElem?_of_mem hf;exact hy.AkV B.hal hi (hn.2 f hf)
 have hnil:Acb []:=λ_ h=>by cases h
 obtain⟨R,rT,x0,e1,hR,oT,hT,hx0,hb⟩:=AmX hy s2 B ho hr hl;obtain⟨R',rT',x0',e2,hR',oT',hT',hx0',hb'⟩:=AmX hy s2 B ho hr hnil;obtain⟨z,e3,hz⟩:=Arw hy s1 D (D.plain hy);cases hz with
 | cyc h=>rw[h]at ho;cases ho
 | over _ h=>exact absurd hr h
 | ok Q qT y0 _ _ hQ pT hqT hy0 _ =>
 have hnl:∀ i,(Qv [] i).Live.Out=[]:=λi=>by unfold Qv;rfl
 have hRR:∀ i,i<p.Funcs.length->R' i=Q i:=λi hi=>by
  have hf:=aAB hi;rw[(hR' i _ hf).2.2 (hnl i),(hQ i _ hf).2.2.2 (hnl i)]
 have hfe:(aAD p.Funcs.length).map (frY p R')=(aAD p.Funcs.length).map (frY p Q):=List.map_congr_left λi hi=>by
  unfold frY;rw[hRR i (List.mem_range.1 hi)]
 rw[<- hfe]at pT;have:=oT'.unique pT;subst this;rw[hx0']at hy0;cases hy0;obtain⟨a,va,ha⟩:=oT.Aww ho hT 0 (by omega)
 obtain⟨a',va',ha'⟩:=oT'.Aww ho hT' 0 (by omega)
 rw[hx0]at ha;cases ha;rw[hx0']at ha';cases ha';have hle:LeW (((aAD p.Funcs.length).map (frY p R)).map (·.Size)) (((aAD p.Funcs.length).map (frY p R')).map (·.Size)):=by
  refine⟨by simp,λi x hx=>?_⟩
  have hil:=(aAC.1 hx).1;simp only[List.length_map,List.length_range]at hil;have hf:=aAB hil;have hfr:=(hy.AqG B.hal (λi f hf=>(hR i f hf).2.1) hf).size
  simp only[List.getElem?_map,List.getElem?_range hil,Option.map_some,Option.some.injEq]at hx;refine⟨(frY p R i).Size,by simp[hil],hfr.1,?_⟩
  rw[<- hx];show(R i).2.1.Size<=(R' i).2.1.Size;rw[(hR' i _ hf).2.2 (hnl i)];exact(hR i _ hf).2.1.size
 obtain⟨c,vc,hc⟩:=Ama hle _ _ _ va';have:vB (cgR p) (((aAD p.Funcs.length).map (frY p R)).map (·.Size)) 0=some c:=vc;rw[va]at this;cases this;obtain⟨u,_,_,h1,_,_,h2,_⟩:=hb.ge 0 (by omega)
 obtain⟨v,_,_,h3,_,_,_,h4,_⟩:=hb'.ge 0 (by omega)
 rw[hx0]at h1;cases h1;rw[hx0']at h3;cases h3;exact⟨_,_,_,e1,e2,e3,rfl,h2,hc,h4⟩
theorem Avr {codes:List Int} (hc:qL (PI .u8) codes):Hs (ZG codes) λq=>Acs 5 12 q.1/\∃ l,Acb l/\Sz q.1 l=some q.2:=by
 unfold ZG;obtain⟨c,e1,hcok⟩:=Awj codes 400 hc (by omega) (by omega)
 rw[e1,aA];refine(AqW hcok (by omega) (by omega) (by omega) (by omega)).bind λp hp=>?_
 have hy:=hp.2.y (by omega) (by omega)
 have j1:∀ {l},Acb l->Hs (UZ p l) λq=>Acs 5 12 q.1/\∃ l,Acb l/\Sz q.1 l=some q.2:=by
  intro l hl;obtain⟨b,_,_,e,_⟩:=AuD hp.2 (by omega) (by omega) hl
  unfold UZ;rw[e,aA];exact .pure ⟨hp.2,l,hl,e⟩
 refine(AoJ hp.1 hy).bind λq hq=>(Oo hq.1 (by omega) (by omega)).bind λr hr=>.beq (λ_=>(AsW hy).bind λl hl=>j1 hl) λ_=>j1 hq.2
theorem WK (codes:List Int) (hc:qL (PI .u8) codes):Qw codes=some true:=by
 unfold Qw;have aw:Ace=some true:=by decide
 obtain⟨⟨p,b,e⟩,es,hp,l,hl,hb⟩:=Avr hc;obtain⟨b',x,z,e1,e2,e3,h1,h2,h3,h4⟩:=AuD hp (by omega) (by omega) hl
 rw[e1]at hb;cases hb;unfold Xd Acp AaJ;simp only[aw,es,e2,e3,aA,Bool.not_true,cond_false,beq_self_eq_true,cond_true,h1];rw[wrap64 (by omega) (by omega),decide_eq_true (by omega),cond_true,wrap64 (by omega) (by omega),show(x.Bound-x.Bound==0)=true by simp,cond_true,wrap64 (by omega) (by omega),show x.Bound-b.Bound+b.Bound=x.Bound by omega]
 simp
end Go.Proofs.YtmmchhpdaogopaaGreatDoor
