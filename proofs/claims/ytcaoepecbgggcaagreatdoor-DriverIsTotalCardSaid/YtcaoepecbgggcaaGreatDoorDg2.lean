/-
  callgraph.Of by hand: its contract.
-/
import Derived.Test.YtcaoepecbgggcaaGreatDoorDg1
import Derived.Test.YtcaoepecbgggcaaGreatDoorDxF2
import Derived.Test.YtcaoepecbgggcaaGreatDoorPa
open List renaming getElem?_map->aA,getElem?_eq_some_iff->aAB,mem_of_getElem?->aAC,mem_map->aAD,getElem?_eq_getElem->aAE,getElem?_cons_zero->aAF
open Option renaming map_eq_some_iff->aAA
namespace Go.Proofs.YtcaoepecbgggcaaGreatDoor
open Go Go.Dw Go.Proofs Go.RowKit
set_option maxRecDepth 100000
set_option maxHeartbeats 40000000
variable {F:Fz} {v:Value}
theorem AtC {α:Type} {p:Prop} {d:Decidable p} {x:Option α} {b:α} (h:@chk α p d x=some b):p/\x=some b:=by
 unfold chk at h;split at h
 ·exact⟨‹p›,h⟩
 ·cases h
def AjB (w:World):Fz:=λb i=>w.cell? ⟨b,i,none⟩
theorem AnE {w:World} {b i:Nat} {x:Value} (h:AjB w b i=some x):b<w.heap.size:=by
 unfold AjB World.cell? at h
 by_cases e:b<w.heap.size
 ·exact e
 ·simp[Array.getElem?_eq_none (Nat.le_of_not_lt e)]at h
theorem Anb {es:List D} (h:Fro F (.sl es) v) (hne:es≠[]):∃ (b o c:Nat) (s:Nat) (vf:Nat->Nat->Value),v= .slice (some ⟨b,o,none⟩) es.length c/\(∀ e∈es,(cells e).length=s) /\
  (∀ (i j:Nat) e d,es[i]? =some e->(cells e)[j]? =some d->F b (o+i*s+j)=some (vf i j))/\∀ (i j:Nat) e d,es[i]? =some e->(cells e)[j]? =some d->Fro F d (vf i j):=by
 cases h with
 | sl0 a c=>exact absurd rfl hne
 | sl es b o c s vf hc hs hF h1 h=>exact⟨b,o,c,s,vf,rfl,hs,hF,h⟩
theorem AoL {es:List D} (h:Fro F (.sl es) v):∃ a n c,v= .slice a n c:=by
 cases h with
 | sl0 a c=>exact⟨_,_,_,rfl⟩
 | sl es b o c s vf hc hs hF h1 h=>exact⟨_,_,_,rfl⟩
theorem Acq {k:IntKind} {n:Int} (h:Fro F (.int k n) v):v= .int k n:=by cases h;rfl
def AiD (p:Nq):List (List (Int×Int)):=p.Funcs.map λf=>f.Code.map λx=>(x.Op,x.A)
theorem AxA {w:World} (hF:Fok F w) (hfin:∀ b i x,F b i=some x->b<w.heap.size) {p:Nq} (hp:Avj p) (h:Fro F (.sl (p.Funcs.map Nz)) v):∃ b o c,v= .slice (some ⟨b,o,none⟩) p.Funcs.length c/\b<w.heap.size/\Ajz b o (AiD p) w:=by
 obtain⟨⟨hl1,hl2⟩,hfs⟩:=hp;obtain⟨b,o,c,s,vf,rfl,hs,hc,hr⟩:=Anb h (λe=>by simp only[List.map_eq_nil_iff]at e;rw[e]at hl1;simp at hl1)
 have hs3:s=3:=by
  have:=hs (Nz (p.Funcs[0]'(by omega))) (aAD.2 ⟨_,List.getElem_mem _,rfl⟩)
  rw[<- this];rfl
 subst hs3;have hb:b<w.heap.size:=hfin b (o+0*3+0) (vf 0 0) (hc 0 0 (Nz (p.Funcs[0]'(by omega))) (.int .i64 (p.Funcs[0]'(by omega)).Params) (by rw[aA,aAE (by omega)];rfl) rfl)
 refine⟨b,o,c,by simp,hb,λk l hk=>?_⟩
 unfold AiD at hk;rw[aA]at hk;obtain⟨f,hf,rfl⟩:=aAA.1 hk;have he:(p.Funcs.map Nz)[k]? =some (Nz f):=by rw[aA,hf];rfl
 have hfm:=aAC hf;obtain⟨⟨hc1,hc2⟩,hcx⟩:=hfs f hfm;have a0:=hc k 0 _ _ he rfl;have a1:=hc k 1 _ _ he rfl;have a2:=hc k 2 _ _ he rfl;have r0:=Acq (hr k 0 _ _ he rfl);obtain⟨ya,yl,yc,r1⟩:=AoL (hr k 1 _ _ he rfl);obtain⟨bc,oc,cc,s,vg,r2,hs,hc',hr'⟩:=Anb (hr k 2 _ _ he rfl) (λe=>by simp only[List.map_eq_nil_iff]at e;rw[e]at hc1;simp at hc1)
 rw[r0]at a0;rw[r1]at a1;rw[r2]at a2;have hs5:s=5:=by
  have:=hs (NG (f.Code[0]'(by omega))) (aAD.2 ⟨_,List.getElem_mem _,rfl⟩)
  rw[<- this];rfl
 subst hs5;refine⟨_,ya,yl,yc,bc,oc,cc,hF _ _ _ a0,hF _ _ _ a1,?_,?_,λm q hm=>?_⟩
 ·have:=hF _ _ _ a2;simpa using this
 ·exact hfin bc (oc+0*5+0) (vg 0 0) (hc' 0 0 (NG (f.Code[0]'(by omega))) _ (by rw[aA,aAE (by omega)];rfl) rfl)
 ·rw[aA]at hm;obtain⟨x,hx,rfl⟩:=aAA.1 hm;have hex:(f.Code.map NG)[m]? =some (NG x):=by rw[aA,hx];rfl
  refine⟨λh22=>?_,?_⟩
  ·have:=hcx x (aAC hx) h22;simp[Lit.wf,IntKind.min,IntKind.max,IntKind.signed,IntKind.bits];omega
  ·have c0:=hc' m 0 _ _ hex rfl;have c1:=hc' m 1 _ _ hex rfl;have c2:=hc' m 2 _ _ hex rfl;have c3:=hc' m 3 _ _ hex rfl;have c4:=hc' m 4 _ _ hex rfl;rw[Acq (hr' m 0 _ _ hex rfl)]at c0;rw[Acq (hr' m 1 _ _ hex rfl)]at c1;rw[Acq (hr' m 2 _ _ hex rfl)]at c2;rw[Acq (hr' m 3 _ _ hex rfl)]at c3;rw[Acq (hr' m 4 _ _ hex rfl)]at c4;exact⟨_,_,_,hF _ _ _ c0,hF _ _ _ c1,hF _ _ _ c2,hF _ _ _ c3,hF _ _ _ c4⟩
theorem ArQ (n:Int):∀ l,AnO n l=UB n l
 | []=>rfl
 | x::r=>by unfold AnO UB;rw[ArQ n r]
theorem AwY (n:Int) (l:List Int):AnD n l=Rb n l:=by unfold AnD Rb;rw[ArQ]
theorem AgF {n:Int} (hn:n<=512):∀ (l:List Av) (s:List Int),Ol n s->(∀ x∈l,x.Op=22->0<=x.A/\x.A<n) ->
  Ol n (l.foldl (λs x=>if x.Op=22 then AnD x.A s else s) s)/\∀ y,y∈l.foldl (λs x=>if x.Op=22 then AnD x.A s else s) s↔y∈s\/∃ x∈l,x.Op=22/\x.A=y
 | [],s,hs,_=>⟨hs,λy=>by simp⟩
 | x::r,s,hs,hr=>by
  rw[List.foldl_cons]
  by_cases e:x.Op=22
  ·have hx:=hr x (by simp) e
   have ha:=Ol.AeL (n:=n) (m:=x.A) (s:=s) hs hx hn;rw[if_pos e,AwY];obtain⟨h1,h2⟩:=AgF hn r (Rb x.A s) ⟨ha.1,ha.2.1⟩ (λz hz=>hr z (by simp[hz]))
   refine⟨h1,λy=>?_⟩
   rw[h2,ha.2.2];constructor
   ·rintro((rfl|h)|⟨z,hz,h⟩)
    ·exact .inr ⟨x,by simp,e,rfl⟩
    ·exact .inl h
    ·exact .inr ⟨z,by simp[hz],h⟩
   ·rintro(h|⟨z,hz,h3,h4⟩)
    ·exact .inl (.inr h)
    ·rcases List.mem_cons.1 hz with rfl|hz
     ·exact .inl (.inl h4.symm)
     ·exact .inr ⟨z,hz,h3,h4⟩
  ·rw[if_neg e];obtain⟨h1,h2⟩:=AgF hn r s hs (λz hz=>hr z (by simp[hz]))
   refine⟨h1,λy=>?_⟩
   rw[h2];constructor
   ·rintro(h|⟨z,hz,h⟩)
    ·exact .inl h
    ·exact .inr ⟨z,by simp[hz],h⟩
   ·rintro(h|⟨z,hz,h3,h4⟩)
    ·exact .inl h
    ·rcases List.mem_cons.1 hz with rfl|hz
     ·exact absurd h3 e
     ·exact .inr ⟨z,hz,h3,h4⟩
theorem AtA {n:Int} (hn:n<=512) {l:List Av} (hl:∀ x∈l,x.Op=22->0<=x.A/\x.A<n):Ol n (YX l)/\∀ y,y∈YX l↔∃ x∈l,x.Op=22/\x.A=y:=by
 obtain⟨h1,h2⟩:=AgF hn l [] (Ol.nil n) hl;exact⟨h1,λy=>(h2 y).trans (by simp)⟩
theorem AdM.fro {r:Nat} {w:World} {l:List Int} (h:AdM r w v l) (hF:∀ b i,r<b->b<w.heap.size->F b i=w.cell? ⟨b,i,none⟩):Fro F (.sl (l.map Lo)) v:=by
 rcases h with⟨rfl,rfl⟩|⟨b,cap,rfl,h1,h2,h3,h4⟩
 ·exact .sl0 _ _
 ·have h4':∀ (i:Nat) e,(l.map Lo)[i]? =some e->∃ x,l[i]? =some x/\e= .int .i64 x:=λi e he=>by
   rw[aA]at he;obtain⟨x,hx,rfl⟩:=aAA.1 he;exact⟨x,hx,rfl⟩
  have:=Fro.sl (F:=F) (l.map Lo) b 0 cap 1 (λi _=>.int .i64 ((l[i]?).getD 0)) (by simpa using h1) (λe he=>by obtain⟨x,_,rfl⟩:=aAD.1 he;rfl) (λi j e d he hd=>by
   obtain⟨x,hx,rfl⟩:=h4' i e he;have hj:j=0:=by
    have:=(aAB.1 hd).1;simp[cells]at this;exact this
   subst hj;rw[hF b _ h2 h3,hx];have:=h4 i x hx
   simpa using this) (λi j e d he hd=>rfl) (λi j e d he hd=>by
   obtain⟨x,hx,rfl⟩:=h4' i e he;have hj:j=0:=by
    have:=(aAB.1 hd).1;simp[cells]at this;exact this
   subst hj;simp only[cells,aAF,Option.some.injEq]at hd;subst hd;rw[hx]
   exact .int _ _)
  simpa using this
theorem Avm {F0:Fz} {w:World} (hG:YQ Tryz.prog F0) (hsub:NX F0 F) (hF:Fok F w) (hfin:∀ b i x,F b i=some x->b<w.heap.size) (r:Nat) (W:World) (v:Value) (l:List Int) (x:Int) (hW:Below w.heap.size w W) (hr:r<W.heap.size) (hl:Oz l) (hx:0<=x/\x<512) (hv:AdM r W v l) :
  Calls Tryz.prog 171 #[v,.int .i64 x] W λe W'=>∃ va vn vc,e= .returned (.slice va vn vc)/\AdM r W' (.slice va vn vc) (Rb x l)/\W.grownBy W' none:=by
 have hA:UG (AjB W) W [] 0 [.sl (l.map Lo),.int .i64 x] [v,.int .i64 x] [] :=
  .val _ _ _ _ _ _ rfl (λ_ _ h=>by cases h) (hv.fro λ_ _ _ _=>rfl) (.val _ _ _ _ _ _ rfl (λ_ _ h=>by cases h) (.int _ _) (.nil _))
 have hs:=(AiK F0 hG).2.2.1 rfl rfl W (AjB W) [.sl (l.map Lo),.int .i64 x] [v,.int .i64 x] [] (λb i y hy=>by
  have h1:=hsub b i y hy;have h2:=hfin b i y h1
  exact(hW.cell (p:=⟨b,i,none⟩) h2).trans (hF b i y h1)) (λb i y h=>h) (λ_ _ _ h=>AnE h) hA ⟨(l,x),Rb x l,rfl,Aox hl hx⟩
 refine hs.mono ?_;rintro e W' ⟨v',F',ψ,ρ,rfl,hFok,hfin',hst,hres,_⟩;obtain⟨es,L,hd,rfl,hown,hblk⟩:=hres;have hes:es=(Rb x l).map Lo:=by
  have h1:AjD.res [.sl (l.map Lo),.int .i64 x]= .sl ((Rb x l).map Lo):=Tm (a:=(l,x)) OZ.ok (Aox hl hx);rw[h1]at hd;exact(D.sl.inj hd).symm
 subst hes;have hgr:W.grownBy W' none:=⟨hst.os,hst.tape,hst.output,hst.size,λk hk _=>hst.block k hk (λ⟨m,hm,_⟩=>by cases hm)⟩
 obtain⟨_,_,hle,_,_,hmt⟩:=hown;cases hb:L.b with
 | none =>
  rw[hb]at hmt;simp only at hle;have hz:Rb x l=[]:=List.eq_nil_of_length_eq_zero (by have:=hmt.1;simp only[List.length_map]at hle;omega)
  refine⟨_,_,_,rfl,.inl ⟨hz,?_⟩,hgr⟩;rw[hz];simp[hmt.1]
 | some b =>
  rw[hb]at hmt;obtain⟨C,hC,hsz,hcl⟩:=hmt;obtain⟨b1,b2,_⟩:=hblk b hb;refine⟨_,_,_,rfl,.inr ⟨b,L.cap,by simp,by simpa using hle,by omega,b2,λj y hy=>?_⟩,hgr⟩
  obtain⟨z,z1,_,z3⟩:=hcl j 0 (.int .i64 y) (.int .i64 y) (by simp[hy]) rfl
  simp only[Bool.false_eq_true,if_false]at z3;cases z3;simp only[Nat.mul_one,Nat.add_zero]at z1;simp[World.cell?,hC,z1]
theorem Axc:Ns Tryz.prog 109 AmR:=by
 intro F0 hG;refine⟨⟨_,Tryz.func109,rfl,rfl⟩,λq hq=>(by cases hq),λ_ _ w F ds vs M hsub hF hfin hA hp=>?_,λφ hφ=>(by cases hφ),hG⟩
 obtain⟨p,b,rfl,hb⟩:=hp;obtain⟨hci,hb⟩:Avj p/\_:=by unfold AnI at hb;exact AtC hb
 cases hb;have hM:=Zw rfl hA;subst hM;have hres0:AmR.res (Acn p)=ApW (p.Funcs.map λf=>YX f.Code):=Tm (a:=p) OZ.ok (by unfold AnI;exact if_pos hci)
 cases hA with
 | val j d ds x' xs M hp hn hx hr' =>
 cases hr';cases hx with
 | agg cs vs hl h1 h =>
 obtain⟨v0,rfl⟩:∃ v0,vs=[v0]:=by
  match vs,hl with
  | [v0],_=>exact⟨v0,rfl⟩
 obtain⟨b0,o0,cap,rfl,hb0,hat⟩:=AxA hF hfin hci (h 0 _ _ rfl rfl);obtain⟨⟨hl1,hl2⟩,hfs⟩:=id hci;have hseen:∀ a b,RT (AiD p) p.Funcs.length 0 a b↔∃ i:Nat,∃ f,p.Funcs[i]? =some f/\a=i/\∃ x∈f.Code,x.Op=22/\x.A=b:=λa b=>by
  constructor
  ·rintro⟨i,m,l,h1,h2,h3,_⟩;unfold AiD at h1;rw[aA]at h1;obtain⟨f,hf,rfl⟩:=aAA.1 h1;rw[aA]at h2;obtain⟨x,hx,he⟩:=aAA.1 h2;rw[Prod.mk.injEq]at he;exact⟨i,f,hf,h3,x,aAC hx,he.1,he.2⟩
  ·rintro⟨i,f,hf,rfl,x,hx,e1,rfl⟩;obtain⟨m,hm⟩:=List.getElem?_of_mem hx;refine⟨i,m,f.Code.map λx=>(x.Op,x.A),?_,?_,rfl,.inl (aAB.1 hf).1⟩
   ·unfold AiD;rw[aA,hf];rfl
   ·rw[aA,hm,<- e1];rfl
 have hOk:∀ a b,RT (AiD p) p.Funcs.length 0 a b->0<=b/\b<512:=λa b hs=>by
  obtain⟨i,f,hf,_,x,hx,e1,rfl⟩:=(hseen a b).1 hs;have:=(hfs f (aAC hf)).2 x hx e1;omega
 have hsh:∀ l∈AiD p,l.length<=2000:=λl hl=>by
  obtain⟨f,hf,rfl⟩:=aAD.1 hl;have:=(hfs f hf).1.2;simp only[List.length_map];omega
 have key:=AyK b0 o0 p.Funcs.length cap (AiD p) w (by simp[AiD]) (by omega) hsh hb0 hat (λb=>0<=b/\b<512) hOk (λa ha=>by simp[Lit.wf,IntKind.min,IntKind.max,IntKind.signed,IntKind.bits];omega) Oz Oz.nil Rb
  (λl x hl hx=>(Ol.AeL (n:=512) ⟨hl,λx hx=>(hl.2 x hx).2⟩ hx (Int.le_refl _)).1)
  (λl x y hl hx=>(Ol.AeL (n:=512) ⟨hl,λx hx=>(hl.2 x hx).2⟩ hx (Int.le_refl _)).2.2 y)
  (λr W v l x hW hr hl hx hv=>Avm hG hsub hF hfin r W v l x hW hr hl hx hv)
 refine key.mono ?_;rintro e w' ⟨G,r,rfl,hG1,hG2,hbl,hr,hrows⟩;obtain⟨F',hF'⟩:∃ F':Fz,F'=λb i=>if b<w.heap.size then F b i else w'.cell? ⟨b,i,none⟩:=⟨_,rfl⟩
 have hFn:∀ b i,w.heap.size<=b->F' b i=w'.cell? ⟨b,i,none⟩:=λb i hb=>by rw[hF'];exact if_neg (by omega)
 have hFo:∀ b i,b<w.heap.size->F' b i=F b i:=λb i hb=>by rw[hF'];exact if_pos hb
 refine⟨_,F',λ_ _ _=>False,λ_=>False,rfl,λb i x hx=>?_,λb i x hx=>?_,⟨hbl.os,hbl.tape,hbl.output,hbl.size,λb hb _=>hbl.block b hb,λb i x hx=>by rw[hFo b i (hfin b i x hx)];exact hx,λb i hb _=>hFo b i hb⟩,?_,
  ⟨λk m hm=>by simp at hm,λ_ _ _ h=>h.elim,λ_ _ _ h=>h.elim,λ_ _ _ _ _ h=>h.elim,λ_ _ _ _ h=>h.elim⟩,λ_ _ _ h=>h.elim⟩
 ·by_cases hb:b<w.heap.size
  ·rw[hFo b i hb]at hx;exact(hbl.cell (p:=⟨b,i,none⟩) hb).trans (hF b i x hx)
  ·rw[hFn b i (by omega)]at hx
   exact hx
 ·by_cases hb:b<w.heap.size
  ·exact Nat.lt_of_lt_of_le hb hbl.size
  ·rw[hFn b i (by omega)]at hx
   exact AnE hx
 ·show Fro F' (AmR.res (Acn p)) _;rw[hres0];have hrow:∀ (i:Nat) f,p.Funcs[i]? =some f->∃ v,w'.cell? ⟨G,i,none⟩=some v/\Fro F' (eL Lo (YX f.Code)) v/\v.oneCell'=true:=λi f hf=>by
   have hi:=(aAB.1 hf).1;obtain⟨_,v,l,h2,h3,h4,h5⟩:=hrows i hi;obtain⟨c1,c2⟩:=AtA (n:=p.Funcs.length) (by omega) (hfs f (aAC hf)).2
   have:l=YX f.Code:=h4.ext c1.1 λy=>by
    rw[h5,c2,hseen];constructor
    ·rintro⟨⟨j,g,hg,hj,hx⟩,_⟩;have hj:i=j:=by omega
     subst hj;rw[hf]at hg;cases hg;exact hx
    ·exact λhx=>⟨⟨i,f,hf,rfl,hx⟩,rfl⟩
   subst this;refine⟨v,h2,h3.fro λb i hb _=>hFn b i (by omega),?_⟩
   rcases h3 with⟨_,rfl⟩|⟨_,_,rfl,_⟩
   ·rfl
   ·rfl
  have hget:∀ (i j:Nat) e d,((p.Funcs.map λf=>YX f.Code).map (eL Lo))[i]? =some e->(cells e)[j]? =some d->∃ f,p.Funcs[i]? =some f/\j=0/\d=eL Lo (YX f.Code):=λi j e d he hd=>by
   rw[aA,aA]at he;obtain⟨l,hl,rfl⟩:=aAA.1 he;obtain⟨f,hf,rfl⟩:=aAA.1 hl;have hj:j=0:=by
    have:=(aAB.1 hd).1;simp[cells]at this;exact this
   subst hj;simp only[cells,aAF,Option.some.injEq]at hd;exact⟨f,hf,rfl,hd.symm⟩
  have:=Fro.sl (F:=F') ((p.Funcs.map λf=>YX f.Code).map (eL Lo)) G 0 p.Funcs.length 1 (λi _=>(w'.cell? ⟨G,i,none⟩).getD undef) (by simp) (λe he=>by
    obtain⟨l,_,rfl⟩:=aAD.1 he;rfl) (λi j e d he hd=>by
    obtain⟨f,hf,rfl,rfl⟩:=hget i j e d he hd;obtain⟨v,v1,v2,v3⟩:=hrow i f hf;rw[hFn G _ hG1,v1]
    simpa using v1) (λi j e d he hd=>by
    obtain⟨f,hf,rfl,rfl⟩:=hget i j e d he hd;obtain⟨v,v1,v2,v3⟩:=hrow i f hf
    rw[v1];exact v3) (λi j e d he hd=>by
    obtain⟨f,hf,rfl,rfl⟩:=hget i j e d he hd;obtain⟨v,v1,v2,v3⟩:=hrow i f hf
    rw[v1];exact v2)
  simpa[ApW]using this
end Go.Proofs.YtcaoepecbgggcaaGreatDoor
