/-
  certificate.Broken by hand: its contract.
-/
import Derived.Test.YtcaoepecbgggcaaGreatDoorDg4
import Derived.Test.YtcaoepecbgggcaaGreatDoorDxF4
import Derived.Test.YtcaoepecbgggcaaGreatDoorDg2
open List renaming getElem?_eq_getElem->aA,mem_of_getElem?->aAA,getD_eq_getElem?_getD->aAB,getElem?_map->aAC,mem_map->aAD
namespace Go.Proofs.YtcaoepecbgggcaaGreatDoor
open Go Go.Dw Go.Proofs Go.RowKit
set_option maxRecDepth 100000
set_option maxHeartbeats 40000000
theorem Anl {f:Nat} {A B:Type} {enc:A->List D} {dec:List D->A} [OZ enc dec] {t:A->Option B} {R:B->D} {E:B->List D} {F0 F:Fz} {w:World} (h:Ns Tryz.prog f (NU [] .ground enc dec t R E)) (hG:YQ Tryz.prog F0) (hsub:NX F0 F) (hF:Fok F w) (hfin:∀ b i x,F b i=some x->b<w.heap.size) {a:A} {b:B} (hb:t a=some b)
  {vs:List Value} (hA:∀ W,Below w.heap.size w W->UG (AjB W) W [] 0 (enc a) vs []) {v:Value} (hv:∀ F x,Fro F (R b) x->x=v) {W:World} (hW:Below w.heap.size w W) :
  Calls Tryz.prog f vs.toArray W λe W'=>e= .returned v/\W.grownBy W' none:=by
 have hs:=(h F0 hG).2.2.1 rfl rfl W (AjB W) (enc a) vs [] (λb i y hy=>by
  have h1:=hsub b i y hy;have h2:=hfin b i y h1
  exact(hW.cell (p:=⟨b,i,none⟩) h2).trans (hF b i y h1)) (λb i y h=>h) (λ_ _ _ h=>AnE h) (hA W hW) ⟨a,b,rfl,hb⟩
 refine hs.mono ?_;rintro e W' ⟨v',F',ψ,ρ,rfl,hFok,hfin',hst,hres,_⟩;have hr:Fro F' (R b) v':=by
  have h1:(NU [] .ground enc dec t R E).res (enc a)=R b:=Tm (a:=a) OZ.ok hb;have h2:Fro F' ((NU [] .ground enc dec t R E).res (enc a)) v':=hres;rwa[h1]at h2
 exact⟨by rw[hv _ _ hr],hst.os,hst.tape,hst.output,hst.size,λk hk _=>hst.block k hk (λ⟨m,hm,_⟩=>by cases hm)⟩
theorem AtB {x:Int} (h:0<=x/\x<=2147483647):RS x=some true:=by unfold RS;simp[h.1,h.2]
theorem Ami {F:Fz} {l:List Int} {v:Value} (h:Fro F (.sl (l.map Lo)) v):(l=[]/\∃ a c,v= .slice a 0 c)\/∃ b o c,v= .slice (some ⟨b,o,none⟩) l.length c/\∀ (i:Nat) x,l[i]? =some x->F b (o+i)=some (.int .i64 x):=by
 by_cases he:l=[]
 ·subst he;obtain⟨a,n,c,rfl⟩:=AoL h;refine .inl ⟨rfl,a,c,?_⟩;cases h with
  | sl0 a c=>rfl
  | sl es b o c s vf hc hs hF h1 h=>rfl
 ·obtain⟨b,o,c,s,vf,rfl,hs,hc,hr⟩:=Anb h (λe=>he (List.map_eq_nil_iff.1 e))
  refine .inr ⟨b,o,c,by simp,λi x hx=>?_⟩
  have hs1:s=1:=by
   have:=hs (Lo x) (aAD.2 ⟨x,aAA hx,rfl⟩);rw[<- this];rfl
  subst hs1;have he':(l.map Lo)[i]? =some (Lo x):=by rw[aAC,hx];rfl
  have h1:=hc i 0 _ _ he' rfl;rw[Acq (hr i 0 _ _ he' rfl)]at h1;simpa using h1
theorem Asr:Ns Tryz.prog 179 AjI:=by
 intro F0 hG;refine⟨⟨_,Tryz.func179,rfl,rfl⟩,λq hq=>(by cases hq),λ_ _ w F ds vs M hsub hF hfin hA hp=>?_,λφ hφ=>(by cases hφ),hG⟩
 obtain⟨⟨g,wt,c⟩,b,rfl,hb⟩:=hp;obtain⟨hbr,hb⟩:BrG g wt c/\_:=by unfold AeD at hb;exact AtC hb
 cases hb;have hM:=Zw rfl hA;subst hM;have hres0:AjI.res (Yt (g,wt,c))=AoD (0,false):=Tm (a:=(g,wt,c)) OZ.ok (by unfold AeD;exact if_pos hbr)
 obtain⟨⟨hg1,hg2⟩,hgr,⟨hwl,hwr⟩,hcl,hge⟩:=id hbr;have hbk:AnB g wt c:=⟨⟨hg1,hg2⟩,λs hs=>⟨(hgr s hs).1,(hgr s hs).2⟩,⟨hwl,hwr⟩,hcl,hge⟩
 have hA0:=hA;cases hA with
 | val j d ds gv xs M hp hn hgv hr1 =>
 cases hr1 with
 | val j d ds wv xs M hp hn hwv hr2 =>
 cases hr2 with
 | val j d ds cv xs M hp hn hcv hr3 =>
 cases hr3;replace hgv:Fro F (.sl (g.map (eL Lo))) gv:=hgv;replace hwv:Fro F (.sl (wt.map Lo)) wv:=hwv;replace hcv:Fro F (.sl (c.map Lo)) cv:=hcv;clear hn hp;have hFa:∀ W,Below w.heap.size w W->NX F (AjB W):=λW hW b i x hx=>(hW.cell (p:=⟨b,i,none⟩) (hfin b i x hx)).trans (hF b i x hx)
 obtain⟨bg,og,gc,s,vf,rfl,hs,hgc,hgf⟩:=Anb hgv (λe=>by have:=List.map_eq_nil_iff.1 e;subst this;simp at hg1)
 have hwn:wt≠[]:=λe=>by rw[e]at hwl;simp at hwl;omega
 have hcn:c≠[]:=λe=>by rw[e]at hcl;simp at hcl;omega
 obtain⟨bw,ow,wc,rfl,hwc⟩:=(Ami hwv).resolve_left (λh=>hwn h.1)
 obtain⟨bc,oc,cc,rfl,hcc⟩:=(Ami hcv).resolve_left (λh=>hcn h.1)
 have hs1:s=1:=by
  have:=hs (eL Lo (g[0]'(by omega))) (aAD.2 ⟨_,List.getElem_mem _,rfl⟩)
  rw[<- this];rfl
 subst hs1;simp only[List.length_map,hwl,hcl]at hgv hwv hcv ⊢;have grow:∀ (i:Nat) s,g[i]? =some s->F bg (og+i)=some (vf i 0)/\Fro F (.sl (s.map Lo)) (vf i 0):=λi s hs=>by
  have he:(g.map (eL Lo))[i]? =some (eL Lo s):=by rw[aAC,hs];rfl
  have h1:=hgc i 0 _ _ he rfl;exact⟨by simpa using h1,hgf i 0 _ _ he rfl⟩
 have hmA:∀ W,Below w.heap.size w W->UG (AjB W) W [] 0 (VO (g,wt,c)) [.slice (some ⟨bg,og,none⟩) g.length gc,.slice (some ⟨bw,ow,none⟩) g.length wc,.slice (some ⟨bc,oc,none⟩) g.length cc] []:=λW hW=>.val _ _ _ _ _ _ rfl (λ_ _ h=>by cases h) (Fro.mono (hFa W hW) hgv) (.val _ _ _ _ _ _ rfl (λ_ _ h=>by cases h) (Fro.mono (hFa W hW) hwv) (.val _ _ _ _ _ _ rfl (λ_ _ h=>by cases h) (Fro.mono (hFa W hW) hcv) (.nil _)))
 have hmt:(λa:List (List Int)×List Int×List Int=>Sa a.1 a.2.1 a.2.2) (g,wt,c)=some true:=Akr hbk
 have hmm:∀ W,Below w.heap.size w W->Calls Tryz.prog 178 #[.slice (some ⟨bg,og,none⟩) g.length gc,.slice (some ⟨bw,ow,none⟩) g.length wc,.slice (some ⟨bc,oc,none⟩) g.length cc] W λe W'=>e= .returned (.bool true)/\W.grownBy W' none:=λW hW =>
  Anl (vs:=[.slice (some ⟨bg,og,none⟩) g.length gc,.slice (some ⟨bw,ow,none⟩) g.length wc,.slice (some ⟨bc,oc,none⟩) g.length cc]) Aan hG hsub hF hfin hmt hmA (λF x h=>by cases h;rfl) hW
 have key:=Atz Fence.wide 6 trivial trivial trivial trivial trivial rfl (by omega) bg og g.length gc bw ow wc bc oc cc w (by omega)
  (λW hW=>callsIn_wide.2 (hmm W hW))
  (λW x hW hx=>callsIn_wide.2 (Anl Abu hG hsub hF hfin (a:=x) (AtB hx) (λW hW=>.val _ _ _ _ _ _ rfl (λ_ _ h=>by cases h) (.int _ _) (.nil _)) (λF x h=>by cases h;rfl) hW))
  (hfin _ _ _ (grow 0 _ (aA (by omega))).1) (hfin _ _ _ (hwc 0 _ (aA (by omega)))) (hfin _ _ _ (hcc 0 _ (aA (by omega))))
  (λi hi=>by
   obtain⟨a,b,s,e1,e2,e3,q1,q2,q3,q4⟩:=hge i hi;obtain⟨r1,r2⟩:=grow i s e3;have hs:=hgr s (aAA e3);have hb0:=hwr b (aAA e2);refine⟨a,b,vf i 0,s.map Int.toNat,λx=>c.getD x 0,hF _ _ _ (hcc i a e1),hF _ _ _ (hwc i b e2),⟨hb0.1,q3,q2⟩,hF _ _ _ r1,?_,?_,?_⟩
   ·rcases Ami r2 with⟨rfl,a',c',e⟩|⟨br,or_,cr,e,h⟩
    ·exact .inl ⟨rfl,a',c',e⟩
    ·by_cases hsn:s=[]
     ·subst hsn;exact .inl ⟨rfl,_,_,e⟩
     ·refine .inr ⟨br,or_,cr,bc,oc,g.length,cc,by simpa using e,rfl,?_,hfin bc (oc+i) _ (hcc i a e1),λk x hx=>?_⟩
      ·exact hfin _ _ _ (h 0 _ (aA (List.length_pos_iff.2 hsn)))
      ·rw[aAC]at hx;obtain⟨y,hy,rfl⟩:=Option.map_eq_some_iff.1 hx;have m1:=(hs.1.2 y (aAA hy)).1;have m2:=hs.2 y (aAA hy);have m3:((y.toNat:Nat):Int)=y:=by omega
       have m4:c[y.toNat]? =some (c[y.toNat]'(by omega)):=aA _
       refine⟨by omega,by rw[m3];exact hF _ _ _ (h k y hy),?_⟩
       show _=some (Value.int .i64 (c.getD y.toNat 0));rw[aAB,m4];exact hF _ _ _ (hcc _ _ m4)
   ·rw[List.length_map];exact Nat.le_trans (Oz.length_le hs.1) (by decide)
   ·intro x hx;obtain⟨y,hy,rfl⟩:=aAD.1 hx;obtain⟨d,hd,hle⟩:=q4 y hy;show c.getD y.toNat 0<=a-b;rw[aAB,hd]
    exact hle)
 refine(callsIn_wide.1 key).mono ?_;rintro e w' ⟨rfl,hbl⟩
 refine⟨_,F,λ_ _ _=>False,λ_=>False,rfl,λb i x hx=>(hbl.cell (p:=⟨b,i,none⟩) (hfin b i x hx)).trans (hF b i x hx),λb i x hx=>Nat.lt_of_lt_of_le (hfin b i x hx) hbl.size,⟨hbl.os,hbl.tape,hbl.output,hbl.size,λb hb _=>hbl.block b hb,NX.refl _,λ_ _ _ _=>rfl⟩,?_,
  ⟨λk m hm=>by simp at hm,λ_ _ _ h=>h.elim,λ_ _ _ h=>h.elim,λ_ _ _ _ _ h=>h.elim,λ_ _ _ _ h=>h.elim⟩,λ_ _ _ h=>h.elim⟩
 show Fro F (AjI.res (Yt (g,wt,c))) _;rw[hres0]
 exact .tup [.int .i64 0,.bool false] [.int .i64 0,.bool false] rfl (λj c v hc hv=>by
  match j with
  | 0=>cases hc;cases hv;exact .int _ _
  | 1=>cases hc;cases hv;exact .bool _
  | n+2=>cases hc)
end Go.Proofs.YtcaoepecbgggcaaGreatDoor
