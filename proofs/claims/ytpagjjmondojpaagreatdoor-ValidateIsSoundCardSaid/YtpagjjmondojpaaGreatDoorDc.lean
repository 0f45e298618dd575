/-
  THE LAYER: symbolic semantics of compiled code, and programs on typed data.
-/
import Derived.Test.YtpagjjmondojpaaGreatDoorDb
import Derived.KernelRfl
import Derived.ProofKit
import Derived.OpenShut
import Derived.Deep.Strs
namespace Go.Dw
section
variable {N : Nat} {w0 : World} {F0 : Fz} {M : Nat -> Prop} {B0 : Bt} {P : Program} {σ : S} {F : Fz} {β : Bt} {a : Act} {w : World}
def GI (a : Act) : ResultVar -> Sem Value
 | .tmp t=>pure (a.tmps.getD t undef)
 | .cell c t=>do loadVar t (<- asAddr (a.tmps.getD c undef))
theorem KY (h : Sim N w0 F0 M B0 σ F β a w) {rv : ResultVar} {r : AZ} (hr : AcW P rv = some r) (hc : ((Pn r).run σ).1) :
  ∃ v,(GI a rv).run P w = .ok v w /\ Val F β ((Pn r).run σ).2 v:=by
 have:=Mr (P:=P) h hr hc
 cases rv <;> exact this
theorem Fa (h : Sim N w0 F0 M B0 σ F β a w) : ∀ (rvs : List ResultVar) (rs : List AZ),rvs.mapM (AcW P) = some rs -> (∀ r ∈ rs,((Pn r).run σ).1) ->
  ∃ vs : List Value,(rvs.mapM (GI a)).run P w = .ok vs w /\ vs.length = rs.length /\ rvs.length = rs.length /\ ∀ (i : Nat) r v,rs[i]? = some r -> vs[i]? = some v -> Val F β ((Pn r).run σ).2 v
 | [],rs,hm,_=>by
  simp at hm
  subst hm
  exact ⟨[],rfl,rfl,rfl,λi r v hi=>by simp at hi⟩
 | rv :: rvs,rs,hm,hc=>by
  simp only [List.mapM_cons,Option.bind_eq_bind,Option.bind_eq_some_iff] at hm
  obtain ⟨r,hr,rs',hrs,he⟩:=hm
  cases he
  obtain ⟨v,v1,v2⟩:=KY (P:=P) h hr (hc r (by simp))
  obtain ⟨vs,k1,k2,k3,k4⟩:=Fa h rvs rs' hrs (λr hr=>hc r (by simp [hr]))
  refine ⟨v :: vs,by simp [List.mapM_cons,v1,k1],by simp [k2],by simp [k3],λi r' v' hi hv=>?_⟩
  rcases i with _ | i
  ·simp only [List.getElem?_cons_zero,Option.some.injEq] at hi hv
   subst hi; subst hv
   exact v2
  ·simp only [List.getElem?_cons_succ] at hi hv
   exact k4 i r' v' hi hv
theorem BM (h : Sim N w0 F0 M B0 σ F β a w) {fn : Func} {rs : List AZ} (hm : fn.results.toList.mapM (AcW P) = some rs) (hc : ∀ r ∈ rs,((Pn r).run σ).1) :
  ∃ vs : List Value,(results fn a.tmps).run P w = .ok (if h : vs.length = 1 then vs[0] else .tuple vs.toArray) w /\ vs.length = rs.length /\ ∀ (i : Nat) r v,rs[i]? = some r -> vs[i]? = some v -> Val F β ((Pn r).run σ).2 v:=by
 obtain ⟨vs,k1,k2,_,k4⟩:=Fa (P:=P) h _ rs hm hc
 refine ⟨vs,?_,k2,k4⟩
 have hmap : (fn.results.mapM (GI a)).run P w = .ok vs.toArray w:=by
  rw [Array.mapM_eq_mapM_toList]
  simp [k1]
 have e : results fn a.tmps = (do let vs <- fn.results.mapM (GI a); pure (if h : vs.size = 1 then vs[0] else .tuple vs)):=by
  unfold results
  have : (fun
   | .tmp t=>pure (a.tmps.getD t undef)
   | .cell b t=>do loadVar t (<- asAddr (a.tmps.getD b undef)) : ResultVar -> Sem Value) = GI a:=by
   funext rv; cases rv <;> rfl
  rw [<- this]
  rfl
 rw [e]
 simp only [Sem.run_bind]
 rw [hmap]
 simp only [Result.andThen_ok,Sem.run_pure]
 congr 1
theorem IY (h : Sim N w0 F0 M B0 σ F β a w) (hdr : w0.heap.size <= w0.drawn) {s ty : Nat} {d : D} {x : Value} (hx : Val F β d x) (hc : ((BU s ty d).run σ).1) :
  An σ ((BU s ty d).run σ).2.2.1 /\ ∃ g v o b,((BU s ty d).run σ).2.2.2 = g /\ σ.go g = some (v,o) /\ o.fz = false /\ o.var = true /\ β v = some ⟨some b,1,s⟩ /\ x = .pointer (some ⟨b,0,none⟩) /\
   ∀ (ws : List (Nat × Aa)) F',An σ ws -> (∀ p ∈ ((BU s ty d).run σ).2.2.1,p ∈ ws) -> Af F F' -> Sim N w0 F0 M B0 ⟨σ.e,ws ++ σ.o,σ.n⟩ F' β a w -> HD F' w b s ty ((BU s ty d).run σ).2.1 /\ (∀ i,F' b i = none) /\ b < w.heap.size /\ (w0.heap.size <= b \/ (M b /\ Ac g = true)) /\ ∃ v' o',(S.mk σ.e (ws ++ σ.o) σ.n).go g = some (v',o') /\ o'.fz = false /\ β v' = some ⟨some b,1,s⟩:=by
 cases d <;> try exact hc.elim
 case optr g v i off =>
  simp only [BU,R.run] at hc ⊢
  cases hg : σ.go g with
  | none=>rw [hg] at hc; exact hc.elim
  | some p =>
   obtain ⟨v',o⟩:=p
   rw [hg] at hc
   simp only [R.run_bind,R.run_pure] at hc ⊢
   obtain ⟨⟨rfl,rfl,rfl,hfz,hvar,hlen,rfl,rfl⟩,hc1⟩:=hc
   obtain ⟨L,b,hL,hb,rfl⟩:=hx
   obtain ⟨L',hL',_,hk⟩:=h.own g v o hg
   rw [hL] at hL'; cases hL'
   obtain ⟨e1,e2,e3,e4,e5,e6⟩:=hk hfz
   rw [hb] at e6
   obtain ⟨C,hC,hCs,hcell⟩:=e6
   obtain ⟨e,he⟩ : ∃ e,o.es = [e]:=List.length_eq_one_iff.1 hlen
   have hge : o.es.getD 0 .top = e:=by simp [he]
   rw [hge] at hc1 ⊢
   have hX : ∀ (j : Nat) c,(cells e)[j]? = some c -> ∃ x,C[j]? = some x /\ x.oneCell' = true /\ Cel F β c x:=by
    intro j c hj
    obtain ⟨x,x1,x2,x3⟩:=hcell 0 j e c (by simp [he]) hj
    rw [hvar] at x3
    exact ⟨x,by simpa using x1,x2,by simpa using x3⟩
   obtain ⟨f1,l1,r1⟩:=EY h e (λj=>C[j]?) hX hc1
   have hcap : L.cap = 1:=by
    rw [hvar] at e4
    simp only [if_true] at e4
    have : o.es.length = 1:=hlen
    omega
   have hLe : L = ⟨some b,1,o.s⟩:=by cases L; simp_all
   refine ⟨f1,g,v,o,b,rfl,hg,hfz,hvar,by rw [hL,hLe],by simp,λws F' q1 q2 q3 q4=>?_⟩
   have hgo : (S.mk σ.e (ws ++ σ.o) σ.n).go g = some (v,o):=by
    rcases q1.go g with ⟨v2,o2,k1,k2,_,_⟩ | ⟨_,k2⟩
    ·rw [hg] at k1; cases k1; rw [hvar] at k2; cases k2
    ·rw [k2]; exact hg
   obtain ⟨s1,s2,s3⟩:=q4.sep g v o L b hgo hfz hL hb
   replace s3 : w0.heap.size <= b \/ (M b /\ Ac g = true):=s3.elim .inl λs3=>s3.2.elim (λe=>.inr ⟨s3.1,e⟩) λe=>.inl (Nat.le_trans hdr e)
   refine ⟨⟨rfl,e2,by simp,by simp,λq hq=>?_,C,hC,by rw [hCs,hcap],λi j c' c hc' hj=>?_⟩,s1,s2,s3,v,o,hgo,hfz,by rw [hL,hLe]⟩
   ·simp only [List.mem_singleton] at hq
    subst hq
    rw [l1]
    exact e5 e (by simp [he])
   ·rcases i with _ | i
    ·simp only [List.getElem?_cons_zero,Option.some.injEq] at hc'
     subst hc'
     obtain ⟨x,x1,x2,x3⟩:=r1 ws F' q1 q2 q3 q4 j c hj
     exact ⟨x,by simpa using x1,x2,by simpa using Cel.Ag x3⟩
    ·simp at hc'
theorem Mt {L : Loc} {b : Nat} (h : Sim N w0 F0 M B0 σ F β a w) {s ty g v : Nat} (hL : β v = some L) (hb : L.b = some b) (hLs : L.cap = 1 /\ L.s = s) (hc : ((He s ty (.optr g v 0 0)).run σ).1) :
  An σ ((He s ty (.optr g v 0 0)).run σ).2.2 /\ ∃ o,σ.go g = some (v,o) /\ o.fz = false /\ o.var = true /\
   ∀ (ws : List (Nat × Aa)) F' φ,An σ ws -> (∀ p ∈ ((He s ty (.optr g v 0 0)).run σ).2.2,p ∈ ws) -> Af F F' -> Sim N w0 F0 M B0 ⟨σ.e,ws ++ σ.o,σ.n⟩ F' β a w -> Az F' β w0.heap.size M ⟨σ.e,ws ++ σ.o,σ.n⟩ w φ ->
    Ep F' w ⟨b,s,ty,φ g 0⟩ ((He s ty (.optr g v 0 0)).run σ).2.1 /\ (S.mk σ.e (ws ++ σ.o) σ.n).go g = some (v,o):=by
 simp only [He,R.run] at hc ⊢
 cases hg : σ.go g with
 | none=>rw [hg] at hc; exact hc.elim
 | some p =>
  obtain ⟨v',o⟩:=p
  rw [hg] at hc
  simp only [R.run_bind,R.run_pure] at hc ⊢
  obtain ⟨⟨rfl,_,_,hfz,hvar,hlen,rfl,rfl⟩,hc1⟩:=hc
  obtain ⟨L',hL',_,hk⟩:=h.own g v o hg
  rw [hL] at hL'; cases hL'
  obtain ⟨e1,e2,e3,e4,e5,e6⟩:=hk hfz
  rw [hb] at e6
  obtain ⟨C,hC,hCs,hcell⟩:=e6
  obtain ⟨e,he⟩ : ∃ e,o.es = [e]:=List.length_eq_one_iff.1 hlen
  have hge : o.es.getD 0 .top = e:=by simp [he]
  rw [hge] at hc1 ⊢
  obtain ⟨hc1,hpe,hpr⟩:=IU hc1
  have hpe' : (pas (Ac g) e).run σ = (((pas (Ac g) e).run σ).1,((res e).run σ).2):=Prod.ext rfl hpe
  rw [hpe']
  dsimp only
  have hX : ∀ (j : Nat) c,(cells e)[j]? = some c -> ∃ x,C[j]? = some x /\ x.oneCell' = true /\ Cel F β c x:=by
   intro j c hj
   obtain ⟨x,x1,x2,x3⟩:=hcell 0 j e c (by simp [he]) hj
   rw [hvar] at x3
   exact ⟨x,by simpa using x1,x2,by simpa using x3⟩
  obtain ⟨f1,l1,r1⟩:=EY h e (λj=>C[j]?) hX hc1
  refine ⟨f1,o,rfl,hfz,hvar,λws F' φ q1 q2 q3 q4 hφ=>?_⟩
  have hgo : (S.mk σ.e (ws ++ σ.o) σ.n).go g = some (v,o):=by
   rcases q1.go g with ⟨v2,o2,k1,k2,_,_⟩ | ⟨_,k2⟩
   ·rw [hg] at k1; cases k1; rw [hvar] at k2; cases k2
   ·rw [k2]; exact hg
  obtain ⟨s1,s2,_⟩:=q4.sep g v o L b hgo hfz hL hb
  refine ⟨⟨⟨rfl,e2,by simp,by simp,λq hq=>?_,C,hC,by rw [hCs,hLs.1],λi j c' c hc' hj=>?_⟩,s1,s2,hφ.none_ g 0,hφ.lt g 0,λj b' hb' e'=>?_,λj j' b' h1 h2=>(hφ.dis _ _ _ _ _ _ _ h1 h2).2.2,λC' j x s ty es hC' hj hx=>?_,λj nm u n hj=>(hpr j _ hj).2 nm u n rfl⟩,hgo⟩
  ·simp only [List.mem_singleton] at hq
   subst hq
   rw [l1]
   exact e5 e (by simp [he])
  ·rcases i with _ | i
   ·simp only [List.getElem?_cons_zero,Option.some.injEq] at hc'
    subst hc'
    obtain ⟨x,x1,x2,x3⟩:=r1 ws F' q1 q2 q3 q4 j c hj
    exact ⟨x,by simpa using x1,x2,by simpa using Cel.Ag x3⟩
   ·simp at hc'
  ·simp only at e'
   subst e'
   exact hφ.sep g 0 j _ g v o L hb' hgo hfz hL hb
  ·obtain ⟨z1,z2⟩:=(hpr j _ hj).1 s ty es rfl
   exact hφ.row g v o L b C' 0 j e x s ty es z1 hgo hfz hL hb hC' (by simp [he]) z2 (by simpa using hx)
theorem IZ (_h : Sim N w0 F0 M B0 σ F β a w) (hdr : w0.heap.size <= w0.drawn) {r : Bool} {s ty : Nat} {d : D} {x : Value} (hx : Val F β d x) (hc : ((DV r s ty d).run σ).1) :
  ∃ es L g v o,((DV r s ty d).run σ).2.1 = .sl es /\ x = .slice (L.b.map λb=>⟨b,0,none⟩) es.length L.cap /\ Ac g = r /\ o.fz = false /\ o.s = s /\ o.ty = ty /\ β v = some L /\ (∃ n,es = o.es.take n) /\ (r = true -> ∀ e ∈ o.es,∀ c ∈ cells e,∀ nm u m,c ≠ .hole nm u m) /\
   ∀ (ws : List (Nat × Aa)) F',ws.all (λx=>x.1 != ((DV r s ty d).run σ).2.2) = true -> Af F F' -> Sim N w0 F0 M B0 ⟨σ.e,ws ++ σ.o,σ.n⟩ F' β a w -> Av F' noB w L ⟨false,false,s,ty,es⟩ /\ (S.mk σ.e (ws ++ σ.o) σ.n).go g = some (v,o) /\ ∀ b,L.b = some b -> (w0.heap.size <= b \/ (r = true /\ M b)) /\ b < w.heap.size /\ ∀ i,F' b i = none:=by
 cases d <;> try exact hc.elim
 case osl g v i n =>
  simp only [DV,R.run] at hc ⊢
  cases hg : σ.go g with
  | none=>rw [hg] at hc; exact hc.elim
  | some p =>
   obtain ⟨v',o⟩:=p
   rw [hg] at hc
   simp only [R.run] at hc ⊢
   obtain ⟨rfl,rfl,hn,hfz,hvar,rfl,rfl,hrg,hnh⟩:=hc
   obtain ⟨L,a',hL,rfl,hcap,ha,_⟩:=hx
   refine ⟨o.es.take n,L,g,v,o,rfl,by rw [ha rfl]; simp [Nat.min_eq_left hn],hrg,hfz,rfl,rfl,hL,⟨n,rfl⟩,hnh,λws F' hws hF hS=>?_⟩
   have hgo : (S.mk σ.e (ws ++ σ.o) σ.n).go g = some (v,o):=by
    have : look ws g = none:=by
     cases hl : look ws g with
     | none=>rfl
     | some y =>
      have:=List.all_eq_true.1 hws _ (AW hl)
      simp at this
    simp only [S.go,Bv,this,Option.none_or]
    exact hg
   obtain ⟨L',hL',_,hk⟩:=hS.own g v o hgo
   rw [hL] at hL'; cases hL'
   obtain ⟨e1,e2,e3,e4,e5,e6⟩:=hk hfz
   refine ⟨⟨e1,e2,?_,?_,λe he=>e5 e (List.mem_of_mem_take he),?_⟩,hgo,λb hb=>?_⟩
   ·simp only [List.length_take]; omega
   ·simpa [hvar] using e4
   ·cases hb : L.b with
    | none=>rw [hb] at e6; exact ⟨e6.1,rfl⟩
    | some b =>
     rw [hb] at e6
     obtain ⟨C,hC,hCs,hcell⟩:=e6
     refine ⟨C,hC,hCs,λi j e d he hd=>?_⟩
     have he' : o.es[i]? = some e:=by
      rw [List.getElem?_take] at he
      split at he
      ·exact he
      ·cases he
     obtain ⟨x,x1,x2,x3⟩:=hcell i j e d he' hd
     rw [hvar] at x3
     exact ⟨x,x1,x2,by simpa using x3⟩
   ·obtain ⟨s1,s2,s3⟩:=hS.sep g v o L b hgo hfz hL hb
    replace s3 : w0.heap.size <= b \/ (M b /\ Ac g = true):=s3.elim .inl λs3=>s3.2.elim (λe=>.inr ⟨s3.1,e⟩) λe=>.inl (Nat.le_trans hdr e)
    refine ⟨?_,s2,s1⟩
    rcases s3 with s3 | s3
    ·exact .inl s3
    ·rw [hrg] at s3
     exact .inr ⟨s3.2,s3.1⟩
theorem Ey (h : Sim N w0 F0 M B0 σ F β a w) : ∀ (rs : List AZ) (vs : List Value),rs.length = vs.length -> (∀ (i : Nat) r v,rs[i]? = some r -> vs[i]? = some v -> ((Pn r).run σ).1 -> Val F β ((Pn r).run σ).2 v) -> ((AA rs).run σ).1 ->
  An σ ((AA rs).run σ).2.2 /\ ((AA rs).run σ).2.1.length = vs.length /\ ∀ (ws : List (Nat × Aa)) F',An σ ws -> (∀ p ∈ ((AA rs).run σ).2.2,p ∈ ws) -> Af F F' -> Sim N w0 F0 M B0 ⟨σ.e,ws ++ σ.o,σ.n⟩ F' β a w ->
   ∀ (j : Nat) c v,((AA rs).run σ).2.1[j]? = some c -> vs[j]? = some v -> Fro F' c v
 | [],vs,hl,_,_=>⟨An.nil σ,by simpa [AA,R.run] using hl,λ_ _ _ _ _ _ j c v hj=>by simp [AA] at hj⟩
 | r :: rs,[],hl,_,_=>by simp at hl
 | r :: rs,v :: vs,hl,hv,hc=>by
  simp only [AA,DW,R.run_bind,R.run_pure] at hc ⊢
  obtain ⟨⟨c1,c2⟩,c3⟩:=hc
  obtain ⟨f1,r1⟩:=EZ h _ (hv 0 r v rfl rfl c1) c2
  obtain ⟨f2,l2,r2⟩:=Ey h rs vs (by simpa using hl) (λi r' v' h1 h2=>hv (i + 1) r' v' (by simpa using h1) (by simpa using h2)) c3
  refine ⟨f1.append f2,by simp [l2],λws F' q1 q2 q3 q4 j c v' hj hv'=>?_⟩
  rcases j with _ | j
  ·simp only [List.getElem?_cons_zero,Option.some.injEq] at hj hv'
   subst hj; subst hv'
   exact r1 ws F' q1 (λp hp=>q2 p (by simp [hp])) q3 q4
  ·simp only [List.getElem?_cons_succ] at hj hv'
   exact r2 ws F' q1 (λp hp=>q2 p (by simp [hp])) q3 q4 j c v' hj hv'
theorem De : ∀ (rs : List AZ),((AA rs).run σ).1 -> ∀ r ∈ rs,((Pn r).run σ).1
 | [],_,r,hr=>by cases hr
 | r0 :: rs,hc,r,hr=>by
  simp only [AA,DW,R.run_bind,R.run_pure] at hc
  cases hr with
  | head=>exact hc.1.1
  | tail _ hr=>exact De rs hc.2 r hr
end
end Go.Dw
namespace Go.Dw
section
variable {N : Nat} {P : Program}
def ini (p : (Nat × D) × Hd) : Nat × Aa:=(8192 + p.1.1,some (p.1.1,⟨false,true,p.2.s,p.2.ty,[p.1.2]⟩))
structure Ini (F : Fz) (w : World) (ptr : List (Nat × (Nat × Nat))) (O : List (Nat × Aa)) (keys : List Nat) (Mb : List Hd) (K : List (Nat × D)) : Prop where
 len : K.length = Mb.length
 keys : K.map Prod.fst = keys
 obj : O = (K.zip Mb).map ini
 ok : ∀ (k : Nat) key d m,K[k]? = some (key,d) -> Mb[k]? = some m -> Ep F w m d /\ look ptr key = some (m.s,m.ty)
 apart : ∀ (k k' : Nat) m m',k < k' -> Mb[k]? = some m -> Mb[k']? = some m' -> AaX m m'
def Nam (K : List (Nat × D)) (Mb : List Hd) (PB : Bt) : Prop:=∀ (k : Nat) key d m,K[k]? = some (key,d) -> Mb[k]? = some m -> PB key = some ⟨some m.b,1,m.s⟩
theorem Nam.cons {K : List (Nat × D)} {Mb : List Hd} {p : Nat × D} {m : Hd} {PB : Bt} (h : Nam (p :: K) (m :: Mb) PB) : PB p.1 = some ⟨some m.b,1,m.s⟩ /\ Nam K Mb PB :=
 ⟨h 0 p.1 p.2 m rfl rfl,λk key d m' h1 h2=>h (k + 1) key d m' (by simpa using h1) (by simpa using h2)⟩
theorem Nam.append {K1 K2 : List (Nat × D)} {M1 M2 : List Hd} {PB : Bt} (hl : K1.length = M1.length) (h : Nam (K1 ++ K2) (M1 ++ M2) PB) : Nam K1 M1 PB /\ Nam K2 M2 PB:=by
 refine ⟨λk key d m h1 h2=>h k key d m ?_ ?_,λk key d m h1 h2=>h (K1.length + k) key d m ?_ ?_⟩
 ·rw [List.getElem?_append_left (List.getElem?_eq_some_iff.1 h1).1]; exact h1
 ·rw [List.getElem?_append_left (List.getElem?_eq_some_iff.1 h2).1]; exact h2
 ·rw [List.getElem?_append_right (by omega)]; simpa using h1
 ·rw [List.getElem?_append_right (by omega),show K1.length + k - M1.length = k by omega]; exact h2
theorem Ini.nil {F : Fz} {w : World} {ptr : List (Nat × (Nat × Nat))} : Ini F w ptr [] [] [] []:=⟨rfl,rfl,rfl,λk key d m h=>by simp at h,λk k' m m' _ h=>by simp at h⟩
theorem Ini.cons {F : Fz} {w : World} {ptr : List (Nat × (Nat × Nat))} {O : List (Nat × Aa)} {keys : List Nat} {Mb : List Hd} {K : List (Nat × D)} (h : Ini F w ptr O keys Mb K) {j : Nat} {d : D} {m : Hd} (hp : look ptr j = some (m.s,m.ty)) (hd : Ep F w m d) (hM : ∀ m' ∈ Mb,AaX m m') :
  Ini F w ptr ((8192 + j,some (j,⟨false,true,m.s,m.ty,[d]⟩)) :: O) (j :: keys) (m :: Mb) ((j,d) :: K):=by
 refine ⟨by simp [h.len],by simp [h.keys],by simp [h.obj,ini],λk key d' m' h1 h2=>?_,λk k' m1 m2 hlt h1 h2=>?_⟩
 ·rcases k with _ | k
  ·simp only [List.getElem?_cons_zero,Option.some.injEq,Prod.mk.injEq] at h1 h2
   obtain ⟨rfl,rfl⟩:=h1
   subst h2
   exact ⟨hd,hp⟩
  ·simp only [List.getElem?_cons_succ] at h1 h2
   exact h.ok k key d' m' h1 h2
 ·rcases k' with _ | k'
  ·omega
  ·simp only [List.getElem?_cons_succ] at h2
   rcases k with _ | k
   ·simp only [List.getElem?_cons_zero,Option.some.injEq] at h1
    subst h1
    exact hM m2 (List.mem_of_getElem? h2)
   ·simp only [List.getElem?_cons_succ] at h1
    exact h.apart k k' m1 m2 (by omega) h1 h2
theorem Ini.append {F : Fz} {w : World} {ptr : List (Nat × (Nat × Nat))} {O1 O2 : List (Nat × Aa)} {k1 k2 : List Nat} {M1 M2 : List Hd} {K1 K2 : List (Nat × D)} (h1 : Ini F w ptr O1 k1 M1 K1) (h2 : Ini F w ptr O2 k2 M2 K2) (hM : ∀ m ∈ M1,∀ m' ∈ M2,AaX m m') :
  Ini F w ptr (O1 ++ O2) (k1 ++ k2) (M1 ++ M2) (K1 ++ K2):=by
 refine ⟨by simp [h1.len,h2.len],by simp [h1.keys,h2.keys],by rw [h1.obj,h2.obj,List.zip_append h1.len,List.map_append],λk key d m q1 q2=>?_,λk k' m m' hlt q1 q2=>?_⟩
 ·by_cases hk : k < K1.length
  ·rw [List.getElem?_append_left hk] at q1
   rw [List.getElem?_append_left (by rw [<- h1.len]; exact hk)] at q2
   exact h1.ok k key d m q1 q2
  ·rw [List.getElem?_append_right (by omega)] at q1
   rw [List.getElem?_append_right (by rw [<- h1.len]; omega),<- h1.len] at q2
   exact h2.ok _ key d m q1 q2
 ·by_cases hk : k' < M1.length
  ·rw [List.getElem?_append_left (by omega)] at q1
   rw [List.getElem?_append_left hk] at q2
   exact h1.apart k k' m m' hlt q1 q2
  ·rw [List.getElem?_append_right (by omega)] at q2
   by_cases hk2 : k < M1.length
   ·rw [List.getElem?_append_left hk2] at q1
    exact hM m (List.mem_of_getElem? q1) m' (List.mem_of_getElem? q2)
   ·rw [List.getElem?_append_right (by omega)] at q1
    exact h2.apart _ _ m m' (by omega) q1 q2
theorem KM {F : Fz} {w : World} {ptr : List (Nat × (Nat × Nat))} {j : Nat} {ds : List D} {xs : List Value} {Mb : List Hd} (h : CF F w ptr j ds xs Mb) :
  ∃ K,Ini F w ptr (FX ptr j ds) (Eb ptr j ds) Mb K /\ (Dp ptr j ds).length = xs.length /\ ∀ PB,Nam K Mb PB -> ∀ (q : Nat) d x,(Dp ptr j ds)[q]? = some d -> xs[q]? = some x -> Ref F PB d x:=by
 induction h with
 | nil j=>exact ⟨[],Ini.nil,rfl,λPB _ q d x hq=>by simp [Dp] at hq⟩
 | val j d ds x xs M hp hx _ ih =>
  obtain ⟨K,k1,k2,k3⟩:=ih
  refine ⟨K,by simpa [FX,Eb,hp] using k1,by simp [Dp,k2],λPB hPB q d' x' hq hx'=>?_⟩
  simp only [Dp,hp] at hq
  rcases q with _ | q
  ·simp only [List.getElem?_cons_zero,Option.some.injEq] at hq hx'
   subst hq; subst hx'
   exact Ref.Ag hx
  ·simp only [List.getElem?_cons_succ] at hq hx'
   exact k3 PB hPB q d' x' hq hx'
 | ptr j d ds xs M m hp hd hM _ ih =>
  obtain ⟨K,k1,k2,k3⟩:=ih
  refine ⟨(j,d) :: K,by simpa [FX,Eb,hp] using k1.cons hp hd hM,by simp [Dp,k2],λPB hPB q d' x' hq hx'=>?_⟩
  obtain ⟨n1,n2⟩:=hPB.cons
  simp only [Dp,hp] at hq
  rcases q with _ | q
  ·simp only [List.getElem?_cons_zero,Option.some.injEq] at hq hx'
   subst hq; subst hx'
   exact ⟨_,m.b,n1,rfl,by simp⟩
  ·simp only [List.getElem?_cons_succ] at hq hx'
   exact k3 PB n2 q d' x' hq hx'
theorem KL {F : Fz} {w : World} {ptr : List (Nat × (Nat × Nat))} {j : Nat} {ds : List D} {xs : List Value} {Mb : List Hd} (h : BO F w ptr j ds xs Mb) :
  ∃ K,Ini F w ptr (Ci ptr j ds) (Bw ptr j ds) Mb K /\ ∀ PB,Nam K Mb PB -> ∀ t d,look (Da ptr j ds) t = some d -> ∃ x,j <= t /\ xs[t - j]? = some x /\ Env F PB d x:=by
 have tail : ∀ {j : Nat} {d0 : D} {ds : List D} {x0 : Value} {xs : List Value} {PB : Bt},Env F PB (Fv ptr j d0) x0 -> (∀ t d,look (Da ptr (j + 1) ds) t = some d -> ∃ x,j + 1 <= t /\ xs[t - (j + 1)]? = some x /\ Env F PB d x) ->
   ∀ t d,look (Da ptr j (d0 :: ds)) t = some d -> ∃ x,j <= t /\ (x0 :: xs)[t - j]? = some x /\ Env F PB d x:=by
  intro j d0 ds x0 xs PB h0 hr t d ht
  simp only [Da,look] at ht
  split at ht
  ·rename_i e
   cases ht
   subst e
   exact ⟨x0,Nat.le_refl _,by simp,h0⟩
  ·obtain ⟨x',q1,q2,q3⟩:=hr t d ht
   refine ⟨x',by omega,?_,q3⟩
   rw [show t - j = (t - (j + 1)) + 1 by omega,List.getElem?_cons_succ]
   exact q2
 induction h with
 | nil j=>exact ⟨[],Ini.nil,λPB _ t d ht=>by simp [Da,look] at ht⟩
 | val j d ds x xs M hp hn hx _ ih =>
  obtain ⟨K,k1,k3⟩:=ih
  have hm : Ci ptr j (d :: ds) = Ci ptr (j + 1) ds /\ Bw ptr j (d :: ds) = Bw ptr (j + 1) ds /\ Fv ptr j d = d:=by
   cases d <;> first | exact (hn _ _ rfl).elim | (refine ⟨?_,?_,?_⟩ <;> simp [Ci,Bw,Fv,hp])
  obtain ⟨m1,m2,m3⟩:=hm
  rw [m1,m2]
  exact ⟨K,k1,λPB hPB=>tail (by rw [m3]; exact Env.Ag hx) (k3 PB hPB)⟩
 | ptr j d ds xs M m hp hd hM _ ih =>
  obtain ⟨K,k1,k3⟩:=ih
  refine ⟨(j,d) :: K,by simpa [Ci,Bw,hp] using k1.cons hp hd hM,λPB hPB=>?_⟩
  obtain ⟨n1,n2⟩:=hPB.cons
  exact tail (by simp only [Fv,hp]; exact ⟨_,m.b,n1,rfl,by simp⟩) (k3 PB n2)
 | clo j f caps vs ds xs M1 M2 hp hc hM _ ih =>
  obtain ⟨K,k1,k3⟩:=ih
  obtain ⟨K1,c1,c2,c3⟩:=KM hc
  refine ⟨K1 ++ K,by simpa [Ci,Bw,hp] using c1.append k1 hM,λPB hPB=>?_⟩
  obtain ⟨n1,n2⟩:=hPB.append c1.len
  exact tail (by simp only [Fv,hp]; exact ⟨vs,rfl,c2,c3 PB n1⟩) (k3 PB n2)
theorem Le {sp : Spec} {F : Fz} {w : World} {ds : List D} {xs : List Value} {Mb : List Hd} (hF : Fok F w) (hfin : ∀ b i x,F b i = some x -> b < w.heap.size) (h : BO F w sp.ptr 0 ds xs Mb) {k : Nat} (hN : xs.length + k = N)
  (hok : Ex sp.ptr = true) (hkeys : Bw sp.ptr 0 ds = sp.ptr.map Prod.fst) :
  ∃ (PB : Bt) (K : List (Nat × D)),Sim N { w with drawn:=w.heap.size } F (Wr Mb) PB (Dq sp ds) F PB { tmps:=xs.toArray ++ Array.replicate k undef,defers:=[] } w /\ (∀ v,262144 <= v -> PB v = none) /\ Nam K Mb PB /\ K.length = Mb.length /\ K.map Prod.fst = sp.ptr.map Prod.fst /\
   ∀ (i : Nat) key d m,K[i]? = some (key,d) -> Mb[i]? = some m -> look sp.ptr key = some (m.s,m.ty):=by
 obtain ⟨K,hI,hE⟩:=KL h
 simp only [Ex,Bool.and_eq_true,decide_eq_true_eq] at hok
 obtain ⟨hlt,hnd⟩:=hok
 have hKn : (K.map Prod.fst).Nodup:=by rw [hI.keys,hkeys]; exact hnd
 have hzl : (K.zip Mb).length = K.length:=by simp [hI.len]
 have huk : ∀ (i i' : Nat) key d d',K[i]? = some (key,d) -> K[i']? = some (key,d') -> i = i':=by
  intro i i' key d d' h1 h2
  have e1 : (K.map Prod.fst)[i]? = some key:=by simp [h1]
  have e2 : (K.map Prod.fst)[i']? = some key:=by simp [h2]
  have l1:=(List.getElem?_eq_some_iff.1 e1).1
  exact (List.getElem?_inj l1 hKn).1 (e1.trans e2.symm)
 let PB : Bt:=λv=>((K.zip Mb).find? λp=>p.1.1 == v).map λp=>⟨some p.2.b,1,p.2.s⟩
 have hPB : ∀ v L,PB v = some L -> ∃ (i : Nat) (d : D) (m : Hd),K[i]? = some (v,d) /\ Mb[i]? = some m /\ L = ⟨some m.b,1,m.s⟩:=by
  intro v L hv
  simp only [PB,Option.map_eq_some_iff] at hv
  obtain ⟨⟨⟨key,d⟩,m⟩,h1,rfl⟩:=hv
  have hk:=List.find?_some h1
  simp only [beq_iff_eq] at hk
  subst hk
  obtain ⟨i,hi⟩:=List.getElem?_of_mem (List.mem_of_find?_eq_some h1)
  rw [List.getElem?_zip_eq_some] at hi
  exact ⟨i,d,m,hi.1,hi.2,rfl⟩
 have hnam : Nam K Mb PB:=by
  intro i key d m h1 h2
  have hm : ((key,d),m) ∈ K.zip Mb:=List.mem_of_getElem? (i:=i) (by rw [List.getElem?_zip_eq_some]; exact ⟨h1,h2⟩)
  cases hf : (K.zip Mb).find? λp=>p.1.1 == key with
  | none =>
   have:=List.find?_eq_none.1 hf _ hm
   simp at this
  | some p =>
   have hv : PB key = some ⟨some p.2.b,1,p.2.s⟩:=by simp only [PB,hf]; rfl
   obtain ⟨i',d',m',q1,q2,q3⟩:=hPB key _ hv
   have:=huk i i' key d d' h1 q1
   subst this
   rw [h2] at q2; cases q2
   rw [hv,q3]
 have hgo : ∀ g v o,(Dq sp ds).go g = some (v,o) -> ∃ (i : Nat) (d : D) (m : Hd),K[i]? = some (v,d) /\ Mb[i]? = some m /\ g = 8192 + v /\ o = ⟨false,true,m.s,m.ty,[d]⟩:=by
  intro g v o hg
  simp only [S.go,Dq] at hg
  cases hl : look (Ci sp.ptr 0 ds) g with
  | none=>rw [hl] at hg; cases hg
  | some y =>
   rw [hl] at hg
   simp only [Option.getD_some] at hg
   subst hg
   have hm:=AW hl
   rw [hI.obj,List.mem_map] at hm
   obtain ⟨⟨⟨key,d⟩,m⟩,h1,h2⟩:=hm
   obtain ⟨i,hi⟩:=List.getElem?_of_mem h1
   rw [List.getElem?_zip_eq_some] at hi
   simp only [ini,Prod.mk.injEq,Option.some.injEq] at h2
   obtain ⟨rfl,rfl,rfl⟩:=h2
   exact ⟨i,d,m,hi.1,hi.2,rfl,rfl⟩
 have hap : ∀ (i i' : Nat) m m' b,Mb[i]? = some m -> Mb[i']? = some m' -> m.own b -> m'.own b -> i = i':=by
  intro i i' m m' b h1 h2 h3 h4
  rcases Nat.lt_trichotomy i i' with hl | hl | hl
  ·exact (hI.apart i i' m m' hl h1 h2 b h3 h4).elim
  ·exact hl
  ·exact (hI.apart i' i m' m hl h2 h1 b h4 h3).elim
 refine ⟨PB,K,?_,?_,hnam,hI.len,by rw [hI.keys,hkeys],λi key d m h1 h2=>(hI.ok i key d m h1 h2).2⟩
 ·refine { nam:=As.refl _,size:=by simp [hN],defers:=rfl,env:=λt=>?_,own:=?_,dist:=?_,sep:=?_,Ac:=?_,frz:=hF,fin:=hfin,step:=⟨rfl,rfl,rfl,Nat.le_refl _,λ_ _ _=>rfl,Af.refl F,λ_ _ _ _=>rfl⟩ }
  ·simp only [S.ge,Dq]
   cases hl : look (Da sp.ptr 0 ds) t with
   | none=>exact Env.top _
   | some d =>
    obtain ⟨x,_,q2,q3⟩:=hE PB hnam t d hl
    simp only [Nat.sub_zero] at q2
    have hlt : t < xs.length:=(List.getElem?_eq_some_iff.1 q2).1
    have : (xs.toArray ++ Array.replicate k undef).getD t undef = x:=by
     rw [Array.getD_eq_getD_getElem?,Array.getElem?_append_left (by simpa using hlt)]
     simp [q2]
    simp only [Option.getD_some,this]
    exact q3
  ·intro g v o hg
   obtain ⟨i,d,m,h1,h2,rfl,rfl⟩:=hgo g v o hg
   exact ⟨_,hnam i v d m h1 h2,λe=>(by cases e),λ_=>(hI.ok i v d m h1 h2).1.var.keep (Af.refl _) (Hb _) (λ_ _=>rfl)⟩
  ·intro g g' v v' o o' L L' b hg hg' _ _ hL hL' hb hb'
   obtain ⟨i,d,m,h1,h2,rfl,_⟩:=hgo g v o hg
   obtain ⟨i',d',m',h1',h2',rfl,_⟩:=hgo g' v' o' hg'
   rw [hnam i v d m h1 h2] at hL; cases hL; cases hb
   rw [hnam i' v' d' m' h1' h2'] at hL'; cases hL'
   have hbb : m'.b = m.b:=Option.some.inj hb'
   have:=hap i i' m m' m.b h2 h2' (.inl rfl) (.inl hbb.symm)
   subst this
   rw [h1] at h1'; cases h1'; rfl
  ·intro g v o L b hg _ hL hb
   obtain ⟨i,d,m,h1,h2,rfl,rfl⟩:=hgo g v o hg
   rw [hnam i v d m h1 h2] at hL; cases hL; cases hb
   have hz:=(hI.ok i v d m h1 h2).1
   exact ⟨hz.none_,hz.lt,.inr ⟨⟨m,List.mem_of_getElem? h2,.inl rfl⟩,by simp [Ac]; omega⟩⟩
  ·refine ⟨λg i j b=>∃ (q : Nat) (key : Nat) (d : D) (m : Hd),K[q]? = some (key,d) /\ Mb[q]? = some m /\ g = 8192 + key /\ i = 0 /\ m.φ j b,?_,?_,?_,?_,?_,?_,?_⟩
   ·intro g v o L b C i j e x s ty es _ hg _ hL hb hC he hj hx
    obtain ⟨q,d,m,h1,h2,rfl,rfl⟩:=hgo g v o hg
    rw [hnam q v d m h1 h2] at hL; cases hL; cases hb
    rcases i with _ | i
    ·simp only [List.getElem?_cons_zero,Option.some.injEq] at he
     subst he
     exact ((hI.ok q v d m h1 h2).1.row C j x s ty es hC hj (by simpa using hx)).keep (Af.refl _) (λ_ _=>rfl) (λb hb=>⟨q,v,d,m,h1,h2,rfl,rfl,hb⟩)
    ·simp at he
   ·intro g v o L b C i j e x nm u n _ hg _ hL hb hC he hj hx
    obtain ⟨q,d,m,h1,h2,rfl,rfl⟩:=hgo g v o hg
    rcases i with _ | i
    ·simp only [List.getElem?_cons_zero,Option.some.injEq] at he
     subst he
     exact ((hI.ok q v d m h1 h2).1.hole j _ u n hj).elim
    ·simp at he
   ·rintro g i j b ⟨q,key,d,m,h1,h2,_,_,hb⟩
    exact (hI.ok q key d m h1 h2).1.fno j b hb
   ·rintro g i j b ⟨q,key,d,m,h1,h2,_,_,hb⟩
    exact (hI.ok q key d m h1 h2).1.flt j b hb
   ·rintro g i j b ⟨q,key,d,m,h1,h2,_,_,hb⟩
    exact .inr ⟨m,List.mem_of_getElem? h2,.inr ⟨j,hb⟩⟩
   ·rintro g i j b g' v' o' L' ⟨q,key,d,m,h1,h2,_,_,hb⟩ hg' _ hL' hLb
    obtain ⟨q',d',m',h1',h2',rfl,rfl⟩:=hgo g' v' o' hg'
    rw [hnam q' v' d' m' h1' h2'] at hL'; cases hL'
    have hbb : m'.b = b:=Option.some.inj hLb
    have:=hap q q' m m' b h2 h2' (.inr ⟨j,hb⟩) (.inl hbb.symm)
    subst this
    rw [h2] at h2'; cases h2'
    exact (hI.ok q key d m h1 h2).1.fne j b hb hbb.symm
   ·rintro g i j g' i' j' b ⟨q,key,d,m,h1,h2,rfl,rfl,hb⟩ ⟨q',key',d',m',h1',h2',rfl,rfl,hb'⟩
    have:=hap q q' m m' b h2 h2' (.inr ⟨j,hb⟩) (.inr ⟨j',hb'⟩)
    subst this
    rw [h1] at h1'; cases h1'
    rw [h2] at h2'; cases h2'
    exact ⟨rfl,rfl,(hI.ok q key d m h1 h2).1.dis j j' b hb hb'⟩
 ·intro v hv
  cases hh : PB v with
  | none=>rfl
  | some L =>
   obtain ⟨i,d,m,h1,_⟩:=hPB v L hh
   have hm : v ∈ sp.ptr.map Prod.fst:=by
    rw [<- hkeys,<- hI.keys]
    exact List.mem_map.2 ⟨_,List.mem_of_getElem? h1,rfl⟩
   have:=List.all_eq_true.1 hlt v hm
   simp only [Nat.blt_eq] at this
   omega
section
variable {w0 : World} {F0 : Fz} {M : Nat -> Prop} {B0 : Bt} {σ : S} {F : Fz} {β : Bt} {a : Act} {w : World}
theorem IG (h : Sim N w0 F0 M B0 σ F β a w) : ∀ (ptr : List (Nat × (Nat × Nat))) (Ms : List Hd),ptr.length = Ms.length -> (∀ (k : Nat) key s ty m,ptr[k]? = some (key,(s,ty)) -> Ms[k]? = some m -> s = m.s /\ ty = m.ty /\ β key = some ⟨some m.b,1,m.s⟩) -> ((BA ptr).run σ).1 ->
  An σ ((BA ptr).run σ).2.2 /\ (∀ (k : Nat) key s ty m,ptr[k]? = some (key,(s,ty)) -> Ms[k]? = some m -> ∃ o,σ.go (8192 + key) = some (key,o) /\ o.fz = false /\ o.var = true) /\
   ∀ (ws : List (Nat × Aa)) F' φ,An σ ws -> (∀ p ∈ ((BA ptr).run σ).2.2,p ∈ ws) -> Af F F' -> Sim N w0 F0 M B0 ⟨σ.e,ws ++ σ.o,σ.n⟩ F' β a w -> Az F' β w0.heap.size M ⟨σ.e,ws ++ σ.o,σ.n⟩ w φ ->
    ∀ (k : Nat) key s ty m,ptr[k]? = some (key,(s,ty)) -> Ms[k]? = some m -> Ep F' w ⟨m.b,m.s,m.ty,φ (8192 + key) 0⟩ (((BA ptr).run σ).2.1.getD k .top) /\ ∃ o,(S.mk σ.e (ws ++ σ.o) σ.n).go (8192 + key) = some (key,o) /\ o.fz = false
 | [],_,_,_,_=>⟨An.nil σ,λk key s ty m hk=>by simp at hk,λ_ _ _ _ _ _ _ _ k key s ty m hk=>by simp at hk⟩
 | _ :: _,[],hl,_,_=>by simp at hl
 | (j,(s,ty)) :: ptr,m :: Ms,hl,hB,hc=>by
  simp only [BA,R.run_bind,R.run_pure] at hc ⊢
  obtain ⟨c1,c2⟩:=hc
  obtain ⟨rfl,rfl,hβ⟩:=hB 0 j s ty m rfl rfl
  obtain ⟨f1,o,g1,g2,g3,r1⟩:=Mt h hβ rfl ⟨rfl,rfl⟩ c1
  obtain ⟨f2,g4,r2⟩:=IG h ptr Ms (by simpa using hl) (λk key s ty m' h1 h2=>hB (k + 1) key s ty m' (by simpa using h1) (by simpa using h2)) c2
  refine ⟨f1.append f2,λk key s ty m' h1 h2=>?_,λws F' φ q1 q2 q3 q4 q5 k key s ty m' h1 h2=>?_⟩
  ·rcases k with _ | k
   ·simp only [List.getElem?_cons_zero,Option.some.injEq,Prod.mk.injEq] at h1
    obtain ⟨rfl,_⟩:=h1
    exact ⟨o,g1,g2,g3⟩
   ·simp only [List.getElem?_cons_succ] at h1 h2
    exact g4 k key s ty m' h1 h2
  ·rcases k with _ | k
   ·simp only [List.getElem?_cons_zero,Option.some.injEq,Prod.mk.injEq] at h1 h2
    obtain ⟨rfl,_⟩:=h1
    subst h2
    obtain ⟨z1,z2⟩:=r1 ws F' φ q1 (λp hp=>q2 p (by simp [hp])) q3 q4 q5
    exact ⟨by simpa using z1,o,z2,g2⟩
   ·simp only [List.getElem?_cons_succ] at h1 h2
    have:=r2 ws F' φ q1 (λp hp=>q2 p (by simp [hp])) q3 q4 q5 k key s ty m' h1 h2
    simpa using this
end
theorem Gk {α : Type} {l : List α} {q i : Nat} {x : α} (h : (l.take q)[i]? = some x) : l[i]? = some x:=by
 rw [List.getElem?_take] at h
 split at h
 ·exact h
 ·cases h
theorem ID (ptr : List (Nat × (Nat × Nat))) : ∀ (j : Nat) (ds : List D),∀ p ∈ FX ptr j ds,∀ v o,p.2 = some (v,o) -> o.fz = false
 | _,[],p,hp=>by cases hp
 | j,d :: r,p,hp=>by
  unfold FX at hp
  rcases List.mem_append.1 hp with hp | hp
  ·intro v o e
   split at hp
   ·simp only [List.mem_singleton] at hp; subst hp; cases e; rfl
   ·cases hp
  ·exact ID ptr (j + 1) r p hp
theorem HS (ptr : List (Nat × (Nat × Nat))) : ∀ (j : Nat) (ds : List D),∀ p ∈ Ci ptr j ds,∀ v o,p.2 = some (v,o) -> o.fz = false
 | _,[],p,hp=>by cases hp
 | j,d :: r,p,hp=>by
  unfold Ci at hp
  rcases List.mem_append.1 hp with hp | hp
  ·intro v o e
   split at hp
   ·simp only [List.mem_singleton] at hp; subst hp; cases e; rfl
   ·split at hp
    ·exact ID ptr _ _ p hp v o e
    ·cases hp
  ·exact HS ptr (j + 1) r p hp
theorem JD {sp : Spec} {ds : List D} {PB : Bt} {F : Fz} {w : World} {a : Act} {M : Nat -> Prop} {B0 : Bt} {F0 : Fz} {w0 : World} (h : Sim N w0 F0 M B0 (Dq sp ds) F PB a w) : ∀ g v o,(Dq sp ds).go g = some (v,o) -> o.s ≠ 0:=by
 intro g v o hg
 refine h.GC hg ?_
 have hl : look (Dq sp ds).o g = some (some (v,o)):=by
  unfold S.go at hg
  cases hx : look (Dq sp ds).o g with
  | none=>rw [hx] at hg; cases hg
  | some x=>rw [hx] at hg; simp only [Option.getD_some] at hg; rw [hg]
 exact HS sp.ptr 0 ds _ (AW hl) v o rfl
theorem MK {Γ : Ar} (hΓ : ∀ k sp,Γ k = some sp -> NG P (k % 4096) sp) {f : Nat} {fn : Func} {c : Code} {sp : Spec} {dc : QB} {rs : List AZ} (hf : P.funcs[f]? = some fn) (hname : (fn.name == "runtime.NumGoroutine") = false) (hb : fn.body = some c)
  (hc : Sy P fn.ntmps c = some dc) (hr : fn.results.toList.mapM (AcW P) = some rs) {np : Nat} (hnp : np <= fn.ntmps) (hpre : ∀ ds,sp.pre ds -> ds.length = np /\ Bw sp.ptr 0 ds = sp.ptr.map Prod.fst) (hptr : Ex sp.ptr = true) (hok : Lm Γ sp np rs dc) (hni : BP sp.kind = none) (hno : DQ sp.kind = none:=by rfl) : NG P f sp:=by
 intro F00 hG0
 refine ⟨⟨fn,hf,hname,by rw [hb]; rfl⟩,(λq hq=>by rw [hni] at hq; cases hq),λ_ _ w F ds xs Mb hsub0 hF hfin hA hp=>?_,λφ hφ=>by rw [hno] at hφ; cases hφ⟩
 have hΓ : ∀ k sp,Γ k = some sp -> Bz P F (k % 4096) sp:=λk sp h=>hΓ k sp h F (hG0.mono hsub0)
 have hlen : ds.length = xs.length:=by
  clear hp
  generalize 0 = j at hA
  induction hA with
  | nil=>rfl
  | val _ _ _ _ _ _ _ _ _ _ ih=>simp [ih]
  | ptr _ _ _ _ _ _ _ _ _ _ ih=>simp [ih]
  | clo _ _ _ _ _ _ _ _ _ _ _ _ ih=>simp [ih]
 obtain ⟨hdl,hkeys⟩:=hpre ds hp
 obtain ⟨PB,K,hS,hfresh,hnam,hKl,hKf,hKp⟩:=Le (N:=fn.ntmps) (k:=fn.ntmps - xs.length) hF hfin hA (by omega) hptr hkeys
 refine calls_of_wp hf hb ?_
 have e0 : (xs.toArray.size) = xs.length:=by simp
 rw [e0]
 obtain ⟨τ0,hchg0,hok0⟩:=hok ds hp ⟨hdl,hkeys⟩
 obtain ⟨F00,B00,hS0,hfresh0⟩:=(Ax.of hS (Nat.le_refl _) (JD hS)).chg hfresh hchg0
 refine wp_mono (BG hΓ c dc hc _ τ0 F00 B00 _ w hS0 hfresh0 hok0) λe a' w' hq=>?_
 obtain ⟨τ1,F1,β1,k1',kf1,k3⟩:=hq
 replace k1':=k1'.sim
 have fin0 : ∀ τ F' β',Sim fn.ntmps { w with drawn:=w.heap.size } F (Wr Mb) PB τ F' β' a' w' -> BZ sp rs ds τ -> (a'.defers = [] /\ ∃ v,(results fn a'.tmps).run P w' = .ok v w' /\ CP sp w F ds Mb (.returned v) w'):=by
  intro τ F' β' k1
  rintro ⟨r1,r2,r3⟩
  have hpl : sp.ptr.length = Mb.length:=by
   have:=congrArg List.length hKf
   simpa [hKl] using this.symm
  have hnd : (sp.ptr.map Prod.fst).Nodup:=by
   simp only [Ex,Bool.and_eq_true,decide_eq_true_eq] at hptr
   exact hptr.2
  have hBk : ∀ (k : Nat) key s ty m,sp.ptr[k]? = some (key,(s,ty)) -> Mb[k]? = some m -> s = m.s /\ ty = m.ty /\ β' key = some ⟨some m.b,1,m.s⟩:=by
   intro k key s ty m h1 h2
   have hkl : k < K.length:=by rw [hKl]; exact (List.getElem?_eq_some_iff.1 h2).1
   obtain ⟨⟨key',d⟩,hK⟩ : ∃ p,K[k]? = some p:=⟨_,List.getElem?_eq_getElem hkl⟩
   have e1 : (K.map Prod.fst)[k]? = some key':=by simp [hK]
   have e2 : (sp.ptr.map Prod.fst)[k]? = some key:=by simp [h1]
   rw [hKf,e2] at e1
   cases e1
   have hl:=hKp k key d m hK h2
   have hl2 : look sp.ptr key = some (s,ty):=by
    cases hq : look sp.ptr key with
    | none=>exact absurd (List.mem_of_getElem? h1) (DO hq _)
    | some y =>
     have hm:=AW hq
     obtain ⟨k',hk'⟩:=List.getElem?_of_mem hm
     have e3 : (sp.ptr.map Prod.fst)[k']? = some key:=by simp [hk']
     have:=(List.getElem?_inj (List.getElem?_eq_some_iff.1 e2).1 hnd).1 (e2.trans e3.symm)
     subst this
     rw [h1] at hk'; cases hk'; rfl
   rw [hl2] at hl
   cases hl
   exact ⟨rfl,rfl,k1.nam _ _ (hnam k key d m hK h2)⟩
  obtain ⟨fe,ge,be⟩:=IG k1 sp.ptr Mb hpl hBk r1
  have ending : ∀ (ws : List (Nat × Aa)) (v : Value) (ρ : Nat -> Prop),An τ ws -> (∀ p ∈ ((BA sp.ptr).run τ).2.2,p ∈ ws) -> (∀ F2 φ,Af F' F2 -> Sim fn.ntmps { w with drawn:=w.heap.size } F (Wr Mb) PB ⟨τ.e,ws ++ τ.o,τ.n⟩ F2 β' a' w' -> Az F2 β' w.heap.size (Wr Mb) ⟨τ.e,ws ++ τ.o,τ.n⟩ w' φ -> Ln w F2 w' (sp.res ds) v (λb=>ρ b \/ (Mb = [] /\ ∃ g i j,φ g i j b)) sp.kind /\ (Mb ≠ [] -> ∀ g j b,φ g 0 j b -> ¬ ρ b)) ->
    CP sp w F ds Mb (.returned v) w':=by
   intro ws v ρ hws hsub hres
   obtain ⟨F2,hF2,hS2,_⟩:=k1.freeze hws
   obtain ⟨φ,hφ⟩:=hS2.Ac
   obtain ⟨q1,q2⟩:=hres F2 φ hF2 hS2 hφ
   have hbe:=be ws F2 φ hws hsub hF2 hS2 hφ
   have hpk : ∀ (k : Nat) m,Mb[k]? = some m -> ∃ key s ty,sp.ptr[k]? = some (key,(s,ty)):=by
    intro k m hk
    have hlt : k < sp.ptr.length:=by rw [hpl]; exact (List.getElem?_eq_some_iff.1 hk).1
    exact ⟨_,_,_,List.getElem?_eq_getElem hlt⟩
   refine ⟨v,F2,λk j b=>∃ key st m,sp.ptr[k]? = some (key,st) /\ Mb[k]? = some m /\ φ (8192 + key) 0 j b,_,rfl,hS2.frz,hS2.fin,⟨hS2.step.os,hS2.step.tape,hS2.step.output,hS2.step.size,hS2.step.block,hS2.step.sub,hS2.step.old⟩,q1,?_,?_⟩
   ·rw [<- r2]
    refine ⟨λk m hk=>?_,λk j b ⟨key,st,m,h1,h2,_⟩=>(List.getElem?_eq_some_iff.1 h2).1,λk j b ⟨key,st,m,h1,h2,h3⟩=>hφ.new _ _ _ _ h3,λk j k' j' b ⟨key,st,m,h1,h2,h3⟩ ⟨key',st',m',h1',h2',h3'⟩=>?_,λk j b m ⟨key,st,m1,h1,h2,h3⟩ hm e=>?_⟩
    ·obtain ⟨key,s,ty,hp⟩:=hpk k m hk
     have hz:=(hbe k key s ty m hp hk).1
     refine ⟨hz.var,hz.none_,hz.lt,?_,?_,?_,?_,?_,hz.hole⟩
     ·rintro j b ⟨key',st,m',h1,h2,h3⟩
      rw [hp] at h1; cases h1
      exact hz.fno j b h3
     ·rintro j b ⟨key',st,m',h1,h2,h3⟩
      rw [hp] at h1; cases h1
      exact hz.flt j b h3
     ·rintro j b ⟨key',st,m',h1,h2,h3⟩
      rw [hp] at h1; cases h1
      exact hz.fne j b h3
     ·rintro j j' b ⟨key',st,m',h1,h2,h3⟩ ⟨key'',st',m'',h1',h2',h3'⟩
      rw [hp] at h1; cases h1
      rw [hp] at h1'; cases h1'
      exact hz.dis j j' b h3 h3'
     ·intro C j x s' ty' es hC hj hx
      exact (hz.row C j x s' ty' es hC hj hx).keep (Af.refl _) (λ_ _=>rfl) (λb hb=>⟨key,(s,ty),m,hp,hk,hb⟩)
    ·have hkk:=(hφ.dis _ _ _ _ _ _ _ h3 h3').1
     have : key = key':=by omega
     subst this
     have e2 : (sp.ptr.map Prod.fst)[k]? = some key:=by simp [h1]
     have e3 : (sp.ptr.map Prod.fst)[k']? = some key:=by simp [h1']
     exact (List.getElem?_inj (List.getElem?_eq_some_iff.1 e2).1 hnd).1 (e2.trans e3.symm)
    ·obtain ⟨k',hk'⟩:=List.getElem?_of_mem hm
     obtain ⟨key',s',ty',hp'⟩:=hpk k' m hk'
     obtain ⟨_,o',z1,z2⟩:=hbe k' key' s' ty' m hp' hk'
     obtain ⟨_,_,hβ⟩:=hBk k' key' s' ty' m hp' hk'
     subst e
     exact hφ.sep _ _ _ _ _ _ _ _ h3 z1 z2 hβ rfl
   ·rintro k j b ⟨key,st,m,h1,h2,h3⟩ (hρ | ⟨hM0,_⟩)
    ·exact q2 (λe=>by rw [e] at h2; simp at h2) _ _ _ h3 hρ
    ·rw [hM0] at h2; simp at h2
  refine ⟨k1.defers,?_⟩
  have one : (sp.kind = .val \/ sp.kind = .ground) -> ∀ r,rs = [r] -> ((DW r).run τ).1 -> ((DW r).run τ).2.1 = sp.res ds -> ∃ v,(results fn a'.tmps).run P w' = .ok v w' /\ CP sp w F ds Mb (.returned v) w':=by
   rintro hk r rfl c1 c2
   simp only [DW,R.run_bind,R.run_pure] at c1 c2
   obtain ⟨d1,d2⟩:=c1
   obtain ⟨vs,v1,v2,v3⟩:=BM (P:=P) k1 hr (λr' hr'=>by simp only [List.mem_singleton] at hr'; subst hr'; exact d1)
   have hl1 : vs.length = 1:=v2
   rw [dif_pos hl1] at v1
   refine ⟨_,v1,?_⟩
   have hval:=v3 0 r vs[0] rfl (List.getElem?_eq_getElem (by omega))
   obtain ⟨f1,g1⟩:=EZ k1 _ hval d2
   refine ending (((res ((Pn r).run τ).2).run τ).2.2 ++ ((BA sp.ptr).run τ).2.2) _ (λ_=>False) (f1.append fe) (λp hp=>by simp [hp]) (λF2 φ hF2 hS2 _=>⟨?_,λ_ _ _ _ _=>id⟩)
   have:=g1 _ F2 (f1.append fe) (λp hp=>by simp [hp]) hF2 hS2
   rw [c2] at this
   rcases hk with hk | hk <;> (rw [hk]; exact this)
  have many : (sp.kind = .val \/ sp.kind = .ground) -> ((AA rs).run τ).1 -> .tup ((AA rs).run τ).2.1 = sp.res ds -> rs.length ≠ 1 -> ∃ v,(results fn a'.tmps).run P w' = .ok v w' /\ CP sp w F ds Mb (.returned v) w':=by
   intro hk c1 c2 c3
   obtain ⟨vs,v1,v2,v3⟩:=BM (P:=P) k1 hr (De rs c1)
   have hl1 : ¬ vs.length = 1:=by rw [v2]; exact c3
   rw [dif_neg hl1] at v1
   refine ⟨_,v1,?_⟩
   obtain ⟨f1,l1,g1⟩:=Ey k1 rs vs v2.symm (λi r v h1 h2 _=>v3 i r v h1 h2) c1
   refine ending (((AA rs).run τ).2.2 ++ ((BA sp.ptr).run τ).2.2) _ (λ_=>False) (f1.append fe) (λp hp=>by simp [hp]) (λF2 φ hF2 hS2 _=>⟨?_,λ_ _ _ _ _=>id⟩)
   have hh:=g1 _ F2 (f1.append fe) (λp hp=>by simp [hp]) hF2 hS2
   have : Fro F2 (sp.res ds) (.tuple vs.toArray):=by
    rw [<- c2]
    exact .tup _ vs l1 hh
   rcases hk with hk | hk <;> (rw [hk]; exact this)
  cases hk : sp.kind with
  | inpl r fl fk=>rw [hk] at hni; cases hni
  | opn q=>rw [hk] at hno; cases hno
  | val =>
   rw [hk] at r3
   match rs,r3,one,many with
   | [r],r3,one,_=>exact one (.inl hk) r rfl r3.1 r3.2
   | [],r3,_,many=>exact many (.inl hk) r3.1 r3.2.1 r3.2.2
   | _ :: _ :: _,r3,_,many=>exact many (.inl hk) r3.1 r3.2.1 r3.2.2
  | ground =>
   rw [hk] at r3
   match rs,r3,one,many with
   | [r],r3,one,_=>exact one (.inr hk) r rfl r3.1 r3.2
   | [],r3,_,many=>exact many (.inr hk) r3.1 r3.2.1 r3.2.2
   | _ :: _ :: _,r3,_,many=>exact many (.inr hk) r3.1 r3.2.1 r3.2.2
  | row s ty =>
   rw [hk] at r3
   match rs,r3,hr with
   | [r],⟨d1,d2,d3,d4⟩,hr =>
    obtain ⟨vs,v1,v2,v3⟩:=BM (P:=P) k1 hr (λr' hr'=>by simp only [List.mem_singleton] at hr'; subst hr'; exact d1)
    have hl1 : vs.length = 1:=v2
    rw [dif_pos hl1] at v1
    refine ⟨_,v1,?_⟩
    have hval:=v3 0 r vs[0] rfl (List.getElem?_eq_getElem (by omega))
    obtain ⟨es,L,g,v,o,g1,g2,n1,n2,n3,n4,n5,n6,n7,g3⟩:=IZ k1 (Nat.le_refl _) hval d2
    refine ending _ _ (λb=>L.b = some b) fe (λp hp=>hp) (λF2 φ hF2 hS2 hφ=>?_)
    obtain ⟨g4,g6,g5⟩:=g3 _ F2 d4 hF2 hS2
    rw [hk]
    refine ⟨⟨es,L,d3.symm.trans g1,g2,g4,λb hb=>⟨((g5 b hb).1).resolve_right (λz=>by cases z.1),(g5 b hb).2.1,(g5 b hb).2.2,.inl hb⟩⟩,λ_ g' j b hb hLb=>?_⟩
    exact hφ.sep g' 0 j b g v o L hb g6 n2 n5 hLb
   | [],r3,_=>exact r3.elim
   | _ :: _ :: _,r3,_=>exact r3.elim
  | mat s ty =>
   rw [hk] at r3
   match rs,r3,hr with
   | [r],⟨d1,d2,d3,d4⟩,hr =>
    obtain ⟨vs,v1,v2,v3⟩:=BM (P:=P) k1 hr (λr' hr'=>by simp only [List.mem_singleton] at hr'; subst hr'; exact d1)
    have hl1 : vs.length = 1:=v2
    rw [dif_pos hl1] at v1
    refine ⟨_,v1,?_⟩
    have hval:=v3 0 r vs[0] rfl (List.getElem?_eq_getElem (by omega))
    have hM0 : Mb = []:=Dn d4 hA
    have hpe : (BA sp.ptr).run τ = (True,[],[]):=by rw [d4]; rfl
    obtain ⟨es,L,g,v,o,g1,g2,n1,n2,n3,n4,n5,⟨n0,rfl⟩,n7,g3⟩:=IZ k1 (Nat.le_refl _) hval d2
    refine ending [] _ (λb=>L.b = some b) (An.nil _) (λp hp=>by rw [hpe] at hp; cases hp) (λF2 φ hF2 hS2 hφ=>?_)
    obtain ⟨g4,g6,g5⟩:=g3 [] F2 (by simp) hF2 hS2
    have hidx : ∀ (i : Nat) e,(o.es.take n0)[i]? = some e -> o.es[i]? = some e:=λi e he=>Gk he
    have hnew : ∀ b,w.heap.size <= b \/ Wr Mb b -> w.heap.size <= b:=by
     rintro b (hb | ⟨m,hm,_⟩)
     ·exact hb
     ·rw [hM0] at hm; cases hm
    rw [hk]
    refine ⟨⟨_,L,λi j b=>φ g i j b,d3.symm.trans g1,g2,g4,λb hb=>⟨hnew b ((g5 b hb).1.imp id And.right),(g5 b hb).2.1,(g5 b hb).2.2,.inl hb⟩,λi j b hb=>⟨hnew b (hφ.new _ _ _ _ hb),hφ.lt _ _ _ _ hb,hφ.none_ _ _ _ _ hb,.inr ⟨hM0,g,i,j,hb⟩,hφ.sep g i j b g v o L hb g6 n2 n5⟩,
     λi j i' j' b h1 h2=>(hφ.dis _ _ _ _ _ _ _ h1 h2).2,λb C i j e x s' ty' es' hb hC he hj hx=>hφ.row g v o L b C i j e x s' ty' es' n1 g6 n2 n5 hb (by rw [n4]; exact hC) (hidx i e he) hj (by rw [n3]; exact hx),λi j e nm u n he hj=>n7 rfl e (List.mem_of_getElem? (hidx i e he)) _ (List.mem_of_getElem? hj) nm u n rfl⟩,λhne=>absurd hM0 hne⟩
   | [],r3,_=>exact r3.elim
   | _ :: _ :: _,r3,_=>exact r3.elim
  | ptr s ty =>
   rw [hk] at r3
   match rs,r3,hr with
   | [r],⟨d1,d2,d3,d4⟩,hr =>
    obtain ⟨vs,v1,v2,v3⟩:=BM (P:=P) k1 hr (λr' hr'=>by simp only [List.mem_singleton] at hr'; subst hr'; exact d1)
    have hl1 : vs.length = 1:=v2
    rw [dif_pos hl1] at v1
    refine ⟨_,v1,?_⟩
    have hval:=v3 0 r vs[0] rfl (List.getElem?_eq_getElem (by omega))
    obtain ⟨f1,g,v,o,b,g1,g2,g3,g4,g5,g6,g7⟩:=IY k1 (Nat.le_refl _) hval d2
    refine ending (((BU s ty ((Pn r).run τ).2).run τ).2.2.1 ++ ((BA sp.ptr).run τ).2.2) _ (λb'=>b' = b) (f1.append fe) (λp hp=>by simp [hp]) (λF2 φ hF2 hS2 hφ=>?_)
    obtain ⟨z1,z2,z3,z4,v',o',z5,z6,z7⟩:=g7 _ F2 (f1.append fe) (λp hp=>by simp [hp]) hF2 hS2
    rw [hk]
    refine ⟨⟨b,g6,by rw [<- d3]; exact z1,z4.resolve_right (λz=>by rw [g1] at d4; rw [d4] at z; cases z.2),z3,z2,.inl rfl⟩,λ_ g' j b' hb e=>?_⟩
    subst e
    exact hφ.sep g' 0 j _ g v' o' _ hb z5 z6 z7 rfl
   | [],r3,_=>exact r3.elim
   | _ :: _ :: _,r3,_=>exact r3.elim
  | tupPtr q s ty =>
   rw [hk] at r3
   have r3' : q < rs.length /\ rs.length ≠ 1 /\ sp.ptr = [] /\ ((AA (rs.take q)).run τ).1 /\ ((AA (rs.drop (q + 1))).run τ).1 /\ ((Pn (rs.getD q (.t 0))).run τ).1 /\ ((BU s ty ((Pn (rs.getD q (.t 0))).run τ).2).run τ).1 /\
     .tup (((AA (rs.take q)).run τ).2.1 ++ ((BU s ty ((Pn (rs.getD q (.t 0))).run τ).2).run τ).2.1 :: ((AA (rs.drop (q + 1))).run τ).2.1) = sp.res ds:=by
    cases rs with
    | nil=>exact r3
    | cons r0 rs=>cases rs <;> exact r3
   obtain ⟨t1,t2,t3,t4,t5,t6,t7,t8⟩:=r3'
   have hq : rs[q]? = some (rs.getD q (.t 0)):=by simp [t1]
   generalize rs.getD q (.t 0) = rq at *
   have hsplit : rs = rs.take q ++ rq :: rs.drop (q + 1):=by
    obtain ⟨hl,he⟩:=List.getElem?_eq_some_iff.1 hq
    rw [<- he,<- List.drop_eq_getElem_cons hl,List.take_append_drop]
   have conds : ∀ r ∈ rs,((Pn r).run τ).1:=by
    intro r hr'
    rw [hsplit,List.mem_append,List.mem_cons] at hr'
    rcases hr' with h1 | rfl | h1
    ·exact De _ t4 r h1
    ·exact t6
    ·exact De _ t5 r h1
   obtain ⟨vs,v1,v2,v3⟩:=BM (P:=P) k1 hr conds
   rw [dif_neg (by rw [v2]; exact t2)] at v1
   refine ⟨_,v1,?_⟩
   have hvl : q < vs.length:=by omega
   have hvq : vs[q]? = some vs[q]:=List.getElem?_eq_getElem hvl
   obtain ⟨fP,g,v,o,b,g1,g2,g3,g4,g5,g6,g7⟩:=IY k1 (Nat.le_refl _) (v3 q rq vs[q] hq hvq) t7
   obtain ⟨fA,lA,gA⟩:=Ey k1 (rs.take q) (vs.take q) (by simp [v2]) (λi r v h1 h2 _=>v3 i r v (Gk h1) (Gk h2)) t4
   obtain ⟨fB,lB,gB⟩:=Ey k1 (rs.drop (q + 1)) (vs.drop (q + 1)) (by simp [v2]) (λi r v h1 h2 _=>v3 (q + 1 + i) r v (by rw [<- List.getElem?_drop]; exact h1) (by rw [<- List.getElem?_drop]; exact h2)) t5
   refine ending (((AA (rs.take q)).run τ).2.2 ++ (((BU s ty ((Pn rq).run τ).2).run τ).2.2.1 ++ (((AA (rs.drop (q + 1))).run τ).2.2 ++ ((BA sp.ptr).run τ).2.2))) _ (λb'=>b' = b) (fA.append (fP.append (fB.append fe))) (λp hp=>by simp [hp]) (λF2 φ hF2 hS2 _=>⟨?_,λhne=>absurd (Dn t3 hA) hne⟩)
   have hws:=fA.append (fP.append (fB.append fe))
   obtain ⟨z1,z2,z3,z4⟩:=g7 _ F2 hws (λp hp=>by simp [hp]) hF2 hS2
   have zA:=gA _ F2 hws (λp hp=>by simp [hp]) hF2 hS2
   have zB:=gB _ F2 hws (λp hp=>by simp [hp]) hF2 hS2
   have lA' : ((AA (rs.take q)).run τ).2.1.length = q:=by rw [lA]; simp; omega
   rw [hk]
   refine ⟨_,vs,b,t8.symm,rfl,?_,?_,?_,?_,?_,z3,z2,.inl rfl⟩
   ·simp only [List.length_append,List.length_cons,lA',lB,List.length_drop]; omega
   ·intro j c x hj hc hx
    rcases Nat.lt_trichotomy j q with h1 | h1 | h1
    ·rw [List.getElem?_append_left (by omega)] at hc
     exact zA j c x hc (by rw [List.getElem?_take]; simp [h1,hx])
    ·exact absurd h1 hj
    ·obtain ⟨i,rfl⟩ : ∃ i,j = q + 1 + i:=⟨j - (q + 1),by omega⟩
     rw [List.getElem?_append_right (by omega),lA',show q + 1 + i - q = i + 1 by omega,List.getElem?_cons_succ] at hc
     exact zB i c x hc (by rw [List.getElem?_drop]; exact hx)
   ·rw [hvq,g6]
   ·rw [List.getD_eq_getElem?_getD,List.getElem?_append_right (by omega),lA',Nat.sub_self]
    exact z1
   ·rcases z4.1 with z4 | ⟨⟨m,hm,_⟩,_⟩
    ·exact z4
    ·rw [Dn t3 hA] at hm; cases hm
 have fin : Wk (BZ sp rs ds) τ1 -> (a'.defers = [] /\ ∃ v,(results fn a'.tmps).run P w' = .ok v w' /\ CP sp w F ds Mb (.returned v) w'):=by
  rintro ⟨τ,hc1,hr1⟩
  obtain ⟨F',β',k1,_⟩:=k1'.chg kf1 hc1
  exact fin0 τ F' β' k1 hr1
 cases e with
 | normal=>exact fin k3
 | ret=>exact fin k3
 | exit id=>exact k3.elim
 | goto l=>exact k3.elim
 | panic ch=>exact k3.elim
 | outgrown=>exact k3.elim
end
end Go.Dw
namespace Go.Dw
theorem Mi {P : Program} {Γ : Ar} (hΓ : ∀ k sp,Γ k = some sp -> NG P (k % 4096) sp) {f : Nat} {fn : Func} {sp : Spec} {dc : QB} {rs : List AZ} (hf : P.funcs[f]? = some fn) (hname : (fn.name == "runtime.NumGoroutine") = false)
  (hc : (fn.body.bind (Sy P fn.ntmps)) = some dc) (hr : fn.results.toList.mapM (AcW P) = some rs) {np : Nat} (hnp : np <= fn.ntmps) (hpre : ∀ ds,sp.pre ds -> ds.length = np /\ Bw sp.ptr 0 ds = sp.ptr.map Prod.fst) (hptr : Ex sp.ptr = true) (hok : Lm Γ sp np rs dc) (hni : BP sp.kind = none) (hno : DQ sp.kind = none:=by rfl) : NG P f sp:=by
 rw [Option.bind_eq_some_iff] at hc
 obtain ⟨c,hb,hc⟩:=hc
 exact MK hΓ hf hname hb hc hr hnp hpre hptr hok hni hno
def specs (l : List (Nat × Spec)) : Ar:=λk=>look l k
theorem NO {P : Program} {l : List (Nat × Spec)} (h : ∀ p ∈ l,NG P (p.1 % 4096) p.2) : ∀ k sp,specs l k = some sp -> NG P (k % 4096) sp:=λ_k _sp hk=>h _ (AW hk)
theorem Od {P : Program} : ∀ k sp,specs [] k = some sp -> NG P (k % 4096) sp:=NO (λ_ h=>by cases h)
theorem Ash {n : Int} (h0 : -9223372036854775808 <= n) (h1 : n <= 9223372036854775807) : IntKind.i64.wrap n = n:=by
 rw [IntKind.wrap_i64]; omega
end Go.Dw
namespace Go.Dw
def DT : Nat -> List D -> List (Nat × D)
 | _,[]=>[]
 | j,d :: r=>(j,d) :: DT (j + 1) r
theorem Hl : ∀ (ds : List D) (j t : Nat),look (DT j ds) t = if j <= t then ds[t - j]? else none
 | [],j,t=>by simp [DT,look]
 | d :: r,j,t=>by
  simp only [DT,look,Hl r (j + 1) t]
  by_cases h : t = j
  ·subst h; simp
  ·rw [if_neg h]
   by_cases h2 : j + 1 <= t
   ·rw [if_pos h2,if_pos (by omega),show t - j = (t - (j + 1)) + 1 by omega,List.getElem?_cons_succ]
   ·rw [if_neg h2,if_neg (by omega)]
def Arm : D -> Bool
 | .agg _ | .tup _ | .when ..=>false
 | _=>true
def Wo (rs : List AZ) (τ : S) : Prop × D :=
 match rs with
 | [r]=>(((Pn r).run τ).1,((Pn r).run τ).2)
 | rs=>((∀ r ∈ rs,((Pn r).run τ).1) /\ (rs.map λr=>((Pn r).run τ).2).all Arm = true,.tup (rs.map λr=>((Pn r).run τ).2))
def MY (rs : List AZ) (e : List (Nat × D)) (K : D -> S -> Prop) : Au -> S -> Prop:=λx τ =>
 match x with
 | .exit _=>False
 | _=>Wk (λτ=>(Wo rs τ).1 /\ K (Wo rs τ).2 ⟨e,τ.o,τ.n⟩) τ
def KW (Γ : Ar) (np : Nat) (rs : List AZ) (dc : QB) : List D -> S -> (D -> S -> Prop) -> Prop:=λds σ K =>
 ds.length = np /\ Wk (DWp Γ dc (MY rs σ.e K)) ⟨DT 0 ds,σ.o,σ.n⟩
def AnE (Γ : Ar) (np : Nat) (rs : List AZ) (dc : QB) : Spec:=⟨[],.opn (KW Γ np rs dc),λ_=>False,λ_=>.top,λ_=>[]⟩
theorem Ll {F : Fz} {β : Bt} {d : D} {x : Value} (h : Val F β d x) (ht : Arm d = true) : Cel F β d x:=by
 cases d <;> first | exact h | cases ht
theorem Arc {P : Program} {Γ : Ar} (hΓ : ∀ k sp,Γ k = some sp -> NG P (k % 4096) sp) {f : Nat} {fn : Func} {dc : QB} {rs : List AZ} (hf : P.funcs[f]? = some fn) (hname : (fn.name == "runtime.NumGoroutine") = false)
  (hc : (fn.body.bind (Sy P fn.ntmps)) = some dc) (hr : fn.results.toList.mapM (AcW P) = some rs) {np : Nat} (hnp : np <= fn.ntmps) : NG P f (AnE Γ np rs dc):=by
 rw [Option.bind_eq_some_iff] at hc
 obtain ⟨c,hb,hc⟩:=hc
 intro F0 hG
 refine ⟨⟨fn,hf,hname,by rw [hb]; rfl⟩,λq hq=>(by cases hq),λ_ h=>(by cases h),λφ hφ=>?_⟩
 cases hφ
 rintro F0' hF0' N w0 M B0 σ F β a w ds vs K hM hfr hl hv ⟨hn,τ0,hchg,hw⟩
 have h:=hM.sim
 obtain ⟨w1,F1',M1,B1,hb1,h1,hm1⟩:=hM
 have hΓ' : ∀ k sp,Γ k = some sp -> Bz P F (k % 4096) sp:=λk sp hk=>hΓ k sp hk F (hG.mono (hF0'.trans h.step.sub))
 have hS : Sim fn.ntmps w1 F M1 β ⟨DT 0 ds,σ.o,σ.n⟩ F β { tmps:=vs.toArray ++ Array.replicate (fn.ntmps - vs.toArray.size) undef,defers:=[] } w:=by
  refine { nam:=As.refl _,size:=by simp; omega,defers:=rfl,env:=λt=>?_,own:=h1.own,dist:=h1.dist,sep:=h1.sep,Ac:=?_,frz:=h1.frz,fin:=h1.fin,step:=⟨h1.step.os,h1.step.tape,h1.step.output,h1.step.size,h1.step.block,Af.refl _,λ_ _ _ _=>rfl⟩ }
  ·simp only [S.ge,Hl,Nat.zero_le,if_true,Nat.sub_zero]
   by_cases ht : t < ds.length
   ·have h1 : ds[t]? = some ds[t]:=List.getElem?_eq_getElem ht
    have h2 : vs[t]? = some (vs[t]'(by omega)):=List.getElem?_eq_getElem _
    rw [h1]
    have e : (vs.toArray ++ Array.replicate (fn.ntmps - vs.toArray.size) undef).getD t undef = vs[t]'(by omega):=by
     rw [Array.getD_eq_getD_getElem?,Array.getElem?_append_left (by simp; omega)]
     simp [h2]
    rw [e]
    exact Env.Aj (hv t _ _ h1 h2)
   ·rw [List.getElem?_eq_none (by omega)]
    exact Env.top _
  ·obtain ⟨φ,hφ⟩:=h1.Ac
   exact ⟨φ,hφ.congr λ_=>rfl⟩
 have hbase : CN w0 F M β w1 F M1 β:=⟨⟨hb1.stp.os,hb1.stp.tape,hb1.stp.output,hb1.stp.size,hb1.stp.block,Af.refl _,λ_ _ _ _=>rfl⟩,hb1.new,As.refl _,hb1.mark⟩
 have hSM : Ax fn.ntmps w0 F M β ⟨DT 0 ds,σ.o,σ.n⟩ F β { tmps:=vs.toArray ++ Array.replicate (fn.ntmps - vs.toArray.size) undef,defers:=[] } w :=
  ⟨w1,F,M1,β,hbase,hS,λg v o hg h0=>by
   obtain ⟨q1,b,q2,q3,q4,q5,q6,q7⟩:=hm1.at_ g v o hg h0
   exact ⟨q1,b,h1.nam _ _ q2,q3,q4,λi=>(h1.step.old b i q3 q4).trans (q5 i),q6,q7⟩,λg g' v v' o o' b hg hg' h0 h0' e1 e2=>by
   obtain ⟨_,b1,q2,_⟩:=hm1.at_ g v o hg h0
   obtain ⟨_,b2,q2',_⟩:=hm1.at_ g' v' o' hg' h0'
   have z1:=h1.nam _ _ q2
   have z2:=h1.nam _ _ q2'
   rw [e1] at z1; cases z1
   rw [e2] at z2; cases z2
   exact hm1.dis g g' v v' o o' b hg hg' h0 h0' q2 q2'⟩
 refine calls_of_wp hf hb ?_
 obtain ⟨F1,β1,hS1,hfr1⟩:=hSM.chg hfr hchg
 refine wp_mono (BG hΓ' c dc hc _ τ0 F1 β1 _ w hS1 hfr1 hw) λe a' w' hq=>?_
 obtain ⟨τ1,F2,β2,k1,k2,k3⟩:=hq
 have fin : Wk (λτ=>(Wo rs τ).1 /\ K (Wo rs τ).2 ⟨σ.e,τ.o,τ.n⟩) τ1 -> (a'.defers = [] /\ ∃ v,(results fn a'.tmps).run P w' = .ok v w' /\ ∃ v' d o' n' F' β',Ending.returned v = .returned v' /\ Ax N w0 F0' M B0 ⟨σ.e,o',n'⟩ F' β' a w' /\ (∀ v,n' <= v -> β' v = none) /\ Val F' β' d v' /\ K d ⟨σ.e,o',n'⟩):=by
  rintro ⟨τ,hc1,hr1,hk⟩
  obtain ⟨F',β',zM,z2⟩:=k1.chg k2 hc1
  obtain ⟨w2,F2',M2,B2,hb2,z1,hm2⟩:=zM
  have hall : ∀ r ∈ rs,((Pn r).run τ).1:=by
   unfold Wo at hr1
   split at hr1
   ·intro r hr; simp only [List.mem_singleton] at hr; subst hr; exact hr1
   ·exact hr1.1
  obtain ⟨xs,r1,r2,r3⟩:=BM (P:=P) z1 (fn:=fn) hr hall
  refine ⟨z1.defers,_,r1,_,(Wo rs τ).2,τ.o,τ.n,F',β',rfl,?_,z2,?_,hk⟩
  ·refine ⟨w2,F2',M2,B2,⟨⟨hb2.stp.os,hb2.stp.tape,hb2.stp.output,hb2.stp.size,hb2.stp.block,h.step.sub.trans hb2.stp.sub,λb i hb hM=>(hb2.stp.old b i hb hM).trans (h.step.old b i hb hM)⟩,hb2.new,h.nam.trans hb2.nam,hb2.mark⟩,?_,hm2.sub λg v o hg _=>hg⟩
   refine { nam:=z1.nam,size:=h.size,defers:=h.defers,env:=λt=>(h.env t).mono (hb2.stp.sub.trans z1.step.sub) (hb2.nam.trans z1.nam),own:=z1.own,dist:=z1.dist,sep:=z1.sep,Ac:=?_,frz:=z1.frz,fin:=z1.fin,step:=z1.step }
   obtain ⟨φ,hφ⟩:=z1.Ac
   exact ⟨φ,hφ.congr λ_=>rfl⟩
  ·unfold Wo at hr1 ⊢
   split
   ·rename_i r
    have hl1 : xs.length = 1:=by simpa using r2
    rw [dif_pos hl1]
    exact r3 0 r _ rfl (List.getElem?_eq_getElem (by omega))
   ·rename_i hne
    have hl1 : xs.length ≠ 1:=by
     intro e
     rw [r2] at e
     match rs,e with
     | [r],_=>exact hne r rfl
    rw [dif_neg hl1]
    split at hr1
    ·rename_i r; exact (hne r rfl).elim
    refine ⟨xs,rfl,by simp [r2],λj c x hj hx=>?_⟩
    have ht:=List.all_eq_true.1 hr1.2 c (List.mem_of_getElem? hj)
    rw [List.getElem?_map,Option.map_eq_some_iff] at hj
    obtain ⟨r,hj,rfl⟩:=hj
    exact Ll (r3 j r x hj hx) ht
 cases e with
 | normal=>exact fin k3
 | ret=>exact fin k3
 | exit id=>exact k3.elim
 | goto l=>exact k3.elim
 | panic ch=>exact k3.elim
 | outgrown=>exact k3.elim
end Go.Dw
namespace Go.Dw
section
variable {ι R : Type} {body : ι -> Option (ι ⊕ R)} {s : ι} {r r' : R} {n m : Nat}
def Abi (body : ι -> Option (ι ⊕ R)) : Nat -> ι -> Option R
 | 0,_=>none
 | n + 1,s=>match body s with
  | none=>none
  | some (.inr r)=>some r
  | some (.inl s')=>Abi body n s'
theorem SD : Abi body (n + 1) s = match body s with
  | none=>none
  | some (.inr r)=>some r
  | some (.inl s')=>Abi body n s':=rfl
theorem Eu : ∀ {n m : Nat} {s : ι},Abi body n s = some r -> n <= m -> Abi body m s = some r
 | 0,_,_,h,_=>by cases h
 | n + 1,0,_,_,h'=>by omega
 | n + 1,m + 1,s,h,h'=>by
  rw [SD] at h ⊢
  cases hb : body s with
  | none=>rw [hb] at h; cases h
  | some x =>
   rw [hb] at h
   cases x with
   | inr y=>exact h
   | inl s'=>exact Eu h (Nat.le_of_succ_le_succ h')
theorem Kj (h : Abi body n s = some r) (h' : Abi body m s = some r') : r = r':=by
 have h1:=Eu h (Nat.le_max_left n m)
 have h2:=Eu h' (Nat.le_max_right n m)
 rw [h1] at h2
 exact Option.some.inj h2
open Classical in
noncomputable def NY (body : ι -> Option (ι ⊕ R)) (s : ι) : Option R :=
 if h : ∃ r,∃ n,Abi body n s = some r then some (Classical.choose h) else none
theorem Aer : NY body s = some r ↔ ∃ n,Abi body n s = some r:=by
 unfold NY
 split
 ·rename_i h
  obtain ⟨n,hn⟩:=Classical.choose_spec h
  constructor
  ·intro e
   cases e
   exact ⟨n,hn⟩
  ·rintro ⟨m,hm⟩
   rw [Kj hn hm]
 ·rename_i h
  constructor
  ·intro e; cases e
  ·rintro ⟨n,hn⟩; exact (h ⟨r,n,hn⟩).elim
theorem AbX (body : ι -> Option (ι ⊕ R)) (s : ι) : NY body s = match body s with
  | none=>none
  | some (.inr r)=>some r
  | some (.inl s')=>NY body s':=by
 apply Option.ext
 intro r
 rw [Aer]
 cases hb : body s with
 | none =>
  simp only [reduceCtorEq,iff_false,not_exists]
  intro n hn
  cases n with
  | zero=>cases hn
  | succ n=>rw [SD,hb] at hn; cases hn
 | some x =>
  cases x with
  | inr y =>
   constructor
   ·rintro ⟨n,hn⟩
    cases n with
    | zero=>cases hn
    | succ n=>rw [SD,hb] at hn; exact hn
   ·intro e; exact ⟨1,by rw [SD,hb]; exact e⟩
  | inl s' =>
   simp only [Aer]
   constructor
   ·rintro ⟨n,hn⟩
    cases n with
    | zero=>cases hn
    | succ n=>rw [SD,hb] at hn; exact ⟨n,hn⟩
   ·rintro ⟨n,hn⟩; exact ⟨n + 1,by rw [SD,hb]; exact hn⟩
theorem ApL (I : ι -> Prop) (P : R -> Prop) (μ : ι -> Nat) (h0 : I s)
  (hb : ∀ s,I s -> (∃ s',body s = some (.inl s') /\ I s' /\ μ s' < μ s) \/ ∃ r,body s = some (.inr r) /\ P r) : ∃ r,NY body s = some r /\ P r:=by
 generalize hk : μ s = k
 induction k using Nat.strongRecOn generalizing s with
 | _ k ih =>
  rw [AbX]
  rcases hb s h0 with ⟨s',h1,h2,h3⟩ | ⟨r,h1,h2⟩
  ·rw [h1]
   exact ih (μ s') (by omega) h2 rfl
  ·rw [h1]
   exact ⟨r,rfl,h2⟩
end
def chk {R : Type} (p : Prop) [Decidable p] (t : Option R) : Option R:=if p then t else none
def ixO {α : Type} (l : List α) (i : Int) : Option α:=if i < 0 then none else l[i.toNat]?
def lft {ι R : Type} (t : Option R) : Option (ι ⊕ R):=t.map .inr
def cnt {ι R : Type} (s : ι) : Option (ι ⊕ R):=some (.inl s)
theorem Oj {R : Type} {p : Prop} [Decidable p] {t : Option R} (h : p) : chk p t = t:=if_pos h
theorem KO {R : Type} {p : Prop} [Decidable p] {t : Option R} {r : R} (h : chk p t = some r) : p /\ t = some r:=by
 unfold chk at h
 split at h
 ·exact ⟨‹_›,h⟩
 ·cases h
theorem Qh {α : Type} {l : List α} {i : Int} {x : α} (h : ixO l i = some x) : 0 <= i /\ i < l.length /\ l[i.toNat]? = some x:=by
 unfold ixO at h
 split at h
 ·cases h
 ·have:=(List.getElem?_eq_some_iff.1 h).1
  exact ⟨by omega,by omega,h⟩
section
variable {Γ : Ar} {R ι γ : Type}
def Has (σ : S) (E : List (Nat × D)) (O : List (Nat × Aa)) : Prop:=∃ n,Chg σ ⟨E,O,n⟩
def Tr (Γ : Ar) (c : QB) (K : R -> Au -> S -> Prop) (σ : S) (t : Option R) : Prop:=∀ r,t = some r -> DWp Γ c (K r) σ
def TrX (e : Au) (K : R -> Au -> S -> Prop) (σ : S) (t : Option R) : Prop:=∀ r,t = some r -> K r e σ
abbrev CG:=List Key × List Key × List Nat
structure KR (R : Type) where
 N : Nat
 K : R -> Au -> S -> Prop
def TrO (Γ : Ar) (ops : List At) (nv : Nat) (σ : S) (d : Bool) (acc : List CG) (K : KR R) (t : Option R) : Prop :=
 ∀ r,t = some r -> (d = false -> wpS Γ ops nv σ (K.K r .normal)) /\ (d = true -> Dw.wpOps Γ ops nv σ (λτ=>K.K r .normal { τ with n:=K.N }) /\ Ef (acc ++ CK Γ ops nv σ) = true)
def HU (N : Nat) (K : R -> Au -> S -> Prop) : KR R:=⟨N,K⟩
def HV (Γ : Ar) (b : QB) (K : R -> Au -> S -> Prop) : R -> Au -> S -> Prop:=λr=>Au.then (Wk (DWp Γ b (K r))) (K r)
def Ga (id : Nat) (K : R -> Au -> S -> Prop) : R -> Au -> S -> Prop:=λr=>Au.inBlock id (K r)
def HT (E : ι -> γ -> List (Nat × D)) (O : ι -> γ -> List (Nat × Aa)) (j : ι -> Option R) (K : R -> Au -> S -> Prop) : R -> Au -> S -> Prop:=λr e τ =>
 match e with
 | .normal=>∃ s g,j s = some r /\ Has τ (E s g) (O s g)
 | e=>K r e τ
def Dc (id : Nat) (E : ι -> γ -> List (Nat × D)) (O : ι -> γ -> List (Nat × Aa)) (j : ι -> Option R) (K : R -> Au -> S -> Prop) : R -> Au -> S -> Prop:=λr e τ =>
 match e with
 | .normal=>∃ s g,j s = some r /\ Has τ (E s g) (O s g)
 | .exit id'=>if id' = id then ∃ s g,j s = some r /\ Has τ (E s g) (O s g) else K r (.exit id') τ
 | .ret=>K r .ret τ
def GA (E : ι -> γ -> List (Nat × D)) (O : ι -> γ -> List (Nat × Aa)) (K : R -> Au -> S -> Prop) : (ι ⊕ R) -> Au -> S -> Prop:=λx e τ =>
 match x,e with
 | .inl s,.normal=>∃ g,Has τ (E s g) (O s g)
 | .inl _,_=>False
 | .inr _,.normal=>False
 | .inr r,e=>K r e τ
theorem GQ : ∀ (ops : List At) (nv : Nat) (σ : S) (K K' : S -> Prop),(∀ τ,K τ -> K' τ) -> Dw.wpOps Γ ops nv σ K -> Dw.wpOps Γ ops nv σ K'
 | [],_,_,_,_,hK,h=>hK _ h
 | _ :: ops,_,_,_,_,hK,h=>⟨h.1,GQ ops _ _ _ _ hK h.2⟩
theorem Wk.mono {f g : S -> Prop} (h : ∀ τ,f τ -> g τ) {σ : S} : Wk f σ -> Wk g σ:=λ⟨τ,h1,h2⟩=>⟨τ,h1,h τ h2⟩
theorem JN {o : At} {σ : S} {K K' : S -> Prop} (hK : ∀ τ,K τ -> K' τ) : GR Γ o σ K -> GR Γ o σ K':=by
 rintro ⟨h1,fa,args,f,caps,sp,φ,K0,h2,h⟩
 exact ⟨h1,fa,args,f,caps,sp,φ,K0,λτ hτ=>hK τ (h2 τ hτ),h⟩
theorem Km {o : At} {σ : S} {K K' : S -> Prop} (hK : ∀ τ,K τ -> K' τ) : JE o σ K -> JE o σ K':=by
 rintro ⟨h1,h2,t,h3,h5⟩
 exact ⟨h1,h2,t,h3,hK _ h5⟩
theorem EC : ∀ (ops : List At) (nv : Nat) (σ : S) (K K' : S -> Prop),(∀ τ,K τ -> K' τ) -> wpS Γ ops nv σ K -> wpS Γ ops nv σ K'
 | [],_,_,_,_,hK,h=>hK _ h
 | _ :: ops,_,_,_,_,hK,h=>h.imp (λh=>⟨h.1,EC ops _ _ _ _ hK h.2⟩) (Or.imp (Wk.mono λ_=>JN λ_ ⟨τ,h1,h2⟩=>⟨τ,h1,EC ops _ _ _ _ hK h2⟩) (Wk.mono λ_=>Km λ_ ⟨τ,h1,h2⟩=>⟨τ,h1,EC ops _ _ _ _ hK h2⟩))
theorem Bp : ∀ (b : QB) (Q Q' : Au -> S -> Prop) (σ : S),(∀ e τ,Q e τ -> Q' e τ) -> DWp Γ b Q σ -> DWp Γ b Q' σ
 | .skip,_,_,_,h,hd=>h _ _ hd
 | .ret,_,_,_,h,hd=>h _ _ hd
 | .exit _,_,_,_,h,hd=>h _ _ hd
 | .reg ops d,_,_,_,h,hd=>Wk.mono (λτ hq=>by
   cases d with
   | true=>rw [if_pos rfl] at hq ⊢; exact ⟨GQ ops _ _ _ _ (λ_ hq=>h _ _ hq) hq.1,hq.2⟩
   | false=>rw [if_neg (by simp)] at hq ⊢; exact EC ops _ _ _ _ (λ_ hq=>h _ _ hq) hq) hd
 | .seq a b,Q,Q',σ,h,hd=>Bp a _ _ σ (λe τ hq=>by
   cases e with
   | normal=>exact Wk.mono (λτ' h'=>Bp b _ _ τ' h h') hq
   | exit id=>exact h _ _ hq
   | ret=>exact h _ _ hq) hd
 | .cond c a b,Q,Q',σ,h,hd=>by
  simp only [DWp] at hd ⊢
  generalize CY σ c = d at *
  cases d <;> try exact hd.elim
  exact ⟨λht=>Bp a _ _ σ h (hd.1 ht),λht=>Bp b _ _ σ h (hd.2 ht)⟩
 | .block id b,Q,Q',σ,h,hd=>Bp b _ _ σ (λe τ hq=>by
   cases e with
   | normal=>exact h _ _ hq
   | ret=>exact h _ _ hq
   | exit id' =>
    simp only [Au.inBlock] at hq ⊢
    split
    ·rename_i e; rw [if_pos e] at hq; exact Wk.mono (λτ' h'=>h _ _ h') hq
    ·rename_i e; rw [if_neg e] at hq; exact h _ _ hq) hd
 | .loop b,Q,Q',σ,h,⟨ι,St,μ,i₀,h1,h2⟩=>⟨ι,St,μ,i₀,h1,λi=>Bp b _ _ _ (λe τ hq=>by
   cases e with
   | normal=>exact hq
   | exit id=>exact h _ _ hq
   | ret=>exact h _ _ hq) (h2 i)⟩
variable {K : R -> Au -> S -> Prop} {t t1 t2 : Option R} {e : List (Nat × D)} {o : List (Nat × Aa)} {n N nv : Nat} {σ τ : S} {a b : QB}
theorem KB {ops : List At} {d : Bool} (h : TrO Γ ops n ⟨e,o,n⟩ d [] (HU (n + ops.length) K) t) : Tr Γ (.reg ops d) K ⟨e,o,n⟩ t :=
 λr hr=>⟨_,.refl _,by
  cases d with
  | true=>rw [if_pos rfl]; exact (h r hr).2 rfl
  | false=>rw [if_neg (by simp)]; exact (h r hr).1 rfl⟩
theorem Jn {acc : List CG} (h : TrX .normal K ⟨e,o,nv⟩ t) : TrO Γ [] nv ⟨e,o,n⟩ false acc (HU N K) t :=
 λr hr=>⟨λ_=>h r hr,λhd=>by cases hd⟩
theorem Fj {acc : List CG} (ha : Ef acc = true) (h : TrX .normal K ⟨e,o,N⟩ t) : TrO Γ [] nv ⟨e,o,n⟩ true acc (HU N K) t :=
 λr hr=>⟨λhd=>(by cases hd),λ_=>⟨h r hr,by simpa [CK] using ha⟩⟩
def TrE (Γ : Ar) (c : QB) (K : R -> Au -> S -> Prop) (σ : S) (t : Option R) : Prop:=∀ r,t = some r -> Wk (DWp Γ c (K r)) σ
theorem Ni (h : Tr Γ a K σ t) : TrE Γ a K σ t:=λr hr=>⟨_,.refl _,h r hr⟩
theorem KE (h : Tr Γ a (HV Γ b K) σ t) : Tr Γ (.seq a b) K σ t:=h
theorem Jp (h : Tr Γ b K τ t) : TrX .normal (HV Γ b K) τ t:=λr hr=>⟨_,.refl _,h r hr⟩
theorem QA {E : List (Nat × D)} {O : List (Nat × Aa)} (hh : Has τ E O) (h : ∀ n,Tr Γ b K ⟨E,O,n⟩ t) : TrX .normal (HV Γ b K) τ t :=
 λr hr=>hh.elim λn hh=>⟨_,hh,h n r hr⟩
theorem Fq {id : Nat} (h : TrX (.exit id) K τ t) : TrX (.exit id) (HV Γ b K) τ t:=h
theorem FW (h : TrX .ret K τ t) : TrX .ret (HV Γ b K) τ t:=h
theorem Io {id : Nat} (h : Tr Γ b (Ga id K) σ t) : Tr Γ (.block id b) K σ t:=h
theorem Eo {id : Nat} (h : TrX .normal K τ t) : TrX .normal (Ga id K) τ t:=h
theorem FU {id : Nat} (h : TrX .ret K τ t) : TrX .ret (Ga id K) τ t:=h
theorem Fm {id : Nat} (h : TrX .normal K τ t) : TrX (.exit id) (Ga id K) τ t :=
 λr hr=>by
  show (if id = id then Wk (K r .normal) τ else K r (.exit id) τ)
  rw [if_pos rfl]
  exact ⟨_,.refl _,h r hr⟩
theorem Fl {id id' : Nat} (hne : Nat.beq id' id = false) (h : TrX (.exit id') K τ t) : TrX (.exit id') (Ga id K) τ t :=
 λr hr=>by
  show (if id' = id then Wk (K r .normal) τ else K r (.exit id') τ)
  rw [if_neg (λe=>by subst e; simp at hne)]
  exact h r hr
theorem Jr (h : TrX .normal K σ t) : Tr Γ .skip K σ t:=h
theorem KC (h : TrX .ret K σ t) : Tr Γ .ret K σ t:=h
theorem Jq {id : Nat} (h : TrX (.exit id) K σ t) : Tr Γ (.exit id) K σ t:=h
def NW {α : Type} : List (Nat × α) -> Nat -> Option α
 | [],_=>none
 | (k,x) :: r,t=>bif Nat.beq t k then some x else NW r t
theorem BC {α : Type} : ∀ (l : List (Nat × α)) (t : Nat),NW l t = look l t
 | [],_=>rfl
 | (k,x) :: r,t=>by
  simp only [NW,look,BC r t]
  by_cases h : t = k
  ·subst h; simp
  ·have : Nat.beq t k = false:=by
    cases hb : Nat.beq t k
    ·rfl
    ·exact absurd (Nat.eq_of_beq_eq_true hb) h
   simp [h,this]
def Ab (e : List (Nat × D)) : Arg -> Option D
 | .t n=>NW e n
 | .c d=>some d
theorem AaT {x : Arg} {c : Bool} (hx : Ab e x = some (.bool c)) (h1 : Tr Γ a K ⟨e,o,n⟩ t1) (h2 : Tr Γ b K ⟨e,o,n⟩ t2) : Tr Γ (.cond x a b) K ⟨e,o,n⟩ (bif c then t1 else t2):=by
 intro r hr
 have hv : CY ⟨e,o,n⟩ x = .bool c:=by cases x <;> simp_all [Ab,CY,S.ge,BC]
 simp only [DWp,hv]
 cases c with
 | true=>exact ⟨λ_=>h1 r hr,λh=>by cases h⟩
 | false=>exact ⟨λh=>(by cases h),λ_=>h2 r hr⟩
theorem Fs {x : Arg} (hx : Ab e x = some (.bool true)) (h1 : Tr Γ a K ⟨e,o,n⟩ t) : Tr Γ (.cond x a b) K ⟨e,o,n⟩ t:=by
 intro r hr
 have hv : CY ⟨e,o,n⟩ x = .bool true:=by cases x <;> simp_all [Ab,CY,S.ge,BC]
 simp only [DWp,hv]
 exact ⟨λ_=>h1 r hr,λh=>(by cases h)⟩
theorem EO {x : Arg} (hx : Ab e x = some (.bool false)) (h1 : Tr Γ b K ⟨e,o,n⟩ t) : Tr Γ (.cond x a b) K ⟨e,o,n⟩ t:=by
 intro r hr
 have hv : CY ⟨e,o,n⟩ x = .bool false:=by cases x <;> simp_all [Ab,CY,S.ge,BC]
 simp only [DWp,hv]
 exact ⟨λh=>(by cases h),λ_=>h1 r hr⟩
variable {E : ι -> γ -> List (Nat × D)} {O : ι -> γ -> List (Nat × Aa)} {j : ι -> Option R}
theorem Xc (h1 : Tr Γ a (HT E O j K) σ t) (h2 : ∀ s g n,Tr Γ b K ⟨E s g,O s g,n⟩ (j s)) : Tr Γ (.seq a b) K σ t:=by
 intro r hr
 refine Bp a _ _ σ (λe τ hq=>?_) (h1 r hr)
 cases e with
 | normal =>
  obtain ⟨s,g,hj,m,hw⟩:=hq
  exact ⟨_,hw,h2 s g _ r hj⟩
 | exit id=>exact hq
 | ret=>exact hq
theorem ME {s : ι} (g : γ) (h : Has τ (E s g) (O s g)) : TrX .normal (HT E O j K) τ (j s):=λ_ hr=>⟨s,g,hr,h⟩
theorem Fo {id : Nat} (h : TrX (.exit id) K τ t) : TrX (.exit id) (HT E O j K) τ t:=h
theorem FV (h : TrX .ret K τ t) : TrX .ret (HT E O j K) τ t:=h
theorem Wp {id : Nat} {c : QB} (h1 : Tr Γ b (Dc id E O j K) σ t) (h2 : ∀ s g n,Tr Γ c K ⟨E s g,O s g,n⟩ (j s)) : Tr Γ (.seq (.block id b) c) K σ t:=by
 intro r hr
 refine Bp b _ _ σ (λe τ hq=>?_) (h1 r hr)
 cases e with
 | normal =>
  obtain ⟨s,g,hj,m,hw⟩:=hq
  exact ⟨_,hw,h2 s g _ r hj⟩
 | exit id' =>
  simp only [Dc] at hq
  simp only [Au.inBlock]
  split
  ·rename_i e
   rw [if_pos e] at hq
   obtain ⟨s,g,hj,m,hw⟩:=hq
   exact ⟨_,hw,_,.refl _,h2 s g _ r hj⟩
  ·rename_i e
   rw [if_neg e] at hq
   exact hq
 | ret=>exact hq
theorem Vp {id : Nat} {s : ι} (g : γ) (h : Has τ (E s g) (O s g)) : TrX .normal (Dc id E O j K) τ (j s):=λ_ hr=>⟨s,g,hr,h⟩
theorem HA {id : Nat} {s : ι} (g : γ) (h : Has τ (E s g) (O s g)) : TrX (.exit id) (Dc id E O j K) τ (j s):=λr hr=>by
 show (if id = id then _ else _)
 rw [if_pos rfl]
 exact ⟨s,g,hr,h⟩
theorem EM {id id' : Nat} (hne : Nat.beq id' id = false) (h : TrX (.exit id') K τ t) : TrX (.exit id') (Dc id E O j K) τ t:=λr hr=>by
 show (if id' = id then _ else _)
 rw [if_neg (λe=>by subst e; simp at hne)]
 exact h r hr
theorem Fk {id : Nat} (h : TrX .ret K τ t) : TrX .ret (Dc id E O j K) τ t:=h
theorem Agb {s : ι} (g : γ) (h : Has τ (E s g) (O s g)) : TrX .normal (GA E O K) τ (cnt s):=λr hr=>by
 cases hr
 exact ⟨g,h⟩
theorem EN {id : Nat} (h : TrX (.exit id) K τ t) : TrX (.exit id) (GA E O K) τ (lft t):=λr hr=>by
 cases t with
 | none=>cases hr
 | some x=>cases hr; exact h x rfl
theorem Fp (h : TrX .ret K τ t) : TrX .ret (GA E O K) τ (lft t):=λr hr=>by
 cases t with
 | none=>cases hr
 | some x=>cases hr; exact h x rfl
theorem Acw {body : ι -> Option (ι ⊕ R)} {s : ι} (g : γ) (h0 : Has ⟨e,o,n⟩ (E s g) (O s g)) (hb : ∀ s g n,Tr Γ b (GA E O K) ⟨E s g,O s g,n⟩ (body s)) : Tr Γ (.loop b) K ⟨e,o,n⟩ (NY body s):=by
 intro r hr
 obtain ⟨k,hk⟩:=Aer.1 hr
 refine ⟨{ x : (ι × γ × Nat) × Nat // Abi body x.2 x.1.1 = some r },λx=>⟨E x.1.1.1 x.1.1.2.1,O x.1.1.1 x.1.1.2.1,x.1.1.2.2⟩,λx=>x.1.2,⟨((s,g,h0.choose),k),hk⟩,h0.choose_spec,?_⟩
 rintro ⟨⟨⟨s,g,n⟩,k⟩,hk⟩
 simp only at hk
 cases k with
 | zero=>cases hk
 | succ k =>
  rw [SD] at hk
  cases hx : body s with
  | none=>rw [hx] at hk; cases hk
  | some x =>
   rw [hx] at hk
   refine Bp b _ _ _ (λe τ hq=>?_) (hb s g n x hx)
   cases x with
   | inr r' =>
    cases hk
    cases e with
    | normal=>exact hq.elim
    | exit id=>exact hq
    | ret=>exact hq
   | inl s' =>
    cases e with
    | normal =>
     obtain ⟨g',m,hw⟩:=hq
     exact ⟨⟨((s',g',m),k),hk⟩,Nat.lt_succ_self _,hw⟩
    | exit id=>exact hq.elim
    | ret=>exact hq.elim
end
end Go.Dw
namespace Go.Dw
def rdK : Arg -> List Key
 | .t n=>[.e n]
 | .c _=>[]
def lkO (o : List (Nat × Aa)) (g : Nat) : Aa:=(NW o g).getD none
def gOn (e : List (Nat × D)) : Option (Nat × Bool) -> Bool
 | none=>true
 | some (t,want)=>match (NW e t).getD .top with
  | .bool b=>b == want
  | .when p (.bool b)=>p && (b == want)
  | _=>false
def ML (e : List (Nat × D)) : Option (Nat × Bool) -> Bool
 | none=>false
 | some (t,want)=>match (NW e t).getD .top with
  | .bool b=>!(b == want)
  | .when p (.bool b)=>!(p && (b == want))
  | _=>false
def gK : Option (Nat × Bool) -> List Key
 | none=>[]
 | some (t,_)=>[.e t]
section
variable {Γ : Ar} {X : Type} {K : KR X} {t t1 t2 : Option X} {e : List (Nat × D)} {o : List (Nat × Aa)} {n nv : Nat} {d : Bool} {acc : List CG}
 {r : List At} {dst : Nat} {g : Option (Nat × Bool)} {af : List Nat} {α : Type}
@[simp] theorem Bj (x : Arg) : (raw x).run ⟨e,o,n⟩ = (Ab e x).getD .top:=by cases x <;> simp [raw,Ab,BC,S.ge]
@[simp] theorem EX (x : Arg) : (raw x).rd ⟨e,o,n⟩ = rdK x:=by cases x <;> rfl
@[simp] theorem AN (i : Nat) : (S.mk e o n).go i = lkO o i:=by simp [S.go,lkO,BC]
@[simp] theorem Ay (x : Arg) : (rdA x).run ⟨e,o,n⟩ = strip ((Ab e x).getD .top):=by simp [rdA]
@[simp] theorem CC (x : Arg) : (rdA x).rd ⟨e,o,n⟩ = rdK x:=by simp [rdA]
theorem PI {α : Type} {ops : List At} {σ : S} {m : Option α} {k : α -> Option X} (h : ∀ x,m = some x -> TrO Γ ops nv σ d acc K (k x)) : TrO Γ ops nv σ d acc K (m.bind k):=by
 intro r hr
 obtain ⟨x,hx,hk⟩:=Option.bind_eq_some_iff.1 hr
 exact h x hx r hk
theorem OV {ops : List At} {σ : S} {p : Prop} [Decidable p] (h : p -> TrO Γ ops nv σ d acc K t) : TrO Γ ops nv σ d acc K (chk p t):=by
 intro r hr
 obtain ⟨hp,ht⟩:=KO hr
 exact h hp r ht
theorem Aq {dst : Option Nat} {op : DOp} {c : Prop} {we : List (Nat × D)} {wo : List (Nat × Aa)} {rd : List Key} (hg : gOn e g = true)
  (hu : (evalOp Γ nv dst op).run ⟨e,o,n⟩ = ⟨c,we,wo⟩) (hrd : (evalOp Γ nv dst op).rd ⟨e,o,n⟩ = rd) (hc : c)
  (h : TrO Γ r (nv + 1) ⟨we ++ e,wo ++ o,n⟩ d (acc ++ [(gK g ++ rd,we.map (λx=>.e x.1) ++ wo.map (λx=>.o x.1),af)]) K t) :
  TrO Γ (⟨dst,op,g,af⟩ :: r) nv ⟨e,o,n⟩ d acc K t:=by
 intro x hx
 obtain ⟨h1,h2⟩:=h x hx
 have key : ((Ap Γ nv ⟨dst,op,g,af⟩).run ⟨e,o,n⟩).c /\ ((Ap Γ nv ⟨dst,op,g,af⟩).run ⟨e,o,n⟩).we = we /\ ((Ap Γ nv ⟨dst,op,g,af⟩).run ⟨e,o,n⟩).wo = wo /\
   (Ap Γ nv ⟨dst,op,g,af⟩).rd ⟨e,o,n⟩ = gK g ++ rd:=by
  cases g with
  | none =>
   simp only [Ap,hu,hrd,gK]
   exact ⟨hc,trivial,trivial,rfl⟩
  | some p =>
   obtain ⟨tt,want⟩:=p
   have hg2 : (guardOf ((S.mk e o n).ge tt) want).2 = true /\ (guardOf ((S.mk e o n).ge tt) want).1:=by
    simp only [gOn,BC] at hg
    simp only [S.ge]
    generalize (look e tt).getD .top = dd at *
    cases dd <;> simp_all [guardOf]
    rename_i p dd
    cases dd <;> simp_all
   simp only [Ap,R.Ih,R.Nq,hg2.1,if_true,R.run_bind,R.Bk,R.run_pure,R.CD,hu,hrd,gK]
   exact ⟨⟨hg2.2,hc⟩,trivial,trivial,by simp⟩
 obtain ⟨k1,k2,k3,k4⟩:=key
 have happ : (S.mk e o n).app ((Ap Γ nv ⟨dst,op,g,af⟩).run ⟨e,o,n⟩) = ⟨we ++ e,wo ++ o,n⟩:=by simp [S.app,k2,k3]
 refine ⟨λhd=>.inl ⟨k1,by rw [happ]; exact h1 hd⟩,λhd=>⟨⟨k1,by rw [happ]; exact (h2 hd).1⟩,?_⟩⟩
 have:=(h2 hd).2
 simp only [CK,k2,k3,k4,happ]
 simpa using this
theorem Jo {op : DOp} (hg : ML e g = true)
  (h : TrO Γ r (nv + 1) ⟨(dst,.when false (.bool false)) :: e,o,n⟩ d (acc ++ [(gK g,[.e dst],af)]) K t) : TrO Γ (⟨some dst,op,g,af⟩ :: r) nv ⟨e,o,n⟩ d acc K t:=by
 intro x hx
 obtain ⟨h1,h2⟩:=h x hx
 cases g with
 | none=>cases hg
 | some p =>
  obtain ⟨tt,want⟩:=p
  have hg2 : (guardOf ((S.mk e o n).ge tt) want).2 = false /\ (guardOf ((S.mk e o n).ge tt) want).1:=by
   simp only [ML,BC] at hg
   simp only [S.ge]
   generalize (look e tt).getD .top = dd at *
   cases dd with
   | bool b=>simp_all [guardOf]
   | when p dd =>
    cases dd with
    | bool b=>cases p <;> simp_all [guardOf]
    | _=>simp at hg
   | _=>simp at hg
  have hu : (Ap Γ nv ⟨some dst,op,some (tt,want),af⟩).run ⟨e,o,n⟩ = ⟨(guardOf ((S.mk e o n).ge tt) want).1,[(dst,.when false (.bool false))],[]⟩:=by
   simp [Ap,hg2.1,Ae]
  have hr : (Ap Γ nv ⟨some dst,op,some (tt,want),af⟩).rd ⟨e,o,n⟩ = [.e tt]:=by
   simp [Ap,hg2.1]
  refine ⟨λhd=>.inl ⟨by rw [hu]; exact hg2.2,by rw [hu]; exact h1 hd⟩,λhd=>⟨⟨by rw [hu]; exact hg2.2,by rw [hu]; exact (h2 hd).1⟩,?_⟩⟩
  have:=(h2 hd).2
  simp only [CK,hu,hr]
  simpa [gK,S.app] using this
def DG : List (Nat × D) -> Nat -> D -> List (Nat × D)
 | [],_,_=>[]
 | (k,y) :: r,t,v=>bif Nat.beq t k then (k,v) :: r else (k,y) :: DG r t v
theorem DX : ∀ {e : List (Nat × D)} {x : Nat} {v : D},NW e x = some v -> DG e x v = e
 | [],_,_,h=>by cases h
 | (k,y) :: r,x,v,h=>by
  simp only [NW] at h
  simp only [DG]
  cases hb : Nat.beq x k with
  | true =>
   rw [hb] at h
   cases h
   rfl
  | false =>
   rw [hb] at h
   simp only [cond_false] at h ⊢
   rw [DX h]
theorem Kz {ops : List At} (x : Nat) {b : Bool} (hx : NW e x = some (.bool b)) (h1 : TrO Γ ops nv ⟨DG e x (.bool true),o,n⟩ d acc K t1) (h2 : TrO Γ ops nv ⟨DG e x (.bool false),o,n⟩ d acc K t2) :
  TrO Γ ops nv ⟨e,o,n⟩ d acc K (bif b then t1 else t2):=by
 cases b with
 | true=>rw [DX hx] at h1; exact h1
 | false=>rw [DX hx] at h2; exact h2
variable {x y : Arg} {v w : D} {k k' : IntKind} {a b : Int} {s ty gi vi ii off m : Nat} {fz var : Bool} {es : List D} {z z' : D} {l l' : List α} {en : α -> D}
attribute [local simp] evalOp Ae AD Bu strip QE
theorem Ck (p q u w : Nat) : strip (.optr p q u w) = (true,.optr p q u w):=rfl
theorem Dx (p : Bool) : strip (.bool p) = (true,.bool p):=rfl
theorem Ky (hg : gOn e g = true) (hx : Ab e x = some v) (h : TrO Γ r (nv + 1) ⟨(dst,v) :: e,o,n⟩ d (acc ++ [(gK g ++ rdK x,[.e dst],af)]) K t) :
  TrO Γ (⟨some dst,.mv x,g,af⟩ :: r) nv ⟨e,o,n⟩ d acc K t :=
 Aq hg (c:=True) (we:=[(dst,v)]) (wo:=[]) (rd:=rdK x) (by simp [hx]) (by simp) trivial h
theorem Jd (hg : gOn e g = true) (hx : Ab e x = some v) (h : TrO Γ r (nv + 1) ⟨(dst,v) :: e,o,n⟩ d (acc ++ [(gK g ++ rdK x,[.e dst],af)]) K t) :
  TrO Γ (⟨some dst,.asg x none,g,af⟩ :: r) nv ⟨e,o,n⟩ d acc K t :=
 Aq hg (c:=True) (we:=[(dst,v)]) (wo:=[]) (rd:=rdK x) (by cases v <;> simp [hx]) (by cases v <;> simp [hx]) trivial h
theorem Iu (hg : gOn e g = true) (en : α -> D) (hx : Ab e x = some .nils) (h : TrO Γ r (nv + 1) ⟨(dst,.osl dst nv 0 ([] : List α).length) :: e,(dst,some (nv,⟨false,false,s,ty,([] : List α).map en⟩)) :: o,n⟩ d (acc ++ [(gK g ++ rdK x,[.e dst,.o dst],af)]) K t) :
  TrO Γ (⟨some dst,.asg x (some (s,ty)),g,af⟩ :: r) nv ⟨e,o,n⟩ d acc K t :=
 Aq hg (c:=True) (we:=[(dst,.osl dst nv 0 0)]) (wo:=[(dst,some (nv,⟨false,false,s,ty,[]⟩))]) (rd:=rdK x) (by simp [hx]) (by simp [hx]) trivial h
theorem GL (hg : gOn e g = true) (hx : Ab e x = some (.sl es)) (h : TrO Γ r (nv + 1) ⟨(dst,.sl es) :: e,o,n⟩ d (acc ++ [(gK g ++ rdK x,[.e dst],af)]) K t) :
  TrO Γ (⟨some dst,.asg x (some (s,ty)),g,af⟩ :: r) nv ⟨e,o,n⟩ d acc K t :=
 Aq hg (c:=True) (we:=[(dst,.sl es)]) (wo:=[]) (rd:=rdK x) (by simp [hx]) (by simp [hx]) trivial h
theorem FP {s' ty' q : Nat} (hq : q = l.length) (hg : gOn e g = true) (hx : Ab e x = some (.osl gi vi 0 q)) (ho : lkO o gi = some (vi,⟨false,false,s,ty,l.map en⟩))
  (h : TrO Γ r (nv + 1) ⟨(dst,.osl dst nv 0 l.length) :: e,(dst,some (nv,⟨false,false,s,ty,l.map en⟩)) :: (gi,none) :: o,n⟩ d (acc ++ [(gK g ++ (rdK x ++ [.o gi]),[.e dst,.o dst,.o gi],af)]) K t) (hrg : Ac gi = false:=by rfl) :
  TrO Γ (⟨some dst,.asg x (some (s',ty')),g,af⟩ :: r) nv ⟨e,o,n⟩ d acc K t :=
 Aq hg (c:=True) (we:=[(dst,.osl dst nv 0 l.length)]) (wo:=[(dst,some (nv,⟨false,false,s,ty,l.map en⟩)),(gi,none)]) (rd:=rdK x ++ [Key.o gi]) (by subst hq; simp [hx,ho,hrg,nmR,Cx]; exact List.take_of_length_le (by simp)) (by simp [hx,ho,hrg]) trivial h
theorem FO {s' ty' q : Nat} (hg : gOn e g = true) (hx : Ab e x = some (.osl gi vi 0 q)) (ho : lkO o gi = some (vi,⟨false,false,s,ty,l.map en⟩)) (hq : q <= l.length)
  (h : TrO Γ r (nv + 1) ⟨(dst,.osl dst nv 0 (l.take q).length) :: e,(dst,some (nv,⟨false,false,s,ty,(l.take q).map en⟩)) :: (gi,none) :: o,n⟩ d (acc ++ [(gK g ++ (rdK x ++ [.o gi]),[.e dst,.o dst,.o gi],af)]) K t) (hrg : Ac gi = false:=by rfl) :
  TrO Γ (⟨some dst,.asg x (some (s',ty')),g,af⟩ :: r) nv ⟨e,o,n⟩ d acc K t :=
 Aq hg (c:=True) (we:=[(dst,.osl dst nv 0 (l.take q).length)]) (wo:=[(dst,some (nv,⟨false,false,s,ty,(l.take q).map en⟩)),(gi,none)]) (rd:=rdK x ++ [Key.o gi]) (by simp [hx,ho,Nat.min_eq_left hq,hq,hrg,nmR,Cx]) (by simp [hx,ho,hrg]) trivial h
theorem GK {s' ty' q : Nat} (hq : q = l.length) (hg : gOn e g = true) (hx : Ab e x = some (.osl gi vi 0 q)) (ho : lkO o gi = some (vi,⟨true,false,s,ty,l.map en⟩))
  (h : TrO Γ r (nv + 1) ⟨(dst,.sl (l.map en)) :: e,o,n⟩ d (acc ++ [(gK g ++ (rdK x ++ [.o gi]),[.e dst],af)]) K t) :
  TrO Γ (⟨some dst,.asg x (some (s',ty')),g,af⟩ :: r) nv ⟨e,o,n⟩ d acc K t :=
 Aq hg (c:=True) (we:=[(dst,.sl (l.map en))]) (wo:=[]) (rd:=rdK x ++ [Key.o gi]) (by subst hq; simp [hx,ho]; exact List.take_of_length_le (by simp)) (by simp [hx,ho]) trivial h
def isB : Option D -> Bool
 | some (.bool _)=>true
 | some (.when _ (.bool _))=>true
 | _=>false
theorem Ki {x : Option D} (h : isB x = true) : ∃ (p q : Bool),strip (x.getD .top) = (p,.bool q):=by
 unfold isB at h
 split at h
 ·exact ⟨_,_,rfl⟩
 ·exact ⟨_,_,rfl⟩
 ·cases h
theorem EK {c : Arg} {p : Bool} (hg : gOn e g = true) (hc : Ab e c = some (.bool true)) (hx : Ab e x = some (.bool p)) (hy : isB (Ab e y) = true)
  (h : TrO Γ r (nv + 1) ⟨(dst,.bool p) :: e,o,n⟩ d (acc ++ [(gK g ++ (rdK c ++ (rdK x ++ rdK y)),[.e dst],af)]) K t) :
  TrO Γ (⟨some dst,.pick c x y,g,af⟩ :: r) nv ⟨e,o,n⟩ d acc K t:=by
 obtain ⟨b1,q,hq'⟩:=Ki hy
 refine Aq hg (c:=True) (we:=[(dst,.bool p)]) (wo:=[]) (rd:=rdK c ++ (rdK x ++ rdK y)) ?_ ?_ trivial h
 ·simp only [evalOp,R.run_bind,Ay,hc,hx,hq',Option.getD_some,Dx,R.run_pure,Ae]
  simp
 ·simp only [evalOp,R.Bk,Ay,CC,hc,hx,hq',Option.getD_some,Dx,R.CD,List.append_nil]
theorem En {c : Arg} {p : Bool} (hg : gOn e g = true) (hc : Ab e c = some (.bool false)) (hx : isB (Ab e x) = true) (hy : Ab e y = some (.bool p))
  (h : TrO Γ r (nv + 1) ⟨(dst,.bool p) :: e,o,n⟩ d (acc ++ [(gK g ++ (rdK c ++ (rdK x ++ rdK y)),[.e dst],af)]) K t) :
  TrO Γ (⟨some dst,.pick c x y,g,af⟩ :: r) nv ⟨e,o,n⟩ d acc K t:=by
 obtain ⟨b1,q,hq'⟩:=Ki hx
 refine Aq hg (c:=True) (we:=[(dst,.bool p)]) (wo:=[]) (rd:=rdK c ++ (rdK x ++ rdK y)) ?_ ?_ trivial h
 ·simp only [evalOp,R.run_bind,Ay,hc,hy,hq',Option.getD_some,Dx,R.run_pure,Ae]
  simp
 ·simp only [evalOp,R.Bk,Ay,CC,hc,hy,hq',Option.getD_some,Dx,R.CD,List.append_nil]
theorem Jm (hg : gOn e g = true) (h : TrO Γ r (nv + 1) ⟨(dst,.optr dst nv 0 0) :: e,(dst,some (nv,⟨false,true,s,ty,[z]⟩)) :: o,n⟩ d (acc ++ [(gK g ++ [],[.e dst,.o dst],af)]) K t) :
  TrO Γ (⟨some dst,.new z s ty,g,af⟩ :: r) nv ⟨e,o,n⟩ d acc K t :=
 Aq hg (c:=True) (we:=[(dst,.optr dst nv 0 0)]) (wo:=[(dst,some (nv,⟨false,true,s,ty,[z]⟩))]) (rd:=[]) (by simp) (by simp) trivial h
theorem Je (hg : gOn e g = true) (hx : Ab e x = some v) (hw : strip v = (true,v)) (hk : known v = true) (hl : (cells v).length = s)
  (h : TrO Γ r (nv + 1) ⟨(dst,.optr dst nv 0 0) :: e,(dst,some (nv,⟨false,true,s,ty,[v]⟩)) :: o,n⟩ d (acc ++ [(gK g ++ rdK x,[.e dst,.o dst],af)]) K t) :
  TrO Γ (⟨some dst,.box x s ty,g,af⟩ :: r) nv ⟨e,o,n⟩ d acc K t :=
 Aq hg (c:=True) (we:=[(dst,.optr dst nv 0 0)]) (wo:=[(dst,some (nv,⟨false,true,s,ty,[v]⟩))]) (rd:=rdK x) (by simp only [evalOp,R.run_bind,Ay,Option.getD_some,hx,hw,R.run_pure,hk,hl,Ae,AD,Option.getD_some]; simp) (by simp) trivial h
def Cf (e : List (Nat × D)) : List (Nat × Nat × Arg) -> List (Nat × Nat × D)
 | []=>[]
 | (a,b,x) :: r=>(a,b,(Ab e x).getD .top) :: Cf e r
def CS : List (Nat × Nat × Arg) -> List Key
 | []=>[]
 | (_,_,x) :: r=>rdK x ++ CS r
def Ei : Nat -> List (Nat × Nat × D) -> Bool
 | _,[]=>true
 | n,(off,s,d) :: r=>known d && (Nat.beq (cells d).length s && (Nat.ble (off + s) n && Ei n r))
theorem Gy : ∀ {n : Nat} {l : List (Nat × Nat × D)},Ei n l = true -> Eh n l
 | _,[],_=>trivial
 | n,(off,s,d) :: r,h=>by
  simp only [Ei,Bool.and_eq_true] at h
  exact ⟨h.1,Nat.eq_of_beq_eq_true h.2.1,Nat.le_of_ble_eq_true h.2.2.1,Gy h.2.2.2⟩
theorem FN : ∀ parts : List (Nat × Nat × Arg),(BR parts).run ⟨e,o,n⟩ = Cf e parts
 | []=>rfl
 | (a,b,x) :: r=>by simp [BR,Cf,FN r]
theorem GH : ∀ parts : List (Nat × Nat × Arg),(BR parts).rd ⟨e,o,n⟩ = CS parts
 | []=>rfl
 | (a,b,x) :: r=>by simp [BR,CS,GH r]
theorem MD {zs cs : List D} {parts : List (Nat × Nat × Arg)} {ps : List (Nat × Nat × D)} (hg : gOn e g = true) (hp : Cf e parts = ps) (hf : Ei zs.length ps = true) (hz : DM zs ps = cs)
  (h : TrO Γ r (nv + 1) ⟨(dst,.agg cs) :: e,o,n⟩ d (acc ++ [(gK g ++ CS parts,[.e dst],af)]) K t) :
  TrO Γ (⟨some dst,.bld zs parts,g,af⟩ :: r) nv ⟨e,o,n⟩ d acc K t :=
 Aq hg (c:=Eh zs.length ps) (we:=[(dst,.agg cs)]) (wo:=[]) (rd:=CS parts) (by simp [FN,hp,hz]) (by simp [GH]) (Gy hf) h
def HO (s len : Nat) (ps : List (Nat × D)) : Bool:=ps.all λp=>known p.2 && (Nat.beq (cells p.2).length s && Nat.blt p.1 len)
theorem Acu {c : Prop} {len : Nat} {parts : List (Nat × Arg)} {ps : List (Nat × D)} {wo : List (Nat × Aa)} {rk : List Key} (l : List α) (en : α -> D) (hg : gOn e g = true) (hr : (AL parts).run ⟨e,o,n⟩ = (c,ps,wo)) (hk : (AL parts).rd ⟨e,o,n⟩ = rk) (hc : c)
  (hp : HO s len ps = true) (hes : WB (List.replicate len z) ps = l.map en) (hlen : l.length = len)
  (h : TrO Γ r (nv + 1) ⟨(dst,.osl dst nv 0 l.length) :: e,(dst,some (nv,⟨false,false,s,ty,l.map en⟩)) :: (wo ++ o),n⟩ d (acc ++ [(gK g ++ rk,[.e dst,.o dst] ++ wo.map (λx=>.o x.1),af)]) K t) :
  TrO Γ (⟨some dst,.bldS s ty z len parts,g,af⟩ :: r) nv ⟨e,o,n⟩ d acc K t:=by
 have h1 : ∀ p ∈ ps,known p.2 = true /\ (cells p.2).length = s /\ p.1 < len:=by
  intro p hp'
  have:=List.all_eq_true.1 hp p hp'
  simp only [Bool.and_eq_true] at this
  exact ⟨this.1,Nat.eq_of_beq_eq_true this.2.1,by simpa using this.2.2⟩
 subst hlen
 exact Aq hg (c:=c /\ ∀ p ∈ ps,known p.2 = true /\ (cells p.2).length = s /\ p.1 < l.length) (we:=[(dst,.osl dst nv 0 l.length)]) (wo:=(dst,some (nv,⟨false,false,s,ty,l.map en⟩)) :: wo) (rd:=rk) (by simp [hr,hes]) (by simp [hk]) ⟨hc,h1⟩ (by simpa using h)
theorem CB {i : Nat} {q : α} (h : l[i]? = some q) : (l.map en)[i]? = some (en q):=by simp [h]
theorem CM {agg : Bool} {i : Nat} (hg : gOn e g = true) (hx : Ab e x = some (.optr gi vi i off)) (ho : lkO o gi = some (vi,⟨fz,var,s,ty,es⟩)) (hz : es[i]? = some z) (hb : Nat.ble (off + m) (cells z).length = true) (hv : QJ (cells z) off m agg = v)
  (h : TrO Γ r (nv + 1) ⟨(dst,v) :: e,o,n⟩ d (acc ++ [(gK g ++ (rdK x ++ [.o gi]),[.e dst],af)]) K t) (hpl : (plain v || !Ac gi) = true:=by rfl) :
  TrO Γ (⟨some dst,.ld m agg x,g,af⟩ :: r) nv ⟨e,o,n⟩ d acc K t:=by
 obtain ⟨hi,rfl⟩:=List.getElem?_eq_some_iff.1 hz
 have hb':=Nat.le_of_ble_eq_true hb
 have hgd : es.getD i .top = es[i]:=by simp [hi]
 refine Aq hg (c:=True) (we:=[(dst,v)]) (wo:=[]) (rd:=rdK x ++ [Key.o gi]) ?_ ?_ trivial h
 ·simp only [evalOp,R.run_bind,Ay,Option.getD_some,hx,strip,R.BI,AN,ho,Ae,hgd,hv]
  cases hrg : Ac gi with
  | false=>simp [hi,hb']
  | true=>cases v <;> first | (simp [hi,hb']; done) | (rw [hrg] at hpl; cases hpl)
 ·simp only [evalOp,R.Bk,Ay,CC,Option.getD_some,hx,strip,R.Dv,AN,ho,hgd,hv]
  cases hrg : Ac gi with
  | false=>simp
  | true=>cases v <;> first | (simp; done) | (rw [hrg] at hpl; cases hpl)
theorem Im {agg : Bool} (hg : gOn e g = true) (hx : Ab e x = some (.fptr z off)) (hb : Nat.ble (off + m) (cells z).length = true) (hv : QJ (cells z) off m agg = v)
  (h : TrO Γ r (nv + 1) ⟨(dst,v) :: e,o,n⟩ d (acc ++ [(gK g ++ rdK x,[.e dst],af)]) K t) :
  TrO Γ (⟨some dst,.ld m agg x,g,af⟩ :: r) nv ⟨e,o,n⟩ d acc K t:=by
 have hb':=Nat.le_of_ble_eq_true hb
 refine Aq hg (c:=True) (we:=[(dst,v)]) (wo:=[]) (rd:=rdK x) ?_ ?_ trivial h
 ·simp only [evalOp,R.run_bind,Ay,Option.getD_some,hx,strip,QE,R.AO,R.run_pure,Ae]
  simp [hb',hv]
 ·simp only [evalOp,R.Bk,Ay,CC,Option.getD_some,hx,strip,QE,R.Dh,R.CD]
  simp
theorem Dz (hg : gOn e g = true) (hx : Ab e x = some (.optr gi vi 0 off)) (hy : Ab e y = some v) (hw : strip v = (true,v)) (ho : lkO o gi = some (vi,⟨false,true,s,ty,[z]⟩)) (hk : known v = true) (hl : (cells v).length = m)
  (hb : Nat.ble (off + m) (cells z).length = true) (hz : Pl z off (cells v) = z')
  (h : TrO Γ r (nv + 1) ⟨e,(gi,some (vi,⟨false,true,s,ty,[z']⟩)) :: o,n⟩ d (acc ++ [(gK g ++ (rdK x ++ (rdK y ++ [.o gi])),[.o gi],af)]) K t) (hrg : Ac gi = false:=by rfl) :
  TrO Γ (⟨none,.st m x y,g,af⟩ :: r) nv ⟨e,o,n⟩ d acc K t:=by
 have hb':=Nat.le_of_ble_eq_true hb
 refine Aq hg (c:=True) (we:=[]) (wo:=[(gi,some (vi,⟨false,true,s,ty,[z']⟩))]) (rd:=rdK x ++ (rdK y ++ [Key.o gi])) ?_ ?_ trivial h
 ·simp only [evalOp,R.run_bind,Ay,Option.getD_some,hx,hy,hw,Ck,R.BI,AN,ho,R.AO,hrg,Bool.false_eq_true,if_false,if_true,hk,hl]
  simp [hb',hz]
 ·simp only [evalOp,R.Bk,Ay,CC,Option.getD_some,hx,hy,hw,Ck,R.Dv,AN,ho,R.Dh,hrg,Bool.false_eq_true,if_false,if_true]
theorem TH {i : Nat} {q q' : α} {c : Prop} {v' : D} {wo : List (Nat × Aa)} {rk : List Key} (hg : gOn e g = true) (hx : Ab e x = some (.optr gi vi i off)) (hy : Ab e y = some v) (hw : strip v = (true,v)) (ho : lkO o gi = some (vi,⟨false,false,s,ty,l.map en⟩))
  (hr : (res v).run ⟨e,o,n⟩ = (c,v',wo)) (hrd : (res v).rd ⟨e,o,n⟩ = rk) (hc : c) (hi : l[i]? = some q) (hk : known v' = true) (hl : (cells v').length = m) (hb : Nat.ble (off + m) (cells (en q)).length = true)
  (hz : Pl (en q) off (cells v') = en q') (hwo : wo.all (λx=>x.1 != gi) = true)
  (h : TrO Γ r (nv + 1) ⟨e,(gi,some (vi,⟨false,false,s,ty,(l.set i q').map en⟩)) :: (wo ++ o),n⟩ d (acc ++ [(gK g ++ (rdK x ++ (rdK y ++ (.o gi :: rk))),.o gi :: wo.map (λx=>.o x.1),af)]) K t) (hrg : Ac gi = false:=by rfl) :
  TrO Γ (⟨none,.st m x y,g,af⟩ :: r) nv ⟨e,o,n⟩ d acc K t:=by
 have hb':=Nat.le_of_ble_eq_true hb
 obtain ⟨hi',rfl⟩:=List.getElem?_eq_some_iff.1 hi
 refine Aq hg (c:=True) (we:=[]) (wo:=(gi,some (vi,⟨false,false,s,ty,(l.set i q').map en⟩)) :: wo) (rd:=rdK x ++ (rdK y ++ (Key.o gi :: rk))) ?_ ?_ trivial (by simpa using h)
 ·simp only [evalOp,R.run_bind,Ay,Option.getD_some,hx,hy,hw,Ck,R.BI,AN,ho,hrg,Bool.false_eq_true,if_false,hr,R.run_pure]
  have hq : (l.map en).getD i .top = en l[i]:=by simp [hi']
  rw [hq,hz]
  simp [hc,hi',hb',hk,hl,hwo,<- List.map_set]
 ·simp only [evalOp,R.Bk,Ay,CC,Option.getD_some,hx,hy,hw,Ck,R.Dv,AN,ho,hrg,Bool.false_eq_true,if_false,hrd,hr,R.CD]
  simp
theorem Hu (hg : gOn e g = true) (hx : Ab e x = some v) (hv : (match v with | .optr .. | .fptr ..=>true | _=>false) = true) (h : TrO Γ r (nv + 1) ⟨(dst,v) :: e,o,n⟩ d (acc ++ [(gK g ++ rdK x,[.e dst],af)]) K t) :
  TrO Γ (⟨some dst,.nilck x,g,af⟩ :: r) nv ⟨e,o,n⟩ d acc K t :=
 Aq hg (c:=True) (we:=[(dst,v)]) (wo:=[]) (rd:=rdK x) (by cases v <;> simp [hx] at hv ⊢) (by cases v <;> simp [hx] at hv ⊢) trivial h
theorem Fw {op : BinOp} {c : Prop} (hg : gOn e g = true) (hx : Ab e x = some (.int k a)) (hy : Ab e y = some (.int k' b)) (hb : GS op (.int k a) (.int k' b) = (c,v)) (hc : c)
  (h : TrO Γ r (nv + 1) ⟨(dst,v) :: e,o,n⟩ d (acc ++ [(gK g ++ (rdK x ++ rdK y),[.e dst],af)]) K t) :
  TrO Γ (⟨some dst,.bin op x y,g,af⟩ :: r) nv ⟨e,o,n⟩ d acc K t :=
 Aq hg (c:=c) (we:=[(dst,v)]) (wo:=[]) (rd:=rdK x ++ rdK y) (by simp [hx,hy,hb]) (by simp) hc h
theorem Df {op : BinOp} {c : Prop} {p q : List UInt8} (hg : gOn e g = true) (hx : Ab e x = some (.str p)) (hy : Ab e y = some (.str q)) (hb : GS op (.str p) (.str q) = (c,v)) (hc : c)
  (h : TrO Γ r (nv + 1) ⟨(dst,v) :: e,o,n⟩ d (acc ++ [(gK g ++ (rdK x ++ rdK y),[.e dst],af)]) K t) :
  TrO Γ (⟨some dst,.bin op x y,g,af⟩ :: r) nv ⟨e,o,n⟩ d acc K t :=
 Aq hg (c:=c) (we:=[(dst,v)]) (wo:=[]) (rd:=rdK x ++ rdK y) (by simp [hx,hy,hb]) (by simp) hc h
theorem Jh {neg p q : Bool} (hg : gOn e g = true) (hx : Ab e x = some (.bool p)) (hy : Ab e y = some (.bool q))
  (h : TrO Γ r (nv + 1) ⟨(dst,.bool (if neg then !(p == q) else (p == q))) :: e,o,n⟩ d (acc ++ [(gK g ++ (rdK x ++ rdK y),[.e dst],af)]) K t) :
  TrO Γ (⟨some dst,.eqB neg x y,g,af⟩ :: r) nv ⟨e,o,n⟩ d acc K t :=
 Aq hg (c:=True) (we:=[(dst,.bool (if neg then !(p == q) else (p == q)))]) (wo:=[]) (rd:=rdK x ++ rdK y) (by simp [hx,hy]) (by simp [hx,hy]) trivial h
theorem Jg {neg p : Bool} {c : Prop} {cs cs' : List D} (hg : gOn e g = true) (hx : Ab e x = some (.agg cs)) (hy : Ab e y = some (.agg cs')) (hq : eqL cs cs' = (c,p)) (hc : c) (hn : Nat.beq cs.length m = true)
  (h : TrO Γ r (nv + 1) ⟨(dst,.bool (if neg then !p else p)) :: e,o,n⟩ d (acc ++ [(gK g ++ (rdK x ++ rdK y),[.e dst],af)]) K t) :
  TrO Γ (⟨some dst,.eqA m neg x y,g,af⟩ :: r) nv ⟨e,o,n⟩ d acc K t:=by
 have hn':=Nat.eq_of_beq_eq_true hn
 exact Aq hg (c:=True) (we:=[(dst,.bool (if neg then !p else p))]) (wo:=[]) (rd:=rdK x ++ rdK y) (by simp [hx,hy,hq,hc,hn']) (by simp [hx,hy]) trivial h
theorem KA {op : UnOp} {c : Prop} (hg : gOn e g = true) (hx : Ab e x = some v) (hw : strip v = (true,v)) (hb : unD op v = (c,w)) (hc : c)
  (h : TrO Γ r (nv + 1) ⟨(dst,w) :: e,o,n⟩ d (acc ++ [(gK g ++ rdK x,[.e dst],af)]) K t) :
  TrO Γ (⟨some dst,.un op x,g,af⟩ :: r) nv ⟨e,o,n⟩ d acc K t :=
 Aq hg (c:=c) (we:=[(dst,w)]) (wo:=[]) (rd:=rdK x) (by simp only [evalOp,R.run_bind,Ay,Option.getD_some,hx,hw,hb,R.run_pure,Bu,Ae]; simp) (by simp) hc h
theorem Jf (hg : gOn e g = true) (hx : Ab e x = some (.int k' a)) (h : TrO Γ r (nv + 1) ⟨(dst,.int k (k.wrap a)) :: e,o,n⟩ d (acc ++ [(gK g ++ rdK x,[.e dst],af)]) K t) :
  TrO Γ (⟨some dst,.cvt k x,g,af⟩ :: r) nv ⟨e,o,n⟩ d acc K t :=
 Aq hg (c:=True) (we:=[(dst,.int k (k.wrap a))]) (wo:=[]) (rd:=rdK x) (by simp [hx]) (by simp [hx]) trivial h
theorem Ape {bytes : Nat} {q : α} (en : α -> D) (hg : gOn e g = true) (hx : Ab e x = some (.int k a)) (hy : Ab e y = some (.int k' a)) (hz : z = en q) (hl : 0 <= a /\ a <= 16777216) (hby : Nat.ble bytes 65536 = true)
  (h : TrO Γ r (nv + 1) ⟨(dst,.osl dst nv 0 (List.replicate a.toNat q).length) :: e,(dst,some (nv,⟨false,false,s,ty,(List.replicate a.toNat q).map en⟩)) :: o,n⟩ d (acc ++ [(gK g ++ (rdK x ++ rdK y),[.e dst,.o dst],af)]) K t) :
  TrO Γ (⟨some dst,.mkS s ty bytes z x y,g,af⟩ :: r) nv ⟨e,o,n⟩ d acc K t:=by
 have:=Nat.le_of_ble_eq_true hby
 subst hz
 exact Aq hg (c:=True) (we:=[(dst,.osl dst nv 0 (List.replicate a.toNat q).length)]) (wo:=[(dst,some (nv,⟨false,false,s,ty,(List.replicate a.toNat q).map en⟩))]) (rd:=rdK x ++ rdK y) (by simp [hx,hy,hl,this]) (by simp [hx,hy]) trivial h
theorem Ik (hg : gOn e g = true) {i : Nat} (hx : Ab e x = some (.optr gi vi i off)) (h : TrO Γ r (nv + 1) ⟨(dst,.optr gi vi i (off + m)) :: e,o,n⟩ d (acc ++ [(gK g ++ rdK x,[.e dst],af)]) K t) :
  TrO Γ (⟨some dst,.fldA m x,g,af⟩ :: r) nv ⟨e,o,n⟩ d acc K t :=
 Aq hg (c:=True) (we:=[(dst,.optr gi vi i (off + m))]) (wo:=[]) (rd:=rdK x) (by simp [hx]) (by simp [hx]) trivial h
theorem GM (hg : gOn e g = true) (hx : Ab e x = some (.fptr z off)) (h : TrO Γ r (nv + 1) ⟨(dst,.fptr z (off + m)) :: e,o,n⟩ d (acc ++ [(gK g ++ rdK x,[.e dst],af)]) K t) :
  TrO Γ (⟨some dst,.fldA m x,g,af⟩ :: r) nv ⟨e,o,n⟩ d acc K t :=
 Aq hg (c:=True) (we:=[(dst,.fptr z (off + m))]) (wo:=[]) (rd:=rdK x) (by simp [hx]) (by simp [hx]) trivial h
theorem Jj {cs : List D} {agg : Bool} (hg : gOn e g = true) (hx : Ab e x = some (.agg cs)) (hb : Nat.ble (off + m) cs.length = true) (hv : QJ cs off m agg = v)
  (h : TrO Γ r (nv + 1) ⟨(dst,v) :: e,o,n⟩ d (acc ++ [(gK g ++ rdK x,[.e dst],af)]) K t) :
  TrO Γ (⟨some dst,.fld off m agg x,g,af⟩ :: r) nv ⟨e,o,n⟩ d acc K t:=by
 have hb':=Nat.le_of_ble_eq_true hb
 exact Aq hg (c:=True) (we:=[(dst,v)]) (wo:=[]) (rd:=rdK x) (by simp [hx,hb',hv]) (by simp [hx]) trivial h
theorem Dy {q : α} (hg : gOn e g = true) (hx : Ab e x = some (.sl (l.map en))) (hy : Ab e y = some (.int k a)) (hi : ixO l a = some q) (hs : (cells (en q)).length = s)
  (h : TrO Γ r (nv + 1) ⟨(dst,.fptr (en q) 0) :: e,o,n⟩ d (acc ++ [(gK g ++ (rdK x ++ rdK y),[.e dst],af)]) K t) :
  TrO Γ (⟨some dst,.ixA s x y,g,af⟩ :: r) nv ⟨e,o,n⟩ d acc K t:=by
 obtain ⟨h0,h1,h2⟩:=Qh hi
 refine Aq hg (c:=True) (we:=[(dst,.fptr (en q) 0)]) (wo:=[]) (rd:=rdK x ++ rdK y) ?_ (by simp [hx,hy]) trivial h
 have hq : (l.map en).getD a.toNat .top = en q:=by simp [h2]
 simp only [evalOp,R.run_bind,Ay,Option.getD_some,hx,hy,strip,R.run_pure,Ae,hq,hs]
 simp [h0,h1]
theorem Aae {q : Nat} (hq : q = l.length) (hg : gOn e g = true) (hx : Ab e x = some (.osl gi vi 0 q)) (hy : Ab e y = some (.int k a)) (ho : lkO o gi = some (vi,⟨fz,false,s,ty,l.map en⟩)) (hi : 0 <= a /\ a < l.length)
  (h : TrO Γ r (nv + 1) ⟨(dst,.optr gi vi a.toNat 0) :: e,o,n⟩ d (acc ++ [(gK g ++ (rdK x ++ (rdK y ++ [.o gi])),[.e dst],af)]) K t) :
  TrO Γ (⟨some dst,.ixA s x y,g,af⟩ :: r) nv ⟨e,o,n⟩ d acc K t:=by
 subst hq
 refine Aq hg (c:=True) (we:=[(dst,.optr gi vi a.toNat 0)]) (wo:=[]) (rd:=rdK x ++ (rdK y ++ [Key.o gi])) ?_ (by simp [hx,hy,ho]) trivial h
 simp only [evalOp,R.run_bind,Ay,Option.getD_some,hx,hy,strip,R.BI,AN,ho,R.AO,Ae]
 simp [hi.1,hi.2]
theorem Ji {ds : List D} {i : Nat} (hg : gOn e g = true) (hx : Ab e x = some (.tup ds)) (hi : ds[i]? = some v) (h : TrO Γ r (nv + 1) ⟨(dst,v) :: e,o,n⟩ d (acc ++ [(gK g ++ rdK x,[.e dst],af)]) K t) :
  TrO Γ (⟨some dst,.ext x i,g,af⟩ :: r) nv ⟨e,o,n⟩ d acc K t:=by
 have hl:=(List.getElem?_eq_some_iff.1 hi).1
 exact Aq hg (c:=True) (we:=[(dst,v)]) (wo:=[]) (rd:=rdK x) (by have:=(List.getElem?_eq_some_iff.1 hi).2; simp [hx,hl,this]) (by simp [hx]) trivial h
theorem GO (hg : gOn e g = true) (hx : Ab e x = some (.sl (l.map en))) (h : TrO Γ r (nv + 1) ⟨(dst,.int .i64 l.length) :: e,o,n⟩ d (acc ++ [(gK g ++ rdK x,[.e dst],af)]) K t) :
  TrO Γ (⟨some dst,.len false x,g,af⟩ :: r) nv ⟨e,o,n⟩ d acc K t :=
 Aq hg (c:=True) (we:=[(dst,.int .i64 l.length)]) (wo:=[]) (rd:=rdK x) (by simp [hx]) (by simp [hx]) trivial h
theorem FR {i q : Nat} (hg : gOn e g = true) (hx : Ab e x = some (.osl gi vi i q)) (h : TrO Γ r (nv + 1) ⟨(dst,.int .i64 q) :: e,o,n⟩ d (acc ++ [(gK g ++ rdK x,[.e dst],af)]) K t) :
  TrO Γ (⟨some dst,.len false x,g,af⟩ :: r) nv ⟨e,o,n⟩ d acc K t :=
 Aq hg (c:=True) (we:=[(dst,.int .i64 q)]) (wo:=[]) (rd:=rdK x) (by simp [hx]) (by simp [hx]) trivial h
theorem FQ (hg : gOn e g = true) (hx : Ab e x = some .nils) (h : TrO Γ r (nv + 1) ⟨(dst,.int .i64 0) :: e,o,n⟩ d (acc ++ [(gK g ++ rdK x,[.e dst],af)]) K t) :
  TrO Γ (⟨some dst,.len false x,g,af⟩ :: r) nv ⟨e,o,n⟩ d acc K t :=
 Aq hg (c:=True) (we:=[(dst,.int .i64 0)]) (wo:=[]) (rd:=rdK x) (by simp [hx]) (by simp [hx]) trivial h
theorem FT {p : List UInt8} (hg : gOn e g = true) (hx : Ab e x = some (.str p)) (h : TrO Γ r (nv + 1) ⟨(dst,.int .i64 p.length) :: e,o,n⟩ d (acc ++ [(gK g ++ rdK x,[.e dst],af)]) K t) :
  TrO Γ (⟨some dst,.len true x,g,af⟩ :: r) nv ⟨e,o,n⟩ d acc K t :=
 Aq hg (c:=True) (we:=[(dst,.int .i64 p.length)]) (wo:=[]) (rd:=rdK x) (by simp [hx]) (by simp [hx]) trivial h
theorem Acs {bytes : Nat} {c c' : Prop} {new old : List D} {wo : List (Nat × Aa)} {rk rk' : List Key} (l l' : List α) (en : α -> D) (hg : gOn e g = true) (hx : Ab e x = some v) (hy : Ab e y = some w) (hvw : strip v = (true,v)) (hww : strip w = (true,w))
  (hv : (view w).run ⟨e,o,n⟩ = (c,new)) (hvr : (view w).rd ⟨e,o,n⟩ = rk) (hc : c) (hn : new = l'.map en)
  (ht : (target s ty v).run ⟨e,o,n⟩ = (c',old,wo,false)) (htr : (target s ty v).rd ⟨e,o,n⟩ = rk') (hc' : c') (ho : old = l.map en)
  (hs : ∀ q,(cells (en q)).length = s) (hby : Nat.ble bytes 65536 = true) (hl : l.length + l'.length <= 16777216)
  (h : TrO Γ r (nv + 1) ⟨(dst,.osl dst nv 0 (l ++ l').length) :: e,(dst,some (nv,⟨false,false,s,ty,(l ++ l').map en⟩)) :: (wo ++ o),n⟩ d (acc ++ [(gK g ++ (rdK x ++ (rdK y ++ (rk ++ rk'))),[.e dst,.o dst] ++ wo.map (λx=>.o x.1),af)]) K t) :
  TrO Γ (⟨some dst,.app s ty bytes x y,g,af⟩ :: r) nv ⟨e,o,n⟩ d acc K t:=by
 have hb':=Nat.le_of_ble_eq_true hby
 subst hn; subst ho
 refine Aq hg (c:=True) (we:=[(dst,.osl dst nv 0 (l ++ l').length)]) (wo:=(dst,some (nv,⟨false,false,s,ty,(l ++ l').map en⟩)) :: wo) (rd:=rdK x ++ (rdK y ++ (rk ++ rk'))) ?_ ?_ trivial (by simpa using h)
 ·simp only [evalOp,R.run_bind,Ay,Option.getD_some,hx,hy,hvw,hww,source,hv,ht,R.run_pure,Ae,Cx,nmR,cond_false]
  simp [hc,hc',hl,hb',hs]
 ·simp only [evalOp,R.Bk,Ay,CC,Option.getD_some,hx,hy,hvw,hww,source,hv,hvr,htr,R.CD]
  simp
theorem Jk (hg : gOn e g = true) (hx : Ab e x = some (.int k a)) (hy : Ab e y = some (.int k b)) (h : TrO Γ r (nv + 1) ⟨(dst,.int k (WC a b)) :: e,o,n⟩ d (acc ++ [(gK g ++ (rdK x ++ rdK y),[.e dst],af)]) K t) :
  TrO Γ (⟨some dst,.max [x,y],g,af⟩ :: r) nv ⟨e,o,n⟩ d acc K t :=
 Aq hg (c:=True) (we:=[(dst,.int k (WC a b))]) (wo:=[]) (rd:=rdK x ++ rdK y) (by simp [AH,hx,hy,GX]) (by simp [AH,hx,hy]) trivial h
theorem Jl (hg : gOn e g = true) (hx : Ab e x = some (.int k a)) (hy : Ab e y = some (.int k b)) (h : TrO Γ r (nv + 1) ⟨(dst,.int k (Sl a b)) :: e,o,n⟩ d (acc ++ [(gK g ++ (rdK x ++ rdK y),[.e dst],af)]) K t) :
  TrO Γ (⟨some dst,.min [x,y],g,af⟩ :: r) nv ⟨e,o,n⟩ d acc K t :=
 Aq hg (c:=True) (we:=[(dst,.int k (Sl a b))]) (wo:=[]) (rd:=rdK x ++ rdK y) (by simp [AH,hx,hy,GX]) (by simp [AH,hx,hy]) trivial h
theorem Adf {hi : Arg} (hg : gOn e g = true) (hx : Ab e x = some (.sl (l.map en))) (hy : Ab e hi = some (.int k a)) (hs : ∀ q,(cells (en q)).length = s) (hp : Nat.blt 0 s = true) (hl : 0 <= a /\ a <= l.length)
  (h : TrO Γ r (nv + 1) ⟨(dst,.sl ((l.take a.toNat).map en)) :: e,o,n⟩ d (acc ++ [(gK g ++ (rdK x ++ rdK hi),[.e dst],af)]) K t) :
  TrO Γ (⟨some dst,.slc s x none (some hi),g,af⟩ :: r) nv ⟨e,o,n⟩ d acc K t:=by
 have hp' : 0 < s:=by simpa using hp
 refine Aq hg (c:=True) (we:=[(dst,.sl ((l.take a.toNat).map en))]) (wo:=[]) (rd:=rdK x ++ rdK hi) ?_ ?_ trivial h
 ·simp only [evalOp,R.run_bind,Ay,Option.getD_some,hx,hy,strip,Bn,R.AO,R.run_pure,Bj,fits,BJ,bound,Bu,Ae]
  simp [hl,hs,hp',List.map_take]
 ·simp [Bn,hx,hy,fits]
theorem EL {lo : Arg} (hg : gOn e g = true) (hx : Ab e x = some (.sl (l.map en))) (hy : Ab e lo = some (.int k a)) (hs : ∀ q,(cells (en q)).length = s) (hp : Nat.blt 0 s = true) (hl : 0 <= a /\ a <= l.length)
  (h : TrO Γ r (nv + 1) ⟨(dst,.sl ((l.drop a.toNat).map en)) :: e,o,n⟩ d (acc ++ [(gK g ++ (rdK x ++ rdK lo),[.e dst],af)]) K t) :
  TrO Γ (⟨some dst,.slc s x (some lo) none,g,af⟩ :: r) nv ⟨e,o,n⟩ d acc K t:=by
 have hp' : 0 < s:=by simpa using hp
 refine Aq hg (c:=True) (we:=[(dst,.sl ((l.drop a.toNat).map en))]) (wo:=[]) (rd:=rdK x ++ rdK lo) ?_ ?_ trivial h
 ·have ht : List.take (l.length - a.toNat) (List.drop a.toNat (l.map en)) = (l.drop a.toNat).map en:=by
   rw [<- List.map_drop]; exact List.take_of_length_le (by simp)
  simp only [evalOp,R.run_bind,Ay,Option.getD_some,hx,hy,strip,Bn,R.AO,R.run_pure,Bj,fits,BJ,bound,Bu,Ae,List.length_map,Int.toNat_natCast]
  rw [ht]
  simp [hl,hs,hp']
 ·simp [Bn,hx,hy,fits]
theorem Acv {hi : Arg} {q : Nat} (hq : q = l.length) (hg : gOn e g = true) (hx : Ab e x = some (.osl gi vi 0 q)) (hy : Ab e hi = some (.int k a)) (ho : lkO o gi = some (vi,⟨fz,var,s,ty,es⟩)) (hp : Nat.blt 0 s = true) (hl : 0 <= a /\ a <= l.length)
  (h : TrO Γ r (nv + 1) ⟨(dst,.osl gi vi 0 a.toNat) :: e,o,n⟩ d (acc ++ [(gK g ++ (rdK x ++ (rdK hi ++ [.o gi])),[.e dst],af)]) K t) :
  TrO Γ (⟨some dst,.slc s x none (some hi),g,af⟩ :: r) nv ⟨e,o,n⟩ d acc K t:=by
 subst hq
 have hp' : 0 < s:=by simpa using hp
 refine Aq hg (c:=True) (we:=[(dst,.osl gi vi 0 a.toNat)]) (wo:=[]) (rd:=rdK x ++ (rdK hi ++ [Key.o gi])) ?_ ?_ trivial h
 ·simp only [evalOp,R.run_bind,Ay,Option.getD_some,hx,hy,strip,Bn,R.AO,R.run_pure,Bj,fits,R.BI,AN,ho,BJ,bound,Bu,Ae]
  simp [hl,hp']
 ·simp [Bn,hx,hy,fits,ho]
theorem ZC {lo : Arg} {q : Nat} (hq : q = l.length) (hg : gOn e g = true) (hx : Ab e x = some (.osl gi vi 0 q)) (hy : Ab e lo = some (.int k a)) (ho : lkO o gi = some (vi,⟨fz,var,s,ty,es⟩)) (hp : Nat.blt 0 s = true) (hl : 0 <= a /\ a <= l.length)
  (h : TrO Γ r (nv + 1) ⟨(dst,.osl gi vi a.toNat (l.length - a.toNat)) :: e,o,n⟩ d (acc ++ [(gK g ++ (rdK x ++ (rdK lo ++ [.o gi])),[.e dst],af)]) K t) :
  TrO Γ (⟨some dst,.slc s x (some lo) none,g,af⟩ :: r) nv ⟨e,o,n⟩ d acc K t:=by
 subst hq
 have hp' : 0 < s:=by simpa using hp
 refine Aq hg (c:=True) (we:=[(dst,.osl gi vi a.toNat (l.length - a.toNat))]) (wo:=[]) (rd:=rdK x ++ (rdK lo ++ [Key.o gi])) ?_ ?_ trivial h
 ·simp only [evalOp,R.run_bind,Ay,Option.getD_some,hx,hy,strip,Bn,R.AO,R.run_pure,Bj,fits,R.BI,AN,ho,BJ,bound,Bu,Ae]
  simp [hl,hp']
 ·simp [Bn,hx,hy,fits,ho]
theorem GP {lo hi : Arg} {k2 : IntKind} (hg : gOn e g = true) (hx : Ab e x = some (.sl (l.map en))) (hy : Ab e lo = some (.int k a)) (hz : Ab e hi = some (.int k2 b)) (hs : ∀ q,(cells (en q)).length = s) (hp : Nat.blt 0 s = true) (hl : 0 <= a /\ a <= b /\ b <= l.length)
  (h : TrO Γ r (nv + 1) ⟨(dst,.sl (((l.drop a.toNat).take (b.toNat - a.toNat)).map en)) :: e,o,n⟩ d (acc ++ [(gK g ++ (rdK x ++ (rdK lo ++ rdK hi)),[.e dst],af)]) K t) :
  TrO Γ (⟨some dst,.slc s x (some lo) (some hi),g,af⟩ :: r) nv ⟨e,o,n⟩ d acc K t:=by
 have hp' : 0 < s:=by simpa using hp
 refine Aq hg (c:=True) (we:=[(dst,.sl (((l.drop a.toNat).take (b.toNat - a.toNat)).map en))]) (wo:=[]) (rd:=rdK x ++ (rdK lo ++ rdK hi)) ?_ ?_ trivial h
 ·simp only [evalOp,R.run_bind,Ay,Option.getD_some,hx,hy,hz,strip,Bn,R.AO,R.run_pure,Bj,fits,BJ,bound,Bu,Ae]
  simp [hl,hs,hp',List.map_take,List.map_drop]
 ·simp [Bn,hx,hy,hz,fits]
end
end Go.Dw
namespace Go.Dw
section
variable {A B : Type}
def NJ (ptr : List (Nat × (Nat × Nat))) (kind : Kind) (enc : A -> List D) (dec : List D -> A) (f : A -> Option B) (encR : B -> D) (encE : B -> List D) : Spec where
 ptr:=ptr
 kind:=kind
 pre:=λds=>∃ a b,ds = enc a /\ f a = some b
 res:=λds=>match f (dec ds) with | some b=>encR b | none=>.top
 eff:=λds=>match f (dec ds) with | some b=>encE b | none=>[]
variable {ptr : List (Nat × (Nat × Nat))} {kind : Kind} {enc : A -> List D} {dec : List D -> A} {f : A -> Option B} {encR : B -> D} {encE : B -> List D} {a : A} {b : B}
theorem BH (hde : ∀ a,dec (enc a) = a) (hf : f a = some b) : (NJ ptr kind enc dec f encR encE).res (enc a) = encR b:=by simp [NJ,hde,hf]
theorem Cz (hde : ∀ a,dec (enc a) = a) (hf : f a = some b) : (NJ ptr kind enc dec f encR encE).eff (enc a) = encE b:=by simp [NJ,hde,hf]
def BB (ptr : List (Nat × (Nat × Nat))) (kind : Kind) (rs : List AZ) (encR : B -> D) (encE : B -> List D) : B -> Au -> S -> Prop:=λb e τ =>
 match e with
 | .exit _=>False
 | _=>Wk (BZ ⟨ptr,kind,λ_=>True,λ_=>encR b,λ_=>encE b⟩ rs []) τ
theorem Nm {P : Program} {Γ : Ar} (hΓ : ∀ k sp,Γ k = some sp -> NG P (k % 4096) sp) {k : Nat} {fn : Func} {dc : QB} {rs : List AZ} (hf : P.funcs[k]? = some fn) (hname : (fn.name == "runtime.NumGoroutine") = false)
  (hc : (fn.body.bind (Sy P fn.ntmps)) = some dc) (hr : fn.results.toList.mapM (AcW P) = some rs) {np : Nat} (hnp : np <= fn.ntmps) (hde : ∀ a,dec (enc a) = a) (hlen : ∀ a,(enc a).length = np) (hkeys : ∀ a,Bw ptr 0 (enc a) = ptr.map Prod.fst) (hptr : Ex ptr = true)
  (hT : ∀ a,TrE Γ dc (BB ptr kind rs encR encE) ⟨Da ptr 0 (enc a),Ci ptr 0 (enc a),262144⟩ (f a)) (hni : BP kind = none:=by rfl) (hno : DQ kind = none:=by rfl) : NG P k (NJ ptr kind enc dec f encR encE):=by
 refine Mi hΓ hf hname hc hr hnp (by rintro ds ⟨a,b,rfl,_⟩; exact ⟨hlen a,hkeys a⟩) hptr ?_ hni hno
 rintro ds ⟨a,b,rfl,hb⟩ _
 have h:=hT a b hb
 refine h.mono λτ0 h=>Bp _ _ _ _ (λe τ hq=>?_) h
 have key : ∀ τ,BZ ⟨ptr,kind,λ_=>True,λ_=>encR b,λ_=>encE b⟩ rs [] τ -> BZ (NJ ptr kind enc dec f encR encE) rs (enc a) τ:=by
  simp only [BZ,BH hde hb,Cz hde hb]
  exact λ_ h=>h
 cases e with
 | exit id=>exact hq.elim
 | normal=>exact hq.mono key
 | ret=>exact hq.mono key
end
def Ak (e : List (Nat × D)) : List Arg -> List D
 | []=>[]
 | x :: r=>(Ab e x).getD .top :: Ak e r
def Bb : List Arg -> List Key
 | []=>[]
 | x :: r=>rdK x ++ Bb r
section
variable {Γ : Ar} {X A B : Type} {K : KR X} {t : Option X} {e : List (Nat × D)} {o : List (Nat × Aa)} {n nv : Nat} {d : Bool} {acc : List CG}
 {r : List At} {dst : Nat} {g : Option (Nat × Bool)} {af : List Nat} {α : Type}
 {ptr : List (Nat × (Nat × Nat))} {kind : Kind} {enc : A -> List D} {dec : List D -> A} {f : A -> Option B} {encR : B -> D} {encE : B -> List D} {b : B}
 {fa : Arg} {args : List Arg} {caps : List D} {k : Nat} {c : Prop} {ds : List D} {w : List (Nat × Aa)} {ps : List (Nat × Nat × Own)} {rk : List Key} {s ty : Nat}
theorem Bo : ∀ args : List Arg,(AH args).run ⟨e,o,n⟩ = Ak e args
 | []=>rfl
 | x :: r=>by simp [AH,Ak,Bo r]
theorem CR : ∀ args : List Arg,(AH args).rd ⟨e,o,n⟩ = Bb args
 | []=>rfl
 | x :: r=>by simp [AH,Bb,CR r]
theorem CT {sp : Spec} {dst : Option Nat} {c2 : Prop} {we : List (Nat × D)} {wo : List (Nat × Aa)} (hg : gOn e g = true) (hf : Ab e fa = some (.clo k caps)) (hΓ : Γ (k + 4096 * AJ (Ak e args)) = some sp) (hr : (Ad sp.ptr 0 (Ak e args ++ caps)).run ⟨e,o,n⟩ = (c,ds,w,ps))
  (hk : (Ad sp.ptr 0 (Ak e args ++ caps)).rd ⟨e,o,n⟩ = rk) (hco : AQ dst nv sp c ds w ps = ⟨c2,we,wo⟩) (hc : c2)
  (h : TrO Γ r (nv + 1) ⟨we ++ e,wo ++ o,n⟩ d (acc ++ [(gK g ++ (rdK fa ++ (Bb args ++ rk)),we.map (λx=>.e x.1) ++ wo.map (λx=>.o x.1),af)]) K t) (hin : BP sp.kind = none:=by rfl) (hkb : Nat.blt k 4096 = true:=by rfl) :
  TrO Γ (⟨dst,.call fa args,g,af⟩ :: r) nv ⟨e,o,n⟩ d acc K t:=by
 refine Aq hg (c:=c2) (we:=we) (wo:=wo) (rd:=rdK fa ++ (Bb args ++ rk)) ?_ ?_ hc h
 ·simp only [evalOp,R.run_bind,Bj,Option.getD_some,hf,hkb,Bo,hΓ,hin,hr,R.run_pure,hco]
 ·simp only [evalOp,R.Bk,Bj,EX,Option.getD_some,hf,hkb,Bo,hΓ,hin,CR,hr,hk,R.CD,List.append_nil]
theorem Il {sp : Spec} {vi gi ty' m : Nat} {l l' : List Int} {fl : List Int -> List Int} {fk : List Int -> Nat} (hg : gOn e g = true) (hf : Ab e fa = some (.clo k caps)) (hΓ : Γ (k + 4096 * AJ (Ak e args)) = some sp) (hin : BP sp.kind = some (false,fl,fk))
  (hr : Ak e args ++ caps = [.osl gi vi 0 m]) (hm : m = l.length) (ho : lkO o gi = some (vi,⟨false,false,1,ty',l.map (.int .i64)⟩)) (hl : l.length < 4611686018427387904) (hfl : fl l = l')
  (h : TrO Γ r (nv + 1) ⟨e,(gi,some (vi,⟨false,false,1,ty',l'.map (.int .i64)⟩)) :: o,n⟩ d (acc ++ [(gK g ++ (rdK fa ++ (Bb args ++ [.o gi])),[.o gi],af)]) K t) (hkb : Nat.blt k 4096 = true:=by rfl) :
  TrO Γ (⟨none,.call fa args,g,af⟩ :: r) nv ⟨e,o,n⟩ d acc K t:=by
 subst hm hfl
 have hd : (l.map (D.int .i64)).map Dj = l:=by simp [Function.comp_def,Dj]
 refine Aq hg (c:=True) (we:=[]) (wo:=[(gi,some (vi,⟨false,false,1,ty',(fl l).map (.int .i64)⟩))]) (rd:=rdK fa ++ (Bb args ++ [Key.o gi])) ?_ ?_ trivial ?_
 ·simp only [evalOp,R.run_bind,Bj,Option.getD_some,hf,hkb,Bo,hΓ,hin,hr,Cj,R.BI,AN,ho,R.AO]
  simp [Ae,hd,hl,List.take_of_length_le,AG,cells,plain]
 ·simp only [evalOp,R.Bk,Bj,EX,Option.getD_some,hf,hkb,Bo,hΓ,hin,CR,hr,Cj,R.Dv,AN,ho,R.Dh]
 ·exact h
theorem GN {sp : Spec} {vi gi ty' m : Nat} {l l' : List Int} {fl : List Int -> List Int} {fk : List Int -> Nat} (hg : gOn e g = true) (hf : Ab e fa = some (.clo k caps)) (hΓ : Γ (k + 4096 * AJ (Ak e args)) = some sp) (hin : BP sp.kind = some (false,fl,fk))
  (hr : Ak e args ++ caps = [.osl gi vi 0 m]) (hm : m = l.length) (ho : lkO o gi = some (vi,⟨false,false,1,ty',l.map (.int .i64)⟩)) (hl : l.length < 4611686018427387904) (hfl : fl l = l')
  (h : TrO Γ r (nv + 1) ⟨(dst,.top) :: e,(gi,some (vi,⟨false,false,1,ty',l'.map (.int .i64)⟩)) :: o,n⟩ d (acc ++ [(gK g ++ (rdK fa ++ (Bb args ++ [.o gi])),[.e dst,.o gi],af)]) K t) (hkb : Nat.blt k 4096 = true:=by rfl) :
  TrO Γ (⟨some dst,.call fa args,g,af⟩ :: r) nv ⟨e,o,n⟩ d acc K t:=by
 subst hm hfl
 have hd : (l.map (D.int .i64)).map Dj = l:=by simp [Function.comp_def,Dj]
 refine Aq hg (c:=True) (we:=[(dst,.top)]) (wo:=[(gi,some (vi,⟨false,false,1,ty',(fl l).map (.int .i64)⟩))]) (rd:=rdK fa ++ (Bb args ++ [Key.o gi])) ?_ ?_ trivial ?_
 ·simp only [evalOp,R.run_bind,Bj,Option.getD_some,hf,hkb,Bo,hΓ,hin,hr,Cj,R.BI,AN,ho,R.AO]
  simp [Ae,hd,hl,List.take_of_length_le,AG,cells,plain]
 ·simp only [evalOp,R.Bk,Bj,EX,Option.getD_some,hf,hkb,Bo,hΓ,hin,CR,hr,Cj,R.Dv,AN,ho,R.Dh]
 ·exact h
theorem Fi {sp : Spec} {vi gi ty' m : Nat} {l l' : List Int} {fl : List Int -> List Int} {fk : List Int -> Nat} (hg : gOn e g = true) (hf : Ab e fa = some (.clo k caps)) (hΓ : Γ (k + 4096 * AJ (Ak e args)) = some sp) (hin : BP sp.kind = some (true,fl,fk))
  (hr : Ak e args ++ caps = [.osl gi vi 0 m]) (hm : m = l.length) (ho : lkO o gi = some (vi,⟨false,false,1,ty',l.map (.int .i64)⟩)) (hl : l.length < 4611686018427387904) (hfl : (fl l).take (fk l) = l') (hfk : fk l = l'.length)
  (h : TrO Γ r (nv + 1) ⟨(dst,.osl gi vi 0 l'.length) :: e,(gi,some (vi,⟨false,false,1,ty',l'.map (.int .i64)⟩)) :: o,n⟩ d (acc ++ [(gK g ++ (rdK fa ++ (Bb args ++ [.o gi])),[.e dst,.o gi],af)]) K t) (hkb : Nat.blt k 4096 = true:=by rfl) :
  TrO Γ (⟨some dst,.call fa args,g,af⟩ :: r) nv ⟨e,o,n⟩ d acc K t:=by
 subst hm hfl
 have hd : (l.map (D.int .i64)).map Dj = l:=by simp [Function.comp_def,Dj]
 refine Aq hg (c:=True) (we:=[(dst,.osl gi vi 0 ((fl l).take (fk l)).length)]) (wo:=[(gi,some (vi,⟨false,false,1,ty',((fl l).take (fk l)).map (.int .i64)⟩))]) (rd:=rdK fa ++ (Bb args ++ [Key.o gi])) ?_ ?_ trivial ?_
 ·simp only [evalOp,R.run_bind,Bj,Option.getD_some,hf,hkb,Bo,hΓ,hin,hr,Cj,R.BI,AN,ho,R.AO]
  simp [Ae,hd,hl,List.take_of_length_le,AG,cells,plain]
  rw [List.length_take] at hfk
  exact ⟨hfk,by rw [List.drop_of_length_le (by simp),List.append_nil]⟩
 ·simp only [evalOp,R.Bk,Bj,EX,Option.getD_some,hf,hkb,Bo,hΓ,hin,CR,hr,Cj,R.Dv,AN,ho,R.Dh]
 ·exact h
theorem Aek (a : A) (hg : gOn e g = true) (hf : Ab e fa = some (.clo k caps)) (hΓ : Γ (k + 4096 * AJ (Ak e args)) = some (NJ ptr .val enc dec f encR encE)) (hde : ∀ a,dec (enc a) = a) (hr : (Ad ptr 0 (Ak e args ++ caps)).run ⟨e,o,n⟩ = (c,ds,w,ps))
  (hk : (Ad ptr 0 (Ak e args ++ caps)).rd ⟨e,o,n⟩ = rk) (hc : c) (hds : ds = enc a) (hb : f a = some b)
  (h : TrO Γ r (nv + 1) ⟨(dst,encR b) :: e,(Ah ps (encE b) ++ w) ++ o,n⟩ d (acc ++ [(gK g ++ (rdK fa ++ (Bb args ++ rk)),.e dst :: (Ah ps (encE b) ++ w).map (λx=>.o x.1),af)]) K t) (hkb : Nat.blt k 4096 = true:=by rfl) :
  TrO Γ (⟨some dst,.call fa args,g,af⟩ :: r) nv ⟨e,o,n⟩ d acc K t:=by
 subst hds
 refine CT (hkb:=hkb) hg hf hΓ (sp:=NJ ptr .val enc dec f encR encE) hr hk (c2:=c /\ ∃ a' b',enc a = enc a' /\ f a' = some b') (we:=[(dst,encR b)]) (wo:=Ah ps (encE b) ++ w) ?_ ⟨hc,a,b,rfl,hb⟩ h
 simp only [AQ,BH hde hb,Cz hde hb,Ae]
 rfl
theorem EJ (a : A) (hg : gOn e g = true) (hf : Ab e fa = some (.clo k caps)) (hΓ : Γ (k + 4096 * AJ (Ak e args)) = some (NJ ptr .val enc dec f encR encE)) (hde : ∀ a,dec (enc a) = a) (hr : (Ad ptr 0 (Ak e args ++ caps)).run ⟨e,o,n⟩ = (c,ds,w,ps))
  (hk : (Ad ptr 0 (Ak e args ++ caps)).rd ⟨e,o,n⟩ = rk) (hc : c) (hds : ds = enc a) (hb : f a = some b)
  (h : TrO Γ r (nv + 1) ⟨e,(Ah ps (encE b) ++ w) ++ o,n⟩ d (acc ++ [(gK g ++ (rdK fa ++ (Bb args ++ rk)),(Ah ps (encE b) ++ w).map (λx=>.o x.1),af)]) K t) (hkb : Nat.blt k 4096 = true:=by rfl) :
  TrO Γ (⟨none,.call fa args,g,af⟩ :: r) nv ⟨e,o,n⟩ d acc K t:=by
 subst hds
 refine CT (hkb:=hkb) hg hf hΓ (sp:=NJ ptr .val enc dec f encR encE) hr hk (c2:=c /\ ∃ a' b',enc a = enc a' /\ f a' = some b') (we:=[]) (wo:=Ah ps (encE b) ++ w) ?_ ⟨hc,a,b,rfl,hb⟩ h
 simp only [AQ,BH hde hb,Cz hde hb,Ae]
 rfl
theorem AbN (a : A) (hg : gOn e g = true) (hf : Ab e fa = some (.clo k caps)) (hΓ : Γ (k + 4096 * AJ (Ak e args)) = some (NJ [] .ground enc dec f encR encE)) (hde : ∀ a,dec (enc a) = a) (hr : (Ad [] 0 (Ak e args ++ caps)).run ⟨e,o,n⟩ = (c,ds,w,ps))
  (hk : (Ad [] 0 (Ak e args ++ caps)).rd ⟨e,o,n⟩ = rk) (hc : c) (hds : ds = enc a) (hb : f a = some b) (hgr : isGround (encR b) = true)
  (h : TrO Γ r (nv + 1) ⟨(dst,encR b) :: e,o,n⟩ d (acc ++ [(gK g ++ (rdK fa ++ (Bb args ++ rk)),[.e dst],af)]) K t) (hkb : Nat.blt k 4096 = true:=by rfl) :
  TrO Γ (⟨some dst,.call fa args,g,af⟩ :: r) nv ⟨e,o,n⟩ d acc K t:=by
 subst hds
 refine CT (hkb:=hkb) hg hf hΓ (sp:=NJ [] .ground enc dec f encR encE) hr hk (c2:=c /\ (∃ a' b',enc a = enc a' /\ f a' = some b') /\ isGround (encR b) = true /\ ([] : List (Nat × (Nat × Nat))) = []) (we:=[(dst,encR b)]) (wo:=[]) ?_ ⟨hc,⟨a,b,rfl,hb⟩,hgr,rfl⟩ h
 simp only [AQ,BH hde hb,Ae]
 simp [NJ]
theorem Fh (a : A) {l : List α} {en : α -> D} (hg : gOn e g = true) (hf : Ab e fa = some (.clo k caps)) (hΓ : Γ (k + 4096 * AJ (Ak e args)) = some (NJ ptr (.row s ty) enc dec f encR encE)) (hde : ∀ a,dec (enc a) = a) (hr : (Ad ptr 0 (Ak e args ++ caps)).run ⟨e,o,n⟩ = (c,ds,w,ps))
  (hk : (Ad ptr 0 (Ak e args ++ caps)).rd ⟨e,o,n⟩ = rk) (hc : c) (hds : ds = enc a) (hb : f a = some b) (hl : encR b = .sl (l.map en))
  (h : TrO Γ r (nv + 1) ⟨(dst,.osl dst nv 0 l.length) :: e,((dst,some (nv,⟨false,false,s,ty,l.map en⟩)) :: (Ah ps (encE b) ++ w)) ++ o,n⟩ d (acc ++ [(gK g ++ (rdK fa ++ (Bb args ++ rk)),.e dst :: .o dst :: (Ah ps (encE b) ++ w).map (λx=>.o x.1),af)]) K t) (hkb : Nat.blt k 4096 = true:=by rfl) :
  TrO Γ (⟨some dst,.call fa args,g,af⟩ :: r) nv ⟨e,o,n⟩ d acc K t:=by
 subst hds
 refine CT (hkb:=hkb) hg hf hΓ (sp:=NJ ptr (.row s ty) enc dec f encR encE) hr hk (c2:=c /\ (∃ a' b',enc a = enc a' /\ f a' = some b') /\ (some dst).isSome = true) (we:=[(dst,.osl dst nv 0 l.length)]) (wo:=(dst,some (nv,⟨false,false,s,ty,l.map en⟩)) :: (Ah ps (encE b) ++ w)) ?_ ⟨hc,⟨a,b,rfl,hb⟩,rfl⟩ h
 simp only [AQ,BH hde hb,Cz hde hb,hl,Ae,AD]
 simp [NJ]
theorem Aej (a : A) (hg : gOn e g = true) (hf : Ab e fa = some (.clo k caps)) (hΓ : Γ (k + 4096 * AJ (Ak e args)) = some (NJ ptr (.ptr s ty) enc dec f encR encE)) (hde : ∀ a,dec (enc a) = a) (hr : (Ad ptr 0 (Ak e args ++ caps)).run ⟨e,o,n⟩ = (c,ds,w,ps))
  (hk : (Ad ptr 0 (Ak e args ++ caps)).rd ⟨e,o,n⟩ = rk) (hc : c) (hds : ds = enc a) (hb : f a = some b)
  (h : TrO Γ r (nv + 1) ⟨(dst,.optr dst nv 0 0) :: e,((dst,some (nv,⟨false,true,s,ty,[encR b]⟩)) :: (Ah ps (encE b) ++ w)) ++ o,n⟩ d (acc ++ [(gK g ++ (rdK fa ++ (Bb args ++ rk)),.e dst :: .o dst :: (Ah ps (encE b) ++ w).map (λx=>.o x.1),af)]) K t) (hkb : Nat.blt k 4096 = true:=by rfl) :
  TrO Γ (⟨some dst,.call fa args,g,af⟩ :: r) nv ⟨e,o,n⟩ d acc K t:=by
 subst hds
 refine CT (hkb:=hkb) hg hf hΓ (sp:=NJ ptr (.ptr s ty) enc dec f encR encE) hr hk (c2:=c /\ (∃ a' b',enc a = enc a' /\ f a' = some b') /\ (some dst).isSome = true) (we:=[(dst,.optr dst nv 0 0)]) (wo:=(dst,some (nv,⟨false,true,s,ty,[encR b]⟩)) :: (Ah ps (encE b) ++ w)) ?_ ⟨hc,⟨a,b,rfl,hb⟩,rfl⟩ h
 simp only [AQ,BH hde hb,Cz hde hb,Ae,AD]
 simp [NJ]
theorem AkA (a : A) {q : Nat} {rs : List D} {z : D} (hg : gOn e g = true) (hf : Ab e fa = some (.clo k caps)) (hΓ : Γ (k + 4096 * AJ (Ak e args)) = some (NJ ptr (.tupPtr q s ty) enc dec f encR encE)) (hde : ∀ a,dec (enc a) = a) (hr : (Ad ptr 0 (Ak e args ++ caps)).run ⟨e,o,n⟩ = (c,ds,w,ps))
  (hk : (Ad ptr 0 (Ak e args ++ caps)).rd ⟨e,o,n⟩ = rk) (hc : c) (hds : ds = enc a) (hb : f a = some b) (hl : encR b = .tup rs) (hz : rs.getD q .top = z)
  (h : TrO Γ r (nv + 1) ⟨(dst,.tup (rs.set q (.optr dst nv 0 0))) :: e,((dst,some (nv,⟨false,true,s,ty,[z]⟩)) :: (Ah ps (encE b) ++ w)) ++ o,n⟩ d (acc ++ [(gK g ++ (rdK fa ++ (Bb args ++ rk)),.e dst :: .o dst :: (Ah ps (encE b) ++ w).map (λx=>.o x.1),af)]) K t) (hkb : Nat.blt k 4096 = true:=by rfl) :
  TrO Γ (⟨some dst,.call fa args,g,af⟩ :: r) nv ⟨e,o,n⟩ d acc K t:=by
 subst hds
 subst hz
 refine CT (hkb:=hkb) hg hf hΓ (sp:=NJ ptr (.tupPtr q s ty) enc dec f encR encE) hr hk (c2:=c /\ (∃ a' b',enc a = enc a' /\ f a' = some b') /\ (some dst).isSome = true) (we:=[(dst,.tup (rs.set q (.optr dst nv 0 0)))]) (wo:=(dst,some (nv,⟨false,true,s,ty,[rs.getD q .top]⟩)) :: (Ah ps (encE b) ++ w)) ?_ ⟨hc,⟨a,b,rfl,hb⟩,rfl⟩ h
 simp only [AQ,BH hde hb,Cz hde hb,hl,Ae,AD]
 simp [NJ]
theorem Apf {q : Nat} (hg : gOn e g = true) (hx : Ak e args = caps) (hc : ∀ d ∈ caps,Acq d = true)
  (h : TrO Γ r (nv + 1) ⟨(dst,.clo q caps) :: e,o,n⟩ d (acc ++ [(gK g ++ Bb args,[.e dst],af)]) K t) : TrO Γ (⟨some dst,.mkf q args,g,af⟩ :: r) nv ⟨e,o,n⟩ d acc K t :=
 Aq hg (c:=∀ d ∈ caps,Acq d = true) (we:=[(dst,.clo q caps)]) (wo:=[]) (rd:=Bb args) (by simp [evalOp,Bo,hx,Ae]) (by simp [evalOp,CR]) hc h
end
@[simp] theorem JJ (g : Nat) : (Ac g = false) ↔ g < 4096:=by
 simp only [Ac]
 cases hb : Nat.ble 4096 g
 ·simp only [true_iff]; by_cases h : g < 4096
  ·exact h
  ·rw [Nat.ble_eq_true_of_le (by omega)] at hb; cases hb
 ·have:=Nat.le_of_ble_eq_true hb; simp; omega
@[simp] theorem Nt (g : Nat) : (Ac g = true) ↔ 4096 <= g:=by
 have:=JJ g
 cases hb : Ac g <;> simp_all <;> omega
section
variable {B α : Type} {e : List (Nat × D)} {o : List (Nat × Aa)} {n np : Nat} {ptr : List (Nat × (Nat × Nat))} {encR : B -> D} {encE : B -> List D} {b : B} {r0 : AZ} {rs : List AZ}
 {ce c c1 : Prop} {effs ds : List D} {we w : List (Nat × Aa)} {d0 d1 : D} {s ty g : Nat}
theorem Uz (he : (BA ptr).run ⟨e,o,n⟩ = (ce,effs,we)) (hce : ce) (heff : effs = encE b) (hr : (DW r0).run ⟨e,o,n⟩ = (c,d0,w)) (hc : c) (hd : d0 = encR b) : TrX .ret (BB ptr .val [r0] encR encE) ⟨e,o,n⟩ (some b):=by
 rintro _ ⟨⟩
 refine ⟨_,.refl _,?_⟩
 simp only [BZ,he,hr]
 exact ⟨hce,heff,hc,hd⟩
theorem JH (he : (BA ptr).run ⟨e,o,n⟩ = (ce,effs,we)) (hce : ce) (heff : effs = encE b) (hr : (DW r0).run ⟨e,o,n⟩ = (c,d0,w)) (hc : c) (hd : d0 = encR b) : TrX .ret (BB ptr .ground [r0] encR encE) ⟨e,o,n⟩ (some b):=by
 rintro _ ⟨⟩
 refine ⟨_,.refl _,?_⟩
 simp only [BZ,he,hr]
 exact ⟨hce,heff,hc,hd⟩
theorem EI {_q : D -> Prop} (h : rs.length ≠ 1) (hk : ce /\ effs = encE b /\ c /\ .tup ds = encR b /\ rs.length ≠ 1) (he : (BA ptr).run ⟨e,o,n⟩ = (ce,effs,we)) (hr : (AA rs).run ⟨e,o,n⟩ = (c,ds,w)) (kind : Kind) (hkind : kind = .val \/ kind = .ground) :
  BZ ⟨ptr,kind,λ_=>True,λ_=>encR b,λ_=>encE b⟩ rs [] ⟨e,o,n⟩:=by
 rcases hkind with rfl | rfl <;> (
  simp only [BZ,he]
  refine ⟨hk.1,hk.2.1,?_⟩
  match rs,h,hr with
  | [],h,hr=>simp only [hr]; exact hk.2.2
  | [_],h,_=>exact (h rfl).elim
  | _ :: _ :: _,h,hr=>simp only [hr]; exact hk.2.2)
theorem Rb (he : (BA ptr).run ⟨e,o,n⟩ = (ce,effs,we)) (hce : ce) (heff : effs = encE b) (hr : (AA rs).run ⟨e,o,n⟩ = (c,ds,w)) (hc : c) (hd : .tup ds = encR b) (hl : rs.length ≠ 1) : TrX .ret (BB ptr .val rs encR encE) ⟨e,o,n⟩ (some b):=by
 rintro _ ⟨⟩
 refine ⟨_,.refl _,?_⟩
 exact EI (_q:=λ_=>True) hl ⟨hce,heff,hc,hd,hl⟩ he hr _ (.inl rfl)
theorem Hf (he : (BA ptr).run ⟨e,o,n⟩ = (ce,effs,we)) (hce : ce) (heff : effs = encE b) (hr : (AA rs).run ⟨e,o,n⟩ = (c,ds,w)) (hc : c) (hd : .tup ds = encR b) (hl : rs.length ≠ 1) : TrX .ret (BB ptr .ground rs encR encE) ⟨e,o,n⟩ (some b):=by
 rintro _ ⟨⟩
 refine ⟨_,.refl _,?_⟩
 exact EI (_q:=λ_=>True) hl ⟨hce,heff,hc,hd,hl⟩ he hr _ (.inr rfl)
theorem Mv (he : (BA ptr).run ⟨e,o,n⟩ = (ce,effs,we)) (hce : ce) (heff : effs = encE b) (hr : (Pn r0).run ⟨e,o,n⟩ = (c,d0)) (hc : c) (hs : (DV false s ty d0).run ⟨e,o,n⟩ = (c1,d1,g)) (hc1 : c1) (hd : d1 = encR b) (hw : we.all (λx=>x.1 != g) = true) :
  TrX .ret (BB ptr (.row s ty) [r0] encR encE) ⟨e,o,n⟩ (some b):=by
 rintro _ ⟨⟩
 refine ⟨_,.refl _,?_⟩
 simp only [BZ,he,hr,hs]
 exact ⟨hce,heff,hc,hc1,hd,hw⟩
theorem Mu (hr : (Pn r0).run ⟨e,o,n⟩ = (c,d0)) (hc : c) (hs : (BU s ty d0).run ⟨e,o,n⟩ = (c1,d1,w,g)) (hc1 : c1) (hd : d1 = encR b) (he : (BA ptr).run ⟨e,o,n⟩ = (ce,effs,we)) (hce : ce) (heff : effs = encE b) (hrg : Ac g = false:=by rfl) :
  TrX .ret (BB ptr (.ptr s ty) [r0] encR encE) ⟨e,o,n⟩ (some b):=by
 rintro _ ⟨⟩
 refine ⟨_,.refl _,?_⟩
 simp only [BZ,he,hr,hs]
 exact ⟨hce,heff,hc,hc1,hd,hrg⟩
theorem JI {q : Nat} {cA cB cP : Prop} {dA dB : List D} {dP dq : D} {wA wB wP : List (Nat × Aa)} (hq : q < rs.length) (hl : rs.length ≠ 1) (hA : (AA (rs.take q)).run ⟨e,o,n⟩ = (cA,dA,wA)) (hcA : cA) (hB : (AA (rs.drop (q + 1))).run ⟨e,o,n⟩ = (cB,dB,wB)) (hcB : cB)
  (hr : (Pn (rs.getD q (.t 0))).run ⟨e,o,n⟩ = (c,dq)) (hc : c) (hP : (BU s ty dq).run ⟨e,o,n⟩ = (cP,dP,wP,g)) (hcP : cP) (hd : .tup (dA ++ dP :: dB) = encR b) (he : (BA []).run ⟨e,o,n⟩ = (ce,effs,we)) (hce : ce) (heff : effs = encE b) :
  TrX .ret (BB [] (.tupPtr q s ty) rs encR encE) ⟨e,o,n⟩ (some b):=by
 rintro _ ⟨⟩
 refine ⟨_,.refl _,?_⟩
 have key : q < rs.length /\ rs.length ≠ 1 /\ True /\ ((AA (rs.take q)).run ⟨e,o,n⟩).1 /\ ((AA (rs.drop (q + 1))).run ⟨e,o,n⟩).1 /\ ((Pn (rs.getD q (.t 0))).run ⟨e,o,n⟩).1 /\ ((BU s ty ((Pn (rs.getD q (.t 0))).run ⟨e,o,n⟩).2).run ⟨e,o,n⟩).1 /\
   .tup (((AA (rs.take q)).run ⟨e,o,n⟩).2.1 ++ ((BU s ty ((Pn (rs.getD q (.t 0))).run ⟨e,o,n⟩).2).run ⟨e,o,n⟩).2.1 :: ((AA (rs.drop (q + 1))).run ⟨e,o,n⟩).2.1) = encR b:=by
  rw [hA,hB,hr,hP]
  exact ⟨hq,hl,trivial,hcA,hcB,hc,hcP,hd⟩
 clear hA hB hr hP
 simp only [BZ,he]
 refine ⟨hce,heff,?_⟩
 cases rs with
 | nil=>exact key
 | cons r0 rs=>cases rs <;> exact key
end
@[simp] theorem Ns (cs : List D) : cells (.agg cs) = cs:=rfl
def HH (e : List (Nat × D)) : List (Nat × D) -> Prop
 | []=>True
 | (t,d) :: r=>(NW e t).getD .top = d /\ HH e r
def HI (o : List (Nat × Aa)) : List (Nat × Aa) -> Prop
 | []=>True
 | (g,x) :: r=>lkO o g = x /\ HI o r
theorem HH.get {e : List (Nat × D)} : ∀ {E : List (Nat × D)},HH e E -> ∀ p ∈ E,(NW e p.1).getD .top = p.2
 | [],_,p,hp=>by cases hp
 | q :: r,h,p,hp=>by
  cases hp with
  | head=>exact h.1
  | tail _ hp=>exact HH.get h.2 p hp
theorem HI.get {o : List (Nat × Aa)} : ∀ {O : List (Nat × Aa)},HI o O -> ∀ p ∈ O,lkO o p.1 = p.2
 | [],_,p,hp=>by cases hp
 | q :: r,h,p,hp=>by
  cases hp with
  | head=>exact h.1
  | tail _ hp=>exact HI.get h.2 p hp
theorem Wq {e E : List (Nat × D)} {o O : List (Nat × Aa)} {n : Nat} (hE : HH e E) (hO : HI o O) : Has ⟨e,o,n⟩ E O:=by
 refine ⟨n,?_⟩
 refine Chg.Dl (τ:=⟨E,O,n⟩) [] ⟨?_,?_,?_,Nat.le_refl _⟩ (.refl _)
 ·intro p hp; cases hp
 ·intro p hp
  refine .inl (.inl ?_)
  have:=hE.get p hp
  rw [BC] at this
  exact this
 ·intro p hp
  refine .inl ?_
  have:=hO.get p hp
  simp only [S.gof,List.nil_append,AN]
  exact this
theorem Mq {x : D} {g v q q' : Nat} (h1 : x = .osl g v 0 q) (h2 : q = q') : x = .osl g v 0 q':=h2 ▸ h1
section
variable {e E : List (Nat × D)} {o O : List (Nat × Aa)} {n : Nat} {ws : List (Nat × Aa)} {α : Type}
def HB (e : List (Nat × D)) (o : List (Nat × Aa)) (n : Nat) (ws : List (Nat × Aa)) : List (Nat × D) -> Prop
 | []=>True
 | (t,d) :: r=>Conv ⟨e,o,n⟩ ws ((NW e t).getD .top) d /\ HB e o n ws r
def HC (e : List (Nat × D)) (o : List (Nat × Aa)) (n : Nat) (ws : List (Nat × Aa)) : List (Nat × Aa) -> Prop
 | []=>True
 | (g,x) :: r=>(lkO (ws ++ o) g = x \/ ∃ v p z z',lkO (ws ++ o) g = some (v,p) /\ p.var = true /\ p.es = [z] /\ x = some (v,{ p with es:=[z'] }) /\ Conv ⟨e,o,n⟩ ws z z') /\ HC e o n ws r
def FzB (o : List (Nat × Aa)) : List (Nat × Aa) -> Prop
 | []=>True
 | (g,x) :: r=>(∃ v p,lkO o g = some (v,p) /\ p.var = false /\ x = some (v,{ p with fz:=true })) /\ FzB o r
theorem Acd (ws : List (Nat × Aa)) (hw : FzB o ws) (hE : HB e o n ws E) (hO : HC e o n ws O) : Has ⟨e,o,n⟩ E O:=by
 refine ⟨n,?_⟩
 refine Chg.Dl (τ:=⟨E,O,n⟩) ws ⟨?_,?_,?_,Nat.le_refl _⟩ (.refl _)
 ·clear hE hO
  induction ws with
  | nil=>intro p hp; cases hp
  | cons q r ih =>
   intro p hp
   cases hp with
   | head =>
    obtain ⟨v,p,h1,h2,h3⟩:=hw.1
    exact ⟨v,p,by rw [AN]; exact h1,h2,h3⟩
   | tail _ hp=>exact ih hw.2 p hp
 ·clear hw hO
  induction E with
  | nil=>intro p hp; cases hp
  | cons q r ih =>
   intro p hp
   cases hp with
   | head =>
    have:=hE.1
    rw [BC] at this
    exact this
   | tail _ hp=>exact ih hE.2 p hp
 ·clear hw hE
  induction O with
  | nil=>intro p hp; cases hp
  | cons q r ih =>
   intro p hp
   cases hp with
   | head =>
    simp only [S.gof,AN]
    exact hO.1
   | tail _ hp=>exact ih hO.2 p hp
theorem OI {x d : D} (h : x = d) : Conv ⟨e,o,n⟩ ws x d:=.inl (.inl h)
theorem UF {x d : D} (h : x = d) : CW ⟨e,o,n⟩ ws x d:=.inl h
theorem Yg {x : D} (en : α -> D) (h : x = .nils) : CW ⟨e,o,n⟩ ws x (.sl (([] : List α).map en)):=by
 subst h
 exact .inr ⟨trivial,rfl,λp hp=>by cases hp⟩
theorem Yh {x : D} {g v q s ty : Nat} {fz : Bool} {l : List α} {en : α -> D} (h : x = .osl g v 0 q) (hq : q = l.length) (ho : lkO o g = some (v,⟨fz,false,s,ty,l.map en⟩)) (hw : (g,some (v,(⟨true,false,s,ty,l.map en⟩ : Own))) ∈ ws) : CW ⟨e,o,n⟩ ws x (.sl (l.map en)):=by
 subst h; subst hq
 refine .inr ⟨?_,?_,?_⟩
 ·simp [AB,ho]
 ·simp [AB,ho]; exact List.take_of_length_le (by simp)
 ·intro p hp
  simp [AB,ho] at hp
  subst hp
  exact hw
theorem EU {x : D} {g v i s ty : Nat} {fz : Bool} {l : List α} {en : α -> D} (h : x = .osl g v i (l.length - i)) (hi : i <= l.length) (ho : lkO o g = some (v,⟨fz,false,s,ty,l.map en⟩)) (hw : (g,some (v,(⟨true,false,s,ty,l.map en⟩ : Own))) ∈ ws) : CW ⟨e,o,n⟩ ws x (.sl ((l.drop i).map en)):=by
 subst h
 refine .inr ⟨?_,?_,?_⟩
 ·simp [AB,ho]; omega
 ·simp [AB,ho]; exact List.take_of_length_le (by simp)
 ·intro p hp
  simp [AB,ho] at hp
  subst hp
  exact hw
theorem AaJ {x d : D} (h : CW ⟨e,o,n⟩ ws x d) : Conv ⟨e,o,n⟩ ws x d:=.inl h
theorem AaA {x : D} {cs cs' : List D} (h : x = .agg cs) (hc : DY ⟨e,o,n⟩ ws cs cs') : Conv ⟨e,o,n⟩ ws x (.agg cs'):=.inr ⟨cs,cs',h,rfl,hc⟩
end
@[simp] theorem DH {α : Type} (en : α -> D) (l : List α) : List.take l.length (l.map en) = l.map en:=List.take_of_length_le (by simp)
@[simp] theorem NA {α : Type} (en : α -> D) (l : List α) (i : Nat) : List.take (l.length - i) (List.drop i (l.map en)) = (l.drop i).map en:=by
 rw [<- List.map_drop]; exact List.take_of_length_le (by simp)
@[simp] theorem Nh {α : Type} (en : α -> D) (l : List α) (i : Nat) (y : D) : List.take l.length ((l.map en).set i y) = (l.map en).set i y:=List.take_of_length_le (by simp)
theorem Nw {α : Type} (en : α -> D) (l : List α) : List.take l.length (List.drop 0 (l.map en)) = l.map en:=DH en l
theorem QW {α : Type} (en : α -> D) (l : List α) {q : Nat} (h : q = l.length) : List.take q (List.drop 0 (l.map en)) = l.map en:=h ▸ DH en l
theorem Qz {α : Type} (en : α -> D) (l : List α) {q : Nat} (h : q = l.length) : List.take q (l.map en) = l.map en:=h ▸ DH en l
@[simp] theorem Ng {α : Type} (en : α -> D) (l l' : List α) : List.take (l.length + l'.length) (l.map en ++ l'.map en) = l.map en ++ l'.map en:=List.take_of_length_le (by simp)
def cel (d : D) (i : Nat) : D:=match d with | .agg cs=>cs.getD i .top | .tup cs=>cs.getD i .top | _=>.top
def uI : D -> Int | .int _ n=>n | _=>0
def uBo : D -> Bool | .bool b=>b | _=>false
def uL {α : Type} (u : D -> α) : D -> List α | .sl es=>es.map u | _=>[]
abbrev eL {α : Type} (en : α -> D) (l : List α) : D:=.sl (l.map en)
@[simp] theorem OY {α : Type} {u : D -> α} {en : α -> D} (h : ∀ a,u (en a) = a) (l : List α) : uL u (.sl (l.map en)) = l:=by
 simp only [uL,List.map_map]
 conv=>rhs; rw [<- List.map_id l]
 exact List.map_congr_left λa _=>h a
end Go.Dw
namespace Go.Dw
open Go.ChangeShapes Go.WideShapes Go.ChangeAt Go.RowKit Go.Deep
def Yq (W : World) : Fz:=λb i=>W.cell? ⟨b,i,none⟩
def Rep (W : World) (ds : List D) (cs : List Value) : Prop:=ds.length = cs.length /\ (∀ v ∈ cs,v.oneCell' = true) /\ ∀ (j : Nat) c v,ds[j]? = some c -> cs[j]? = some v -> Fro (Yq W) c v
structure Rd (P : Program) (W : World) {T : Type} (t : TypeId) (en : T -> D) (Q : T -> Prop) : Prop where
 rd : ∀ {H : Type} {enc : TypeId × Value -> H} (n : Nat) (cs : List Value) (x : DataW H × List MemPlace),DataW.trod enc P W 0 (λ_=>true) true n t cs = some x -> ∃ a,Q a /\ Rep W (cells (en a)) cs
def Pu (k : IntKind) (n : Int) : Prop:=k.min <= n /\ n <= k.max
def Are {T : Type} (_ : T) : Prop:=True
def qL {T : Type} (q : T -> Prop) (l : List T) : Prop:=l.length <= maxLen /\ ∀ x ∈ l,q x
section
variable {P : Program} {W : World} {t e : TypeId}
theorem Rep.one {d : D} {v : Value} (h1 : v.oneCell' = true) (h : Fro (Yq W) d v) : Rep W [d] [v]:=by
 refine ⟨rfl,λx hx=>?_,λj c x hc hx=>?_⟩
 ·simp only [List.mem_singleton] at hx; subst hx; exact h1
 ·rcases j with _ | j
  ·simp only [List.getElem?_cons_zero,Option.some.injEq] at hc hx
   subst hc; subst hx; exact h
  ·simp at hc
theorem Rd.int {k : IntKind} (ht : P.underlying t = some (.int k)) : Rd P W t (D.int k) (λn=>k.min <= n /\ n <= k.max):=by
 refine ⟨λn cs x h=>?_⟩
 cases n with
 | zero=>simp [DataW.trod] at h
 | succ n =>
  simp only [DataW.trod,ht] at h
  split at h <;> rename_i h1 <;> try (cases h1; done)
  all_goals try (cases h; done)
  cases h1
  split at h
  ·rename_i hc
   obtain ⟨rfl,hw⟩:=hc
   exact ⟨_,by simpa [Lit.wf] using hw,Rep.one rfl (.int _ _)⟩
  ·cases h
theorem Rd.bool (ht : P.underlying t = some .bool) : Rd P W t D.bool (λ_=>True):=by
 refine ⟨λn cs x h=>?_⟩
 cases n with
 | zero=>simp [DataW.trod] at h
 | succ n =>
  simp only [DataW.trod,ht] at h
  split at h <;> rename_i h1 <;> try (cases h1; done)
  all_goals try (cases h; done)
  exact ⟨_,trivial,Rep.one rfl (.bool _)⟩
theorem Rd.str (ht : P.underlying t = some .string) : Rd P W t D.str (λs=>s.length <= maxLen):=by
 refine ⟨λn cs x h=>?_⟩
 cases n with
 | zero=>simp [DataW.trod] at h
 | succ n =>
  simp only [DataW.trod,ht] at h
  split at h <;> simp_all
  rename_i s
  exact ⟨s.data.toList,by simpa using h.1,Rep.one rfl (by have:=Fro.str (F:=Yq W) s.data.toList; simpa using this)⟩
theorem Gt {a : Addr} {n : Nat} {cs : List Value} (h : W.cells? 0 a n = some cs) : cs.length = n /\ ∀ i,i < n -> W.cell? (a.add i) = cs[i]?:=by
 unfold World.cells? at h
 rw [if_pos (Nat.zero_le _)] at h
 have hl:=mapM_some_length h
 simp only [List.length_range] at hl
 exact ⟨hl,λi hi=>mapM_some_get h i i (by simp [hi])⟩
theorem Kv {a : Addr} {v : Value} (h : W.cell? a = some v) : a = ⟨a.block,a.off,none⟩:=by
 unfold World.cell? at h
 split at h
 ·split at h
  ·cases h
  ·rename_i hs
   obtain ⟨b,o,s⟩:=a
   cases s with
   | none=>rfl
   | some s=>simp at hs
 ·cases h
theorem Rd.slice {T : Type} [Inhabited T] {en : T -> D} {Q : T -> Prop} (ht : P.underlying t = some (.slice e)) (hs : 0 < P.cellsOf e) (hc : ∀ a,(cells (en a)).length = P.cellsOf e) (he : Rd P W e en Q) :
  Rd P W t (eL en) (λl=>l.length <= maxLen /\ ∀ x ∈ l,Q x):=by
 refine ⟨λn cs x h=>?_⟩
 rcases DataW.trod_slice ht h with ⟨rfl,_⟩ | ⟨a,len,cap,elems,rest,m,_,rfl,_,_,hl,hm,hlen,hel,_,_⟩
 ·exact ⟨[],⟨Nat.zero_le _,λx hx=>by cases hx⟩,Rep.one rfl (.sl0 none 0)⟩
 ·have each : ∀ i,∃ p : T × List Value,i < len -> W.cells? 0 (a.add (i * P.cellsOf e)) (P.cellsOf e) = some p.2 /\ Q p.1 /\ Rep W (cells (en p.1)) p.2:=by
   intro i
   by_cases hi : i < len
   ·have h1:=hel i hi
    have h2 : i < elems.length:=by omega
    rw [List.getElem?_eq_getElem h2,Option.bind_eq_some_iff] at h1
    obtain ⟨cs,h3,h4⟩:=h1
    obtain ⟨q,hq,hr⟩:=he.rd m cs _ h4
    exact ⟨(q,cs),λ_=>⟨h3,hq,hr⟩⟩
   ·exact ⟨(default,[]),λh=>absurd h hi⟩
  obtain ⟨f,hf⟩:=Classical.axiomOfChoice each
  have hes : ((List.range len).map λi=>(f i).1).length = len:=by simp
  refine ⟨(List.range len).map λi=>(f i).1,⟨by rw [hes]; omega,λx hx=>?_⟩,Rep.one rfl ?_⟩
  ·simp only [List.mem_map,List.mem_range] at hx
   obtain ⟨i,hi,rfl⟩:=hx
   exact (hf i hi).2.1
  ·by_cases h0 : len = 0
   ·subst h0
    exact .sl0 _ _
   ·have hget : ∀ (i j : Nat),i < len -> j < P.cellsOf e -> W.cell? ((a.add (i * P.cellsOf e)).add j) = (f i).2[j]?:=λi j hi hj=>(Gt (hf i hi).1).2 j hj
    have hlenc : ∀ i,i < len -> (f i).2.length = P.cellsOf e:=λi hi=>(Gt (hf i hi).1).1
    have ha : a = ⟨a.block,a.off,none⟩:=by
     have h1:=hget 0 0 (by omega) hs
     have h2 : 0 < (f 0).2.length:=by rw [hlenc 0 (by omega)]; exact hs
     rw [List.getElem?_eq_getElem h2] at h1
     simp only [Nat.zero_mul,Addr.add,if_true] at h1
     exact Kv h1
    generalize a.block = b at ha
    generalize a.off = o at ha
    subst ha
    have hidx : ∀ (i : Nat) x,(((List.range len).map λi=>(f i).1).map en)[i]? = some x -> i < len /\ x = en (f i).1:=by
     intro i x hx
     simp only [List.getElem?_map,Option.map_eq_some_iff] at hx
     obtain ⟨q,⟨r,hr,rfl⟩,rfl⟩:=hx
     obtain ⟨h1,h2⟩:=List.getElem?_eq_some_iff.1 hr
     simp only [List.getElem_range] at h2
     subst h2
     exact ⟨by simpa using h1,rfl⟩
    have key : ∀ (i j : Nat) x c,(((List.range len).map λi=>(f i).1).map en)[i]? = some x -> (cells x)[j]? = some c -> i < len /\ ∃ v,(f i).2[j]? = some v /\ Yq W b (o + i * P.cellsOf e + j) = some v /\ v.oneCell' = true /\ Fro (Yq W) c v:=by
     intro i j x c hx hj
     obtain ⟨hi,rfl⟩:=hidx i x hx
     obtain ⟨_,_,r1,r2,r3⟩:=hf i hi
     have hjl : j < (cells (en (f i).1)).length:=(List.getElem?_eq_some_iff.1 hj).1
     have hjl' : j < (f i).2.length:=by rw [<- r1]; exact hjl
     have hv:=List.getElem?_eq_getElem hjl'
     refine ⟨hi,_,hv,?_,r2 _ (List.getElem_mem hjl'),r3 j c _ hj hv⟩
     have:=hget i j hi (by rw [<- hc (f i).1]; exact hjl)
     rw [BL,BL,hv] at this
     exact this
    have:=Fro.sl (F:=Yq W) (((List.range len).map λi=>(f i).1).map en) b o cap (P.cellsOf e) (λi j=>(f i).2.getD j undef) (by simpa using hl)
     (λx hx=>by
      simp only [List.mem_map] at hx
      obtain ⟨q,_,rfl⟩:=hx
      exact hc q)
     (λi j x c hx hj=>by
      obtain ⟨_,v,h1,h2,_⟩:=key i j x c hx hj
      rw [h2,List.getD_eq_getElem?_getD,h1]; rfl)
     (λi j x c hx hj=>by
      obtain ⟨_,v,h1,_,h3,_⟩:=key i j x c hx hj
      rw [List.getD_eq_getElem?_getD,h1]; exact h3)
     (λi j x c hx hj=>by
      obtain ⟨_,v,h1,_,_,h4⟩:=key i j x c hx hj
      rw [List.getD_eq_getElem?_getD,h1]; exact h4)
    rw [List.length_map,hes] at this
    exact this
theorem Rep.append {ds ds' : List D} {cs cs' : List Value} (h : Rep W ds cs) (h' : Rep W ds' cs') : Rep W (ds ++ ds') (cs ++ cs'):=by
 obtain ⟨h1,h2,h3⟩:=h
 obtain ⟨k1,k2,k3⟩:=h'
 refine ⟨by simp [h1,k1],λv hv=>(List.mem_append.1 hv).elim (h2 v) (k2 v),λj c v hc hv=>?_⟩
 by_cases hj : j < ds.length
 ·rw [List.getElem?_append_left hj] at hc
  rw [List.getElem?_append_left (by omega)] at hv
  exact h3 j c v hc hv
 ·rw [List.getElem?_append_right (by omega)] at hc
  rw [List.getElem?_append_right (by omega),<- h1] at hv
  exact k3 _ c v hc hv
theorem Rd.arg {T : Type} {en : T -> D} {Q : T -> Prop} (h : Rd P W t en Q) (hagg : ∀ a,(match P.underlying t with | some (.struct _) | some (.array _ _)=>True | _=>False) -> ∃ cs,en a = .agg cs)
  (hone : ∀ a,¬ (match P.underlying t with | some (.struct _) | some (.array _ _)=>True | _=>False) -> cells (en a) = [en a])
  {H : Type} {enc : TypeId × Value -> H} {b0 : Nat} {v : Value} {d : DataW H} {p : List MemPlace} (hv : Value.okWide P W .any b0 t v) (hr : DataW.Trod enc P W 0 (λ_=>true) true t v d p) : ∃ a,Q a /\ Fro (Yq W) (en a) v:=by
 obtain ⟨n,hn⟩:=hr
 obtain ⟨a,hq,r1,r2,r3⟩:=h.rd n _ _ hn
 refine ⟨a,hq,?_⟩
 by_cases hs : (match P.underlying t with | some (.struct _) | some (.array _ _)=>True | _=>False)
 ·obtain ⟨cs,hcs⟩:=hagg a hs
  have hva : ∃ C,v = .agg C:=by
   unfold Value.okWide at hv
   split at hv
   ·obtain ⟨C,rfl,_⟩:=hv; exact ⟨C,rfl⟩
   ·obtain ⟨C,rfl,_⟩:=hv; exact ⟨C,rfl⟩
   ·rename_i h1 h2
    split at hs
    ·rename_i fs hu; exact absurd hu (h1 fs)
    ·rename_i m e hu; exact absurd hu (h2 m e)
    ·exact hs.elim
  obtain ⟨C,rfl⟩:=hva
  rw [hcs] at r1 r3 ⊢
  simp only [Value.cells] at r1 r2 r3
  have:=Fro.agg (F:=Yq W) cs C.toList r1 r2 r3
  simpa using this
 ·have h1:=hone a hs
  have hva : ∃ x,v.cells.toList = [x] /\ v = x:=by
   have hl : v.cells.toList.length = 1:=by rw [<- r1,h1]; rfl
   cases v with
   | agg C =>
    exfalso
    unfold Value.okWide at hv
    split at hv
    ·rename_i fs hu; exact hs (by rw [hu]; trivial)
    ·rename_i m e hu; exact hs (by rw [hu]; trivial)
    ·unfold Cell.okWide at hv
     split at hv <;> first | (rename_i h1 h2; cases h2) | skip
     unfold Cell.ok at hv
     split at hv <;> first | (rename_i h1 h2; cases h2) | exact hv
   | _=>exact ⟨_,rfl,rfl⟩
  obtain ⟨x,hx,rfl⟩:=hva
  rw [h1] at r3
  exact r3 0 _ _ rfl (by rw [hx]; rfl)
end
end Go.Dw
namespace Go.Dw
open Go.ChangeShapes Go.WideShapes Go.ChangeAt Go.RowKit
section
variable {H : Type} {enc : TypeId × Value -> H} {P : Program} {W W' : World}
theorem KN (hb : ∀ b,b < W.heap.size -> W'.heap[b]? = W.heap[b]?) {a : Addr} (h : a.block < W.heap.size) : W'.cell? a = W.cell? a:=by
 unfold World.cell?
 rw [hb _ h]
theorem JA (hb : ∀ b,b < W.heap.size -> W'.heap[b]? = W.heap[b]?) {a : Addr} (h : a.block < W.heap.size) : W'.frozen? a = W.frozen? a:=by
 unfold World.frozen?
 rw [hb _ h]
theorem Ld (hb : ∀ b,b < W.heap.size -> W'.heap[b]? = W.heap[b]?) {p : MemPlace} (h : p.block < W.heap.size) : W.sameAt W' p:=by
 cases p with
 | cell b off=>exact KN hb h
 | map b=>exact hb b h
theorem EP {sp : Nat -> Bool} (K : Kids P (· < P.types.size)) (hz : ∀ t e,t < P.types.size -> P.underlying t = some (.slice e) -> 0 < P.cellsOf e) : ∀ {ts : List TypeId} {vs : List Value} {ds : List (DataW H)} {ps : List MemPlace},(∀ t ∈ ts,t < P.types.size) ->
  DataW.TrodAll enc P W 0 (λ_=>true) true ts vs ds ps -> (∀ p ∈ ps,W.sameAt W' p) -> (∀ p ∈ ps,sp p.block = true) -> DataW.TrodAll enc P W' 0 sp true ts vs ds ps
 | [],[],[],_,_,h,_,_=>h
 | _ :: _,_ :: _,_ :: _,_,hT,⟨p,q,⟨n,h1⟩,h2,e⟩,hs,hsp=>by
  subst e
  exact ⟨p,q,⟨n,DataW.trod_respare K hz n _ _ _ (hT _ (List.mem_cons.2 (Or.inl rfl))) (DataW.trod_carry n _ _ _ h1 (λx hx=>hs x (List.mem_append_left _ hx))) (λx hx=>hsp x (List.mem_append_left _ hx))⟩,
   EP K hz (λt ht=>hT t (List.mem_cons.2 (Or.inr ht))) h2 (λx hx=>hs x (List.mem_append_right _ hx)) (λx hx=>hsp x (List.mem_append_right _ hx)),rfl⟩
 | [],[],_ :: _,_,_,h,_,_=>h.elim
 | [],_ :: _,_,_,_,h,_,_=>h.elim
 | _ :: _,[],_,_,_,h,_,_=>h.elim
 | _ :: _,_ :: _,[],_,_,h,_,_=>h.elim
theorem Hz {f : Func} {s : ChangeSpec} {apart fresh handsOn again : Bool} {args : Array Value} {v : Value} {ds gs : List (DataW H)} {before : List MemPlace}
  (hW : DataW.Whole enc P f.params.toList s.vars apart W args.toList ds gs before) (hvs : s.vars = []) (K : Kids P (· < P.types.size)) (hz : ∀ t e,t < P.types.size -> P.underlying t = some (.slice e) -> 0 < P.cellsOf e) (hts : ∀ t ∈ f.params.toList,t < P.types.size)
  (hres : ∀ (b : Nat) (sp : Nat -> Bool) (hd : Bool),DataW.TrodAll enc P W' b sp hd f.resultTypes.toList (v.resultList f.resultTypes.size) (s.fn H (ds ++ gs)).results [])
  (hargs : (s.fn H (ds ++ gs)).args = ds) (hvars : (s.fn H (ds ++ gs)).vars = []) (hos : W'.os = W.os) (hout : W'.output = W.output) (hb : ∀ b,b < W.heap.size -> W'.heap[b]? = W.heap[b]?)
  (hok : ∀ (j : Nat) (t : TypeId) (r : Value),f.resultTypes[j]? = some t -> (v.resultList f.resultTypes.size)[j]? = some r -> Value.okWide P W' .any 0 t r) :
  s.post enc P f apart fresh handsOn again W args v W':=by
 have hW':=hW
 obtain ⟨p,q,hA,hV,e,hzz,hn⟩:=hW
 rw [hvs] at hV
 obtain ⟨rfl,rfl⟩:=trodVars_none hV
 subst e
 simp only [List.append_nil] at hW' hn hzz
 have hlt : ∀ x ∈ p,x.block < W.heap.size:=hW'.lt
 have hargs' : ∀ sp : Nat -> Bool,(∀ x ∈ p,sp x.block = true) -> DataW.TrodAll enc P W' 0 sp true f.params.toList args.toList (s.fn H (ds ++ [])).args p:=by
  intro sp hsp
  rw [hargs]
  exact EP K hz hts hA (λx hx=>Ld hb (hlt x hx)) hsp
 have hvars' : ∀ sp : Nat -> Bool,DataW.TrodVars enc P W' sp s.vars (s.fn H (ds ++ [])).vars []:=by
  intro sp
  rw [hvs,hvars]
  exact (rfl : ([] : List MemPlace) = [])
 have hold : ∀ x ∈ p,(λb=>decide (b < W.heap.size)) x.block = true:=λx hx=>by simpa using hlt x hx
 refine ⟨ds,[],p,[],p,[],hW',hres _ _ _,hargs' _ hold,hvars' _,⟨hos,hout,λi hi=>?_⟩,λ_=>?_⟩
 ·rw [hb i hi]
  cases W.heap[i]? with
  | none=>rfl
  | some o=>cases o <;> first | exact ⟨rfl,rfl,rfl,λ_ _=>rfl⟩ | exact .inr ⟨rfl,rfl⟩ | rfl
 ·refine ⟨hok,_,_,([] ++ p) ++ [],⟨[] ++ p,[],trodAll_append (hargs' _ (λ_ _=>rfl)) (hres _ _ _),hvars' _,rfl,?_,?_⟩,?_⟩
  ·intro b off hp
   have hp' : MemPlace.cell b off ∈ p:=by simpa using hp
   rw [JA hb (hlt _ hp')]
   exact hzz b off hp'
  ·intro ha
   have:=hn ha
   simpa using this
  ·intro x hp _
   simpa using hp
theorem AnC {k : Nat} {fn : Func} {A : Type} {enc0 : A -> List D} {dec0 : List D -> A} {f : A -> Option Bool} {encR : Bool -> D} {encE : Bool -> List D} (hspec : NG P k (NJ [] .ground enc0 dec0 f encR encE)) (hde : ∀ a,dec0 (enc0 a) = a) (hR : encR true = .bool true)
  {s : ChangeSpec} {apart fresh handsOn again : Bool} {args : Array Value} {ds gs : List (DataW H)} {before : List MemPlace} (hW : DataW.Whole enc P fn.params.toList s.vars apart W args.toList ds gs before) (hvs : s.vars = [])
  (hl : laidOutB P = true) (hm : mapsRowed P = true) (hz : ((List.range P.types.size).all λt=>match P.underlying t with | some (.slice e)=>decide (0 < P.cellsOf e) | _=>true) = true) (hts : fn.params.toList.all (λt=>decide (t < P.types.size)) = true)
  {tb : TypeId} (hrt : fn.resultTypes = #[tb]) (htb : P.underlying tb = some .bool) (hfn : ∀ ds : List (DataW H),ds.length = fn.params.size -> s.fn H ds = { results:=[.lit (.bool true)],args:=ds,vars:=[] }) (hlen : ds.length = fn.params.size)
  (hglob : AfF P (Yq W)) (hread : ∃ a,BO (Yq W) W [] 0 (enc0 a) args.toList [] /\ f a = some true) :
  Calls P k args W λe W'=>∃ v,e = .returned v /\ s.post enc P fn apart fresh handsOn again W args v W':=by
 obtain ⟨a,hA,hfa⟩:=hread
 have hgs : gs = []:=by
  obtain ⟨p,q,_,hV,_⟩:=hW
  rw [hvs] at hV
  exact (trodVars_none hV).1
 subst hgs
 have hF : Fok (Yq W) W:=λb i x h=>h
 have hfin : ∀ b i x,Yq W b i = some x -> b < W.heap.size:=by
  intro b i x h
  simp only [Yq,World.cell?] at h
  split at h
  ·rename_i hb
   exact (Array.getElem?_eq_some_iff.1 hb).1
  ·cases h
 have h:=(hspec (Yq W) hglob).2.2.1 rfl rfl W (Yq W) (enc0 a) args.toList [] (Af.refl _) hF hfin hA ⟨a,true,rfl,hfa⟩
 have e0 : args.toList.toArray = args:=by simp
 rw [e0] at h
 refine h.mono λe W' hq=>?_
 obtain ⟨v,F',_,_,rfl,_,_,hst,hres,_⟩:=hq
 have hv : v = .bool true:=by
  have h1 : Fro F' ((NJ [] .ground enc0 dec0 f encR encE).res (enc0 a)) v:=hres
  rw [BH hde hfa,hR] at h1
  cases h1
  rfl
 subst hv
 refine ⟨_,rfl,Hz hW hvs (kids_rows hl hm) (slices_full_of P hz) (λt ht=>by simpa using List.all_eq_true.1 hts t ht) ?_ ?_ ?_ hst.os hst.output (λb hb=>hst.block b hb (λ⟨_,hm,_⟩=>by cases hm)) ?_⟩
 ·intro b sp hd
  rw [List.append_nil,hfn ds hlen,hrt]
  exact trodAll_cons_mk (p:=[]) (p':=[]) (shut_bool htb true) trodAll_mk0
 ·rw [List.append_nil,hfn ds hlen]
 ·rw [List.append_nil,hfn ds hlen]
 ·exact ok_one hrt rfl (okWide_bool_mk htb true)
end
end Go.Dw
namespace Go.Dw
def uR {α : Type} (u : D -> α) : D -> List α | .row _ _ es=>es.map u | _=>[]
@[simp] theorem Nv {α : Type} {u : D -> α} {en : α -> D} (h : ∀ a,u (en a) = a) (s ty : Nat) (l : List α) : uR u (.row s ty (l.map en)) = l:=by
 simp only [uR,List.map_map]
 conv=>rhs; rw [<- List.map_id l]
 exact List.map_congr_left λa _=>h a
theorem AcO {α : Type} {l : List α} {en : α -> D} (h : ∀ q,AG (en q) = true) : ∀ e ∈ l.map en,AG e = true:=λe he=>by
 obtain ⟨q,_,rfl⟩:=List.mem_map.1 he
 exact h q
section
variable {Γ : Ar} {X : Type} {K : KR X} {t : Option X} {e : List (Nat × D)} {o : List (Nat × Aa)} {n nv : Nat} {d : Bool} {acc : List CG}
 {r : List At} {dst : Nat} {g : Option (Nat × Bool)} {af : List Nat} {α : Type}
variable {x y : Arg} {v w : D} {k k' : IntKind} {a b : Int} {s ty gi vi ii off m : Nat} {fz var : Bool} {es es' : List D} {z z' : D} {l l' : List α} {en : α -> D}
theorem PM {i : Nat} {c : Prop} {cs' : List D} {wo : List (Nat × Aa)} {rk : List Key} (hg : gOn e g = true) (hx : Ab e x = some (.optr gi vi i off)) (hy : Ab e y = some v) (hw : strip v = (true,v)) (ho : lkO o gi = some (vi,⟨false,var,s,ty,es⟩))
  (hr : (AF var (cells v)).run ⟨e,o,n⟩ = (c,cs',wo)) (hrd : (AF var (cells v)).rd ⟨e,o,n⟩ = rk) (hc : c) (hz : es[i]? = some z) (hk : known v = true) (hl : (cells v).length = m) (hb : Nat.ble (off + m) (cells z).length = true)
  (hes : es.set i (Pl z off cs') = es') (hwo : wo.all (λx=>x.1 != gi) = true)
  (h : TrO Γ r (nv + 1) ⟨e,(gi,some (vi,⟨false,var,s,ty,es'⟩)) :: (wo ++ o),n⟩ d (acc ++ [(gK g ++ (rdK x ++ (rdK y ++ (.o gi :: rk))),.o gi :: wo.map (λx=>.o x.1),af)]) K t) (hrg : Ac gi = true:=by rfl) :
  TrO Γ (⟨none,.st m x y,g,af⟩ :: r) nv ⟨e,o,n⟩ d acc K t:=by
 have hb':=Nat.le_of_ble_eq_true hb
 obtain ⟨hi',rfl⟩:=List.getElem?_eq_some_iff.1 hz
 have hgd : es.getD i .top = es[i]:=by simp [hi']
 refine Aq hg (c:=True) (we:=[]) (wo:=(gi,some (vi,⟨false,var,s,ty,es'⟩)) :: wo) (rd:=rdK x ++ (rdK y ++ (Key.o gi :: rk))) ?_ ?_ trivial (by simpa using h)
 ·simp only [evalOp,R.run_bind,Ay,Option.getD_some,hx,hy,hw,Ck,R.BI,AN,ho,hrg,if_true,R.AO,hr,hgd,hes]
  simp [hc,hi',hb',hk,hl,hwo]
 ·simp only [evalOp,R.Bk,Ay,CC,Option.getD_some,hx,hy,hw,Ck,R.Dv,AN,ho,hrg,if_true,R.Dh,hrd,hr]
  simp
theorem Fg {s' ty' q : Nat} (hg : gOn e g = true) (hx : Ab e x = some (.osl gi vi 0 q)) (ho : lkO o gi = some (ii,⟨false,var,s,ty,es⟩))
  (h : TrO Γ r (nv + 1) ⟨(dst,.osl gi vi 0 q) :: e,o,n⟩ d (acc ++ [(gK g ++ (rdK x ++ [.o gi]),[.e dst],af)]) K t) (hrg : Ac gi = true:=by rfl) :
  TrO Γ (⟨some dst,.asg x (some (s',ty')),g,af⟩ :: r) nv ⟨e,o,n⟩ d acc K t:=by
 refine Aq hg (c:=True) (we:=[(dst,.osl gi vi 0 q)]) (wo:=[]) (rd:=rdK x ++ [Key.o gi]) ?_ ?_ trivial h
 ·simp only [evalOp,R.run_bind,Bj,Option.getD_some,hx,R.BI,AN,ho,Bool.false_eq_true,if_false,R.AO,hrg,if_true,Ae]
 ·simp only [evalOp,R.Bk,Bj,EX,Option.getD_some,hx,R.Dv,AN,ho,Bool.false_eq_true,if_false,hrg,if_true,R.Dh]
theorem AeY {bytes : Nat} (hg : gOn e g = true) (hx : Ab e x = some (.int k a)) (hy : Ab e y = some (.int k' a)) (hl : 0 <= a /\ a <= 16777216) (hby : Nat.ble bytes 65536 = true)
  (h : TrO Γ r (nv + 1) ⟨(dst,.osl dst nv 0 (List.replicate a.toNat ([] : List α)).length) :: e,(dst,some (nv,⟨false,false,s,ty,(List.replicate a.toNat ([] : List α)).map (λ_=>.nils)⟩)) :: o,n⟩ d (acc ++ [(gK g ++ (rdK x ++ rdK y),[.e dst,.o dst],af)]) K t) :
  TrO Γ (⟨some dst,.mkS s ty bytes .nils x y,g,af⟩ :: r) nv ⟨e,o,n⟩ d acc K t:=by
 have:=Nat.le_of_ble_eq_true hby
 exact Aq hg (c:=True) (we:=[(dst,.osl dst nv 0 (List.replicate a.toNat ([] : List α)).length)]) (wo:=[(dst,some (nv,⟨false,false,s,ty,(List.replicate a.toNat ([] : List α)).map (λ_=>.nils)⟩))]) (rd:=rdK x ++ rdK y) (by simp [evalOp,Ae,AD,strip,hx,hy,hl,this]) (by simp [evalOp,strip,hx,hy]) trivial h
end
section
variable {e E : List (Nat × D)} {o O : List (Nat × Aa)} {n : Nat} {α : Type} {g v s ty : Nat} {var : Bool} {es es' : List D} {z : D}
theorem Gz {τ : S} (hw : Rw ⟨e,o,n⟩ τ) (h : Has τ E O) : Has ⟨e,o,n⟩ E O:=h.imp λ_ h=>.rw hw h
theorem Aex (ho : lkO o g = some (v,⟨false,var,s,ty,es⟩)) (he : Each Frr es es') (h : Has ⟨e,(g,some (v,⟨false,var,s,ty,es'⟩)) :: o,n⟩ E O) (hrg : Ac g = true:=by rfl) : Has ⟨e,o,n⟩ E O:=by
 have:=Rw.frows (σ:=⟨e,o,n⟩) g v ⟨false,var,s,ty,es⟩ es' (by rw [AN]; exact ho) hrg rfl he
 exact Gz this h
theorem Aho (ho : lkO o g = some (v,⟨false,false,s,ty,es⟩)) (he : es.map nrm = es') (h : Has ⟨e,(g,some (v,⟨false,false,s,ty,es'⟩)) :: o,n⟩ E O) (hrg : Ac g = false:=by rfl) : Has ⟨e,o,n⟩ E O:=by
 subst he
 have:=Rw.nilsl (σ:=⟨e,o,n⟩) g v ⟨false,false,s,ty,es⟩ (by rw [AN]; exact ho) hrg rfl rfl
 exact Gz this h
theorem Ajr {l : List (List α)} (en : α -> D) (hl : ∀ q ∈ l,q = []) : (l.map λ_=>D.nils).map nrm = l.map (eL en):=by
 rw [List.map_map]
 refine List.map_congr_left λq hq=>?_
 rw [hl q hq]
 rfl
theorem AaD (ho : lkO o g = some (v,⟨false,true,s,ty,[z]⟩)) (hc : (cells z).all OK = true) (h : Has ⟨e.map (λp=>(p.1,frp g v z p.2)),(g,none) :: o.map (λp=>(p.1,frO g v z p.2)),n⟩ E O) : Has ⟨e,o,n⟩ E O:=by
 have:=Rw.fvar (σ:=⟨e,o,n⟩) g v ⟨false,true,s,ty,[z]⟩ z (by rw [AN]; exact ho) rfl rfl rfl hc
 exact Gz this h
end
end Go.Dw
namespace Go.Dw
def uA {α : Type} (u : D -> α) : D -> List α | .agg cs=>cs.map u | _=>[]
@[simp] theorem Nu {α : Type} {u : D -> α} {en : α -> D} (h : ∀ a,u (en a) = a) (l : List α) : uA u (.agg (l.map en)) = l:=by
 simp only [uA,List.map_map]
 conv=>rhs; rw [<- List.map_id l]
 exact List.map_congr_left λa _=>h a
def fpD : D -> D | .fptr e _=>e | _=>.top
def Ajj : D -> Nat -> D | .clo _ caps,j=>caps.getD j .top | _,_=>.top
theorem Hq (cs : List D) (off : Nat) (d : D) : setAt cs off [d] = cs.set off d:=rfl
section
variable {Γ : Ar} {X : Type} {K : KR X} {t : Option X} {e : List (Nat × D)} {o : List (Nat × Aa)} {n nv : Nat} {d : Bool} {acc : List CG}
 {r : List At} {dst : Nat} {g : Option (Nat × Bool)} {af : List Nat} {α : Type}
variable {x y : Arg} {v w : D} {k k' : IntKind} {a b : Int} {s ty gi vi ii off m : Nat} {fz var : Bool} {l : List α} {en : α -> D}
theorem OZ {i len : Nat} (hg : gOn e g = true) (hx : Ab e x = some (.optr gi vi i off)) (hy : Ab e y = some (.int k a)) (hi : 0 <= a /\ a < len)
  (h : TrO Γ r (nv + 1) ⟨(dst,.optr gi vi i (off + a.toNat * s)) :: e,o,n⟩ d (acc ++ [(gK g ++ (rdK x ++ rdK y),[.e dst],af)]) K t) :
  TrO Γ (⟨some dst,.ixP s len x y,g,af⟩ :: r) nv ⟨e,o,n⟩ d acc K t :=
 Aq hg (c:=True) (we:=[(dst,.optr gi vi i (off + a.toNat * s))]) (wo:=[]) (rd:=rdK x ++ rdK y) (by simp [evalOp,Ae,strip,hx,hy,hi.1,hi.2]) (by simp [evalOp,strip,hx,hy]) trivial h
theorem Xa {q : α} {j : Nat} (hj : off = j) (hg : gOn e g = true) (hx : Ab e x = some (.optr gi vi 0 off)) (ho : lkO o gi = some (vi,⟨fz,var,s,ty,[.agg (l.map en)]⟩)) (hi : l[j]? = some q) (hpl : plain (en q) = true) (_hc : ∀ q,cells (en q) = [en q])
  (h : TrO Γ r (nv + 1) ⟨(dst,en q) :: e,o,n⟩ d (acc ++ [(gK g ++ (rdK x ++ [.o gi]),[.e dst],af)]) K t) :
  TrO Γ (⟨some dst,.ld 1 false x,g,af⟩ :: r) nv ⟨e,o,n⟩ d acc K t:=by
 subst hj
 have hl:=(List.getElem?_eq_some_iff.1 hi).1
 refine CM (i:=0) (m:=1) (agg:=false) (off:=off) (z:=.agg (l.map en)) (v:=en q) hg hx ho rfl ?_ ?_ h (by simp [hpl])
 ·simp only [cells,List.length_map]
  exact Nat.ble_eq_true_of_le (by omega)
 ·simp only [QJ,cells,Bool.false_eq_true,if_false]
  simp [hi]
theorem AkB {q q' : α} {j : Nat} {z' : D} (hj : off = j) (hg : gOn e g = true) (hx : Ab e x = some (.optr gi vi 0 off)) (hy : Ab e y = some (en q')) (hw : strip (en q') = (true,en q')) (ho : lkO o gi = some (vi,⟨false,true,s,ty,[.agg (l.map en)]⟩)) (hi : l[j]? = some q) (hk : known (en q') = true) (hc : cells (en q') = [en q']) (hz : D.agg ((l.set j q').map en) = z')
  (h : TrO Γ r (nv + 1) ⟨e,(gi,some (vi,⟨false,true,s,ty,[z']⟩)) :: o,n⟩ d (acc ++ [(gK g ++ (rdK x ++ (rdK y ++ [.o gi])),[.o gi],af)]) K t) (hrg : Ac gi = false:=by rfl) :
  TrO Γ (⟨none,.st 1 x y,g,af⟩ :: r) nv ⟨e,o,n⟩ d acc K t:=by
 subst hj
 subst hz
 have hl:=(List.getElem?_eq_some_iff.1 hi).1
 refine Dz (z:=.agg (l.map en)) (z':=.agg ((l.set off q').map en)) hg hx hy hw ho hk (by rw [hc]; rfl) ?_ ?_ h hrg
 ·simp only [cells,List.length_map]
  exact Nat.ble_eq_true_of_le (by omega)
 ·simp only [Pl,hc,Hq,List.map_set]
theorem AeJ {q q' : α} {j : Nat} {z' : D} (hj : off = j) (hg : gOn e g = true) (hx : Ab e x = some (.optr gi vi 0 off)) (hy : Ab e y = some (en q')) (hw : strip (en q') = (true,en q')) (ho : lkO o gi = some (vi,⟨false,true,s,ty,[.agg (l.map en)]⟩)) (hi : l[j]? = some q) (hk : known (en q') = true) (hc : cells (en q') = [en q']) (hz : D.agg ((l.set j q').map en) = z')
  (hcl : (AF true [en q']).run ⟨e,o,n⟩ = (True /\ True /\ ([] : List (Nat × Aa)).all (λ_=>([] : List (Nat × Aa)).all λ_=>true) = true,[en q'],[])) (hrd : (AF true [en q']).rd ⟨e,o,n⟩ = [])
  (h : TrO Γ r (nv + 1) ⟨e,(gi,some (vi,⟨false,true,s,ty,[z']⟩)) :: o,n⟩ d (acc ++ [(gK g ++ (rdK x ++ (rdK y ++ [.o gi])),[.o gi],af)]) K t) (hrg : Ac gi = true:=by rfl) :
  TrO Γ (⟨none,.st 1 x y,g,af⟩ :: r) nv ⟨e,o,n⟩ d acc K t:=by
 subst hj
 subst hz
 have hl:=(List.getElem?_eq_some_iff.1 hi).1
 refine PM (i:=0) (c:=True /\ True /\ ([] : List (Nat × Aa)).all (λ_=>([] : List (Nat × Aa)).all λ_=>true) = true) (z:=.agg (l.map en)) (es':=[.agg ((l.set off q').map en)]) (cs':=[en q']) (wo:=[]) (rk:=[]) hg hx hy hw ho (by rw [hc]; exact hcl) (by rw [hc]; exact hrd) ⟨trivial,trivial,rfl⟩ rfl hk (by rw [hc]; rfl) ?_ ?_ rfl h hrg
 ·simp only [cells,List.length_map]
  exact Nat.ble_eq_true_of_le (by omega)
 ·simp only [Pl,Hq,List.map_set,List.set_cons_zero]
end
end Go.Dw
namespace Go.Dw
section
variable {Γ Γ' : Ar} {X ι γ : Type} {K : X -> Au -> S -> Prop} {t : Option X} {e E : List (Nat × D)} {o O : List (Nat × Aa)} {n nv N : Nat} {acc : List CG}
 {r : List At} {dst : Option Nat} {g : Option (Nat × Bool)} {af : List Nat}
theorem AqS {σ : S} {E1 : List (Nat × D)} {O1 : List (Nat × Aa)} (h : Has σ E1 O1) (k : ∀ n,Has ⟨E1,O1,n⟩ E O) : Has σ E O :=
 h.elim λn h=>(k n).imp λ_ k=>h.trans k
theorem Anx (rn : Nat -> Nat) (hn : DB rn (o.map Prod.fst) = true) (h : Has ⟨e.map (λp=>(p.1,rnm rn p.2)),o.map (λp=>(rn p.1,rnO rn p.2)),n⟩ E O) : Has ⟨e,o,n⟩ E O :=
 Gz (Rw.nams (σ:=⟨e,o,n⟩) rn hn) h
def TrC (Γ : Ar) (op : At) (r : List At) (K : X -> Au -> S -> Prop) (σ : S) (t : Option X) : Prop:=∀ x,t = some x -> GR Γ op σ (Wk (λτ=>wpS Γ r τ.n τ (K x .normal)))
theorem Asa {op : At} {E : γ -> List (Nat × D)} {O : γ -> List (Nat × Aa)} (g0 : γ) (hh : Has ⟨e,o,nv⟩ (E g0) (O g0)) (h : ∀ g nn,TrC Γ op r K ⟨E g,O g,nn⟩ t) : TrO Γ (op :: r) nv ⟨e,o,n⟩ false acc (HU N K) t:=by
 intro x hx
 refine ⟨λ_=>.inr (.inl ?_),λhd=>by cases hd⟩
 obtain ⟨m,hm⟩:=hh
 exact ⟨_,hm,h g0 m x hx⟩
def KU (Γ : Ar) (r : List At) (dst : Option Nat) (rs : List AZ) (e : List (Nat × D)) (K : X -> Au -> S -> Prop) : X -> Au -> S -> Prop:=λx =>
 MY rs e (λd τ=>Wk (λτ=>wpS Γ r τ.n τ (K x .normal)) ⟨Ae dst d ++ τ.e,τ.o,τ.n⟩)
theorem Lj {fa : Arg} {args : List Arg} {k np : Nat} {caps ds : List D} {rs : List AZ} {dc : QB} {KK : X -> Au -> S -> Prop} (hg : gOn e g = true) (hf : Ab e fa = some (.clo k caps)) (hds : Ak e args = ds) (hw : ds.all (λd=>(match d with | .when ..=>false | _=>true)) = true) (hkb : Nat.blt k 4096 = true)
  (hΓ : Γ (k + 4096 * AJ ds) = some (AnE Γ' np rs dc)) (hnp : (ds ++ caps).length = np) (hE : DT 0 (ds ++ caps) = E) (hK : ∀ x ex τ,KK x ex τ -> KU Γ r dst rs e K x ex τ) (h : Tr Γ' dc KK ⟨E,o,n⟩ t) :
  TrC Γ ⟨dst,.call fa args,g,af⟩ r K ⟨e,o,n⟩ t:=by
 intro x hx
 have hrd : (AH args).run ⟨e,o,n⟩ = ds:=by rw [<- hds]; exact Bo args
 have hraw : (raw fa).run ⟨e,o,n⟩ = .clo k caps:=by simp [hf]
 have hon : onG g ⟨e,o,n⟩:=by
  cases g with
  | none=>trivial
  | some p =>
   obtain ⟨tt,want⟩:=p
   show (guardOf ((S.mk e o n).ge tt) want).1 /\ (guardOf ((S.mk e o n).ge tt) want).2 = true
   simp only [gOn,BC] at hg
   simp only [S.ge]
   generalize (look e tt).getD .top = dd at *
   cases dd <;> simp_all [guardOf]
   rename_i p dd
   cases dd <;> simp_all
 refine ⟨hon,fa,args,k,caps,AnE Γ' np rs dc,KW Γ' np rs dc,Wk (λτ=>wpS Γ r τ.n τ (K x .normal)),λτ hτ=>hτ,rfl,hraw,hkb,?_,rfl,?_,?_⟩
 ·show Γ (k + 4096 * AJ ((AH args).run ⟨e,o,n⟩)) = _
  rw [hrd]; exact hΓ
 ·show ((AH args).run ⟨e,o,n⟩).all _ = true
  rw [hrd]; exact hw
 ·show KW Γ' np rs dc ((AH args).run ⟨e,o,n⟩ ++ caps) ⟨e,o,n⟩ _
  rw [hrd]
  refine ⟨hnp,_,.refl _,?_⟩
  show DWp Γ' dc _ ⟨DT 0 (ds ++ caps),o,n⟩
  rw [hE]
  exact Bp dc _ _ _ (λex τ hq=>hK x ex τ hq) (h x hx)
theorem Arl {fa : Arg} {args : List Arg} {k np : Nat} {caps ds : List D} {rs : List AZ} {dc : QB} (hg : gOn e g = true) (hf : Ab e fa = some (.clo k caps)) (hds : Ak e args = ds) (hw : ds.all (λd=>(match d with | .when ..=>false | _=>true)) = true) (hkb : Nat.blt k 4096 = true)
  (hΓ : Γ (k + 4096 * AJ ds) = some (AnE Γ' np rs dc)) (hnp : (ds ++ caps).length = np) (hE : DT 0 (ds ++ caps) = E) (h : Tr Γ' dc (KU Γ r dst rs e K) ⟨E,o,n⟩ t) :
  TrC Γ ⟨dst,.call fa args,g,af⟩ r K ⟨e,o,n⟩ t:=Lj hg hf hds hw hkb hΓ hnp hE (λ_ _ _ h=>h) h
theorem Asb {rs : List AZ} {d : D} {ex : Au} {e' : List (Nat × D)} {o' : List (Nat × Aa)} {n' : Nat} (hex : (match ex with | .exit _=>false | _=>true) = true) (hr : (Wo rs ⟨e',o',n'⟩).1) (hd : (Wo rs ⟨e',o',n'⟩).2 = d) (hh : Has ⟨Ae dst d ++ e,o',n'⟩ E O)
  (h : ∀ nn,TrO Γ r nn ⟨E,O,nn⟩ false [] (HU 0 K) t) : TrX ex (KU Γ r dst rs e K) ⟨e',o',n'⟩ t:=by
 intro x hx
 subst hd
 have key : Wk (λτ=>(Wo rs τ).1 /\ (λ(d : D) (τ : S)=>Wk (λτ=>wpS Γ r τ.n τ (K x .normal)) ⟨Ae dst d ++ τ.e,τ.o,τ.n⟩) (Wo rs τ).2 ⟨e,τ.o,τ.n⟩) ⟨e',o',n'⟩:=by
  refine ⟨_,.refl _,?_⟩
  obtain ⟨m,hm⟩:=hh
  exact ⟨hr,_,hm,(h m x hx).1 rfl⟩
 cases ex with
 | exit id=>cases hex
 | normal=>exact key
 | ret=>exact key
end
end Go.Dw
namespace Go.Dw
theorem Aei {α : Type} (l : List α) (en : α -> D) (k : Nat) : List.take (l.length - k) (List.drop k (l.map en)) = (l.drop k).map en:=by
 rw [<- List.map_drop]
 exact List.take_of_length_le (by simp)
section
variable {Γ : Ar} {X α : Type} {K : KR X} {t : Option X} {e E : List (Nat × D)} {o O : List (Nat × Aa)} {n nv : Nat} {acc : List CG} {d : Bool}
 {r : List At} {dst : Nat} {g : Option (Nat × Bool)} {af : List Nat} {x y i : Arg} {gi vi ty : Nat} {m : Int} {en : α -> D} {l : List (Int × α)} {z : D}
end
theorem nbq (a b : Nat) : Nat.beq a b = decide (a = b):=by
 by_cases h : a = b
 ·simp [h]
 ·rw [decide_eq_false h]
  exact Bool.eq_false_iff.2 λh'=>h (Nat.eq_of_beq_eq_true h')
end Go.Dw
namespace Go.Dw
class TyE (ty : Nat) {α : outParam Type} (en : outParam (α -> D)) : Prop
def noE {B : Type} (_ : B) : List D:=[]
class Ol {A : Type} (enc : A -> List D) (dec : outParam (List D -> A)) : Prop where
 ok : ∀ a,dec (enc a) = a
def EvL (l l' : List D) : Prop:=l = l'
theorem EvL.nil {l : List D} (h : l = []) : EvL l []:=h
theorem EvL.cons {l t t' : List D} {a : D} (h : l = a :: t) (ht : EvL t t') : EvL l (a :: t'):=by
 cases ht; exact h
def EvP (l l' : List (Nat × Nat × D)) : Prop:=l = l'
theorem EvP.nil {l : List (Nat × Nat × D)} (h : l = []) : EvP l []:=h
theorem EvP.cons {e : List (Nat × D)} {a b : Nat} {x : Arg} {r : List (Nat × Nat × Arg)} {d : D} {r' : List (Nat × Nat × D)} (h : Ab e x = some d) (ht : EvP (Cf e r) r') : EvP (Cf e ((a,b,x) :: r)) ((a,b,d) :: r'):=by
 cases ht; simp [EvP,Cf,h]
section
variable {Γ : Ar} {X : Type} {K : KR X} {t : Option X} {e : List (Nat × D)} {o : List (Nat × Aa)} {n nv : Nat} {d : Bool} {acc : List CG}
 {r : List At} {dst : Nat} {g : Option (Nat × Bool)} {af : List Nat} {α : Type}
 {x y : Arg} {v v' w : D} {k k' : IntKind} {a b : Int} {s ty gi vi ii off m : Nat} {fz var : Bool} {es cs : List D} {z z' : D} {l l' : List α} {en : α -> D}
theorem Ft {i : Nat} (hg : gOn e g = true) (hx : Ab e x = some (.optr gi vi i off)) (ho : lkO o gi = some (vi,⟨fz,var,s,ty,es⟩)) (hz : es[i]? = some z) (hv : (cells z)[off]? = some v)
  (h : TrO Γ r (nv + 1) ⟨(dst,v) :: e,o,n⟩ d (acc ++ [(gK g ++ (rdK x ++ [.o gi]),[.e dst],af)]) K t) (hpl : (plain v || !Ac gi) = true:=by rfl) :
  TrO Γ (⟨some dst,.ld 1 false x,g,af⟩ :: r) nv ⟨e,o,n⟩ d acc K t :=
 CM hg hx ho hz (Nat.ble_eq_true_of_le (List.getElem?_eq_some_iff.1 hv).1) (by simp [QJ,hv]) h hpl
theorem Fu {i : Nat} (hg : gOn e g = true) (hx : Ab e x = some (.optr gi vi i off)) (ho : lkO o gi = some (vi,⟨fz,var,s,ty,es⟩)) (hz : es[i]? = some z) (hb : Nat.ble (off + m) (cells z).length = true) (hv : EvL (((cells z).drop off).take m) cs)
  (h : TrO Γ r (nv + 1) ⟨(dst,.agg cs) :: e,o,n⟩ d (acc ++ [(gK g ++ (rdK x ++ [.o gi]),[.e dst],af)]) K t) :
  TrO Γ (⟨some dst,.ld m true x,g,af⟩ :: r) nv ⟨e,o,n⟩ d acc K t :=
 CM hg hx ho hz hb (by cases hv; rfl) h (by rfl)
theorem IA (hg : gOn e g = true) (hx : Ab e x = some (.fptr z off)) (hv : (cells z)[off]? = some v)
  (h : TrO Γ r (nv + 1) ⟨(dst,v) :: e,o,n⟩ d (acc ++ [(gK g ++ rdK x,[.e dst],af)]) K t) :
  TrO Γ (⟨some dst,.ld 1 false x,g,af⟩ :: r) nv ⟨e,o,n⟩ d acc K t :=
 Im hg hx (Nat.ble_eq_true_of_le (List.getElem?_eq_some_iff.1 hv).1) (by simp [QJ,hv]) h
theorem IB (hg : gOn e g = true) (hx : Ab e x = some (.fptr z off)) (hb : Nat.ble (off + m) (cells z).length = true) (hv : EvL (((cells z).drop off).take m) cs)
  (h : TrO Γ r (nv + 1) ⟨(dst,.agg cs) :: e,o,n⟩ d (acc ++ [(gK g ++ rdK x,[.e dst],af)]) K t) :
  TrO Γ (⟨some dst,.ld m true x,g,af⟩ :: r) nv ⟨e,o,n⟩ d acc K t :=
 Im hg hx hb (by cases hv; rfl) h
theorem Lr (hg : gOn e g = true) (hx : Ab e x = some (.optr gi vi 0 0)) (hy : Ab e y = some v) (hw : strip v = (true,v)) (ho : lkO o gi = some (vi,⟨false,true,s,ty,[z]⟩)) (hk : known v = true) (hl : cells v = [v'])
  (hb : Nat.ble 1 (cells z).length = true) (hz : (match z with | .agg _=>false | _=>true) = true)
  (h : TrO Γ r (nv + 1) ⟨e,(gi,some (vi,⟨false,true,s,ty,[v']⟩)) :: o,n⟩ d (acc ++ [(gK g ++ (rdK x ++ (rdK y ++ [.o gi])),[.o gi],af)]) K t) (hrg : Ac gi = false:=by rfl) :
  TrO Γ (⟨none,.st 1 x y,g,af⟩ :: r) nv ⟨e,o,n⟩ d acc K t :=
 Dz hg hx hy hw ho hk (by rw [hl]; rfl) hb (by rw [hl]; cases z <;> first | rfl | cases hz) h hrg
theorem Ls {zs : List D} (hg : gOn e g = true) (hx : Ab e x = some (.optr gi vi 0 off)) (hy : Ab e y = some v) (hw : strip v = (true,v)) (ho : lkO o gi = some (vi,⟨false,true,s,ty,[z]⟩)) (hk : known v = true) (hl : (cells v).length = m)
  (hzz : z = .agg zs) (hb : Nat.ble (off + m) zs.length = true) (hz : EvL (setAt zs off (cells v)) cs)
  (h : TrO Γ r (nv + 1) ⟨e,(gi,some (vi,⟨false,true,s,ty,[.agg cs]⟩)) :: o,n⟩ d (acc ++ [(gK g ++ (rdK x ++ (rdK y ++ [.o gi])),[.o gi],af)]) K t) (hrg : Ac gi = false:=by rfl) :
  TrO Γ (⟨none,.st m x y,g,af⟩ :: r) nv ⟨e,o,n⟩ d acc K t:=by
 subst hzz; cases hz
 exact Dz hg hx hy hw ho hk hl hb rfl h hrg
theorem Lp {zs : List D} {parts : List (Nat × Nat × Arg)} {ps : List (Nat × Nat × D)} (hg : gOn e g = true) (hp : EvP (Cf e parts) ps) (hf : Ei zs.length ps = true) (hz : EvL (DM zs ps) cs)
  (h : TrO Γ r (nv + 1) ⟨(dst,.agg cs) :: e,o,n⟩ d (acc ++ [(gK g ++ CS parts,[.e dst],af)]) K t) :
  TrO Γ (⟨some dst,.bld zs parts,g,af⟩ :: r) nv ⟨e,o,n⟩ d acc K t:=MD hg hp hf hz h
theorem JQ (hg : gOn e g = true) (hx : Ab e x = some (.agg cs)) (hv : cs[off]? = some v)
  (h : TrO Γ r (nv + 1) ⟨(dst,v) :: e,o,n⟩ d (acc ++ [(gK g ++ rdK x,[.e dst],af)]) K t) :
  TrO Γ (⟨some dst,.fld off 1 false x,g,af⟩ :: r) nv ⟨e,o,n⟩ d acc K t :=
 Jj hg hx (Nat.ble_eq_true_of_le (List.getElem?_eq_some_iff.1 hv).1) (by simp [QJ,hv]) h
theorem JR {cs' : List D} (hg : gOn e g = true) (hx : Ab e x = some (.agg cs)) (hb : Nat.ble (off + m) cs.length = true) (hv : EvL ((cs.drop off).take m) cs')
  (h : TrO Γ r (nv + 1) ⟨(dst,.agg cs') :: e,o,n⟩ d (acc ++ [(gK g ++ rdK x,[.e dst],af)]) K t) :
  TrO Γ (⟨some dst,.fld off m true x,g,af⟩ :: r) nv ⟨e,o,n⟩ d acc K t :=
 Jj hg hx hb (by cases hv; rfl) h
theorem Hg (_ : TyE ty en) (hg : gOn e g = true) (hx : Ab e x = some .nils) (h : TrO Γ r (nv + 1) ⟨(dst,.osl dst nv 0 ([] : List α).length) :: e,(dst,some (nv,⟨false,false,s,ty,([] : List α).map en⟩)) :: o,n⟩ d (acc ++ [(gK g ++ rdK x,[.e dst,.o dst],af)]) K t) :
  TrO Γ (⟨some dst,.asg x (some (s,ty)),g,af⟩ :: r) nv ⟨e,o,n⟩ d acc K t:=Iu hg en hx h
theorem Lq {bytes : Nat} {q : α} (_ : TyE ty en) (hz : z = en q) (hg : gOn e g = true) (hx : Ab e x = some (.int k a)) (hy : Ab e y = some (.int k' a)) (hl : 0 <= a /\ a <= 16777216) (hby : Nat.ble bytes 65536 = true)
  (h : TrO Γ r (nv + 1) ⟨(dst,.osl dst nv 0 (List.replicate a.toNat q).length) :: e,(dst,some (nv,⟨false,false,s,ty,(List.replicate a.toNat q).map en⟩)) :: o,n⟩ d (acc ++ [(gK g ++ (rdK x ++ rdK y),[.e dst,.o dst],af)]) K t) :
  TrO Γ (⟨some dst,.mkS s ty bytes z x y,g,af⟩ :: r) nv ⟨e,o,n⟩ d acc K t:=Ape en hg hx hy hz hl hby h
theorem Ix {c : Prop} {parts : List (Nat × Arg)} {i : Nat} {p : D} {rk : List Key} {q : α} (_ : TyE ty en) (hg : gOn e g = true) (hr : (AL parts).run ⟨e,o,n⟩ = (c,[(i,p)],[])) (hk : (AL parts).rd ⟨e,o,n⟩ = rk) (hc : c) (hq : p = en q)
  (hp : HO s 1 [(i,p)] = true) (hes : WB [z] [(i,en q)] = [en q])
  (h : TrO Γ r (nv + 1) ⟨(dst,.osl dst nv 0 [q].length) :: e,(dst,some (nv,⟨false,false,s,ty,[q].map en⟩)) :: o,n⟩ d (acc ++ [(gK g ++ rk,[.e dst,.o dst],af)]) K t) :
  TrO Γ (⟨some dst,.bldS s ty z 1 parts,g,af⟩ :: r) nv ⟨e,o,n⟩ d acc K t:=by
 subst hq
 exact Acu [q] en hg hr hk hc hp hes rfl (by simpa using h)
theorem Iz {p q : Bool} (hg : gOn e g = true) (hx : Ab e x = some (.bool p)) (hy : Ab e y = some (.bool q))
  (h : TrO Γ r (nv + 1) ⟨(dst,.bool (!(p == q))) :: e,o,n⟩ d (acc ++ [(gK g ++ (rdK x ++ rdK y),[.e dst],af)]) K t) :
  TrO Γ (⟨some dst,.eqB true x y,g,af⟩ :: r) nv ⟨e,o,n⟩ d acc K t:=Jh hg hx hy h
theorem Iy {p q : Bool} (hg : gOn e g = true) (hx : Ab e x = some (.bool p)) (hy : Ab e y = some (.bool q))
  (h : TrO Γ r (nv + 1) ⟨(dst,.bool (p == q)) :: e,o,n⟩ d (acc ++ [(gK g ++ (rdK x ++ rdK y),[.e dst],af)]) K t) :
  TrO Γ (⟨some dst,.eqB false x y,g,af⟩ :: r) nv ⟨e,o,n⟩ d acc K t:=Jh hg hx hy h
theorem AbY {ops : List At} {x : Nat} {wt : Bool} {b : Bool} {dt : Option Nat} {op : DOp} {t1 t2 : Option X} (hx : NW e x = some (.bool b))
  (h1 : TrO Γ (⟨dt,op,some (x,wt),af⟩ :: ops) nv ⟨DG e x (.bool true),o,n⟩ d acc K t1) (h2 : TrO Γ (⟨dt,op,some (x,wt),af⟩ :: ops) nv ⟨DG e x (.bool false),o,n⟩ d acc K t2) :
  TrO Γ (⟨dt,op,some (x,wt),af⟩ :: ops) nv ⟨e,o,n⟩ d acc K (bif b then t1 else t2):=Kz x hx h1 h2
end
section
variable {Γ : Ar} {X A B : Type} {K : KR X} {e : List (Nat × D)} {o : List (Nat × Aa)} {n nv : Nat} {d : Bool} {acc : List CG}
 {r : List At} {dst : Nat} {g : Option (Nat × Bool)} {af : List Nat} {α : Type}
 {ptr : List (Nat × (Nat × Nat))} {kind : Kind} {enc : A -> List D} {dec : List D -> A} {f : A -> Option B} {encR : B -> D} {encE : B -> List D} {m : Option B} {kt : B -> Option X}
 {fa : Arg} {args : List Arg} {caps : List D} {k : Nat} {c : Prop} {ds : List D} {w : List (Nat × Aa)} {ps : List (Nat × Nat × Own)} {rk : List Key} {s ty : Nat}
theorem Gn (hg : gOn e g = true) (hf : Ab e fa = some (.clo k caps)) (hΓ : Γ (k + 4096 * AJ (Ak e args)) = some (NJ ptr .val enc dec f encR encE)) [hde : Ol enc dec] (hr : (Ad ptr 0 (Ak e args ++ caps)).run ⟨e,o,n⟩ = (c,ds,w,ps))
  (hk : (Ad ptr 0 (Ak e args ++ caps)).rd ⟨e,o,n⟩ = rk) (hc : c) (ha : ∃ a,f a = m /\ ds = enc a)
  (h : ∀ b,m = some b -> TrO Γ r (nv + 1) ⟨(dst,encR b) :: e,(Ah ps (encE b) ++ w) ++ o,n⟩ d (acc ++ [(gK g ++ (rdK fa ++ (Bb args ++ rk)),.e dst :: (Ah ps (encE b) ++ w).map (λx=>.o x.1),af)]) K (kt b)) (hkb : Nat.blt k 4096 = true:=by rfl) :
  TrO Γ (⟨some dst,.call fa args,g,af⟩ :: r) nv ⟨e,o,n⟩ d acc K (m.bind kt) :=
 PI λb hb=>ha.elim λa ha=>Aek a hg hf hΓ hde.ok hr hk hc ha.2 (ha.1.trans hb) (h b hb) hkb
theorem Fx (hg : gOn e g = true) (hf : Ab e fa = some (.clo k caps)) (hΓ : Γ (k + 4096 * AJ (Ak e args)) = some (NJ ptr .val enc dec f encR encE)) [hde : Ol enc dec] (hr : (Ad ptr 0 (Ak e args ++ caps)).run ⟨e,o,n⟩ = (c,ds,w,ps))
  (hk : (Ad ptr 0 (Ak e args ++ caps)).rd ⟨e,o,n⟩ = rk) (hc : c) (ha : ∃ a,f a = m /\ ds = enc a)
  (h : ∀ b,m = some b -> TrO Γ r (nv + 1) ⟨e,(Ah ps (encE b) ++ w) ++ o,n⟩ d (acc ++ [(gK g ++ (rdK fa ++ (Bb args ++ rk)),(Ah ps (encE b) ++ w).map (λx=>.o x.1),af)]) K (kt b)) (hkb : Nat.blt k 4096 = true:=by rfl) :
  TrO Γ (⟨none,.call fa args,g,af⟩ :: r) nv ⟨e,o,n⟩ d acc K (m.bind kt) :=
 PI λb hb=>ha.elim λa ha=>EJ a hg hf hΓ hde.ok hr hk hc ha.2 (ha.1.trans hb) (h b hb) hkb
theorem ED (hg : gOn e g = true) (hf : Ab e fa = some (.clo k caps)) (hΓ : Γ (k + 4096 * AJ (Ak e args)) = some (NJ [] .ground enc dec f encR encE)) [hde : Ol enc dec] (hr : (Ad [] 0 (Ak e args ++ caps)).run ⟨e,o,n⟩ = (c,ds,w,ps))
  (hk : (Ad [] 0 (Ak e args ++ caps)).rd ⟨e,o,n⟩ = rk) (hc : c) (ha : ∃ a,f a = m /\ ds = enc a) (hgr : ∀ b,isGround (encR b) = true)
  (h : ∀ b,m = some b -> TrO Γ r (nv + 1) ⟨(dst,encR b) :: e,o,n⟩ d (acc ++ [(gK g ++ (rdK fa ++ (Bb args ++ rk)),[.e dst],af)]) K (kt b)) (hkb : Nat.blt k 4096 = true:=by rfl) :
  TrO Γ (⟨some dst,.call fa args,g,af⟩ :: r) nv ⟨e,o,n⟩ d acc K (m.bind kt) :=
 PI λb hb=>ha.elim λa ha=>AbN a hg hf hΓ hde.ok hr hk hc ha.2 (ha.1.trans hb) (hgr b) (h b hb) hkb
theorem Gm {lf : B -> List α} {en : α -> D} (hg : gOn e g = true) (hf : Ab e fa = some (.clo k caps)) (hΓ : Γ (k + 4096 * AJ (Ak e args)) = some (NJ ptr (.row s ty) enc dec f encR encE)) [hde : Ol enc dec] (hr : (Ad ptr 0 (Ak e args ++ caps)).run ⟨e,o,n⟩ = (c,ds,w,ps))
  (hk : (Ad ptr 0 (Ak e args ++ caps)).rd ⟨e,o,n⟩ = rk) (hc : c) (ha : ∃ a,f a = m /\ ds = enc a) (hl : ∀ b,encR b = .sl ((lf b).map en))
  (h : ∀ b,m = some b -> TrO Γ r (nv + 1) ⟨(dst,.osl dst nv 0 (lf b).length) :: e,((dst,some (nv,⟨false,false,s,ty,(lf b).map en⟩)) :: (Ah ps (encE b) ++ w)) ++ o,n⟩ d (acc ++ [(gK g ++ (rdK fa ++ (Bb args ++ rk)),.e dst :: .o dst :: (Ah ps (encE b) ++ w).map (λx=>.o x.1),af)]) K (kt b)) (hkb : Nat.blt k 4096 = true:=by rfl) :
  TrO Γ (⟨some dst,.call fa args,g,af⟩ :: r) nv ⟨e,o,n⟩ d acc K (m.bind kt) :=
 PI λb hb=>ha.elim λa ha=>Fh a hg hf hΓ hde.ok hr hk hc ha.2 (ha.1.trans hb) (hl b) (h b hb) hkb
theorem Gl (hg : gOn e g = true) (hf : Ab e fa = some (.clo k caps)) (hΓ : Γ (k + 4096 * AJ (Ak e args)) = some (NJ ptr (.ptr s ty) enc dec f encR encE)) [hde : Ol enc dec] (hr : (Ad ptr 0 (Ak e args ++ caps)).run ⟨e,o,n⟩ = (c,ds,w,ps))
  (hk : (Ad ptr 0 (Ak e args ++ caps)).rd ⟨e,o,n⟩ = rk) (hc : c) (ha : ∃ a,f a = m /\ ds = enc a)
  (h : ∀ b,m = some b -> TrO Γ r (nv + 1) ⟨(dst,.optr dst nv 0 0) :: e,((dst,some (nv,⟨false,true,s,ty,[encR b]⟩)) :: (Ah ps (encE b) ++ w)) ++ o,n⟩ d (acc ++ [(gK g ++ (rdK fa ++ (Bb args ++ rk)),.e dst :: .o dst :: (Ah ps (encE b) ++ w).map (λx=>.o x.1),af)]) K (kt b)) (hkb : Nat.blt k 4096 = true:=by rfl) :
  TrO Γ (⟨some dst,.call fa args,g,af⟩ :: r) nv ⟨e,o,n⟩ d acc K (m.bind kt) :=
 PI λb hb=>ha.elim λa ha=>Aej a hg hf hΓ hde.ok hr hk hc ha.2 (ha.1.trans hb) (h b hb) hkb
variable {b : B} {t : Option X}
theorem Gr (hg : gOn e g = true) (hf : Ab e fa = some (.clo k caps)) (hΓ : Γ (k + 4096 * AJ (Ak e args)) = some (NJ ptr .val enc dec f encR encE)) [hde : Ol enc dec] (hr : (Ad ptr 0 (Ak e args ++ caps)).run ⟨e,o,n⟩ = (c,ds,w,ps))
  (hk : (Ad ptr 0 (Ak e args ++ caps)).rd ⟨e,o,n⟩ = rk) (hm : m = some b) (hc : c) (ha : ∃ a,f a = m /\ ds = enc a)
  (h : TrO Γ r (nv + 1) ⟨(dst,encR b) :: e,(Ah ps (encE b) ++ w) ++ o,n⟩ d (acc ++ [(gK g ++ (rdK fa ++ (Bb args ++ rk)),.e dst :: (Ah ps (encE b) ++ w).map (λx=>.o x.1),af)]) K t) (hkb : Nat.blt k 4096 = true:=by rfl) :
  TrO Γ (⟨some dst,.call fa args,g,af⟩ :: r) nv ⟨e,o,n⟩ d acc K t :=
 ha.elim λa ha=>Aek a hg hf hΓ hde.ok hr hk hc ha.2 (ha.1.trans hm) h hkb
theorem Fy (hg : gOn e g = true) (hf : Ab e fa = some (.clo k caps)) (hΓ : Γ (k + 4096 * AJ (Ak e args)) = some (NJ ptr .val enc dec f encR encE)) [hde : Ol enc dec] (hr : (Ad ptr 0 (Ak e args ++ caps)).run ⟨e,o,n⟩ = (c,ds,w,ps))
  (hk : (Ad ptr 0 (Ak e args ++ caps)).rd ⟨e,o,n⟩ = rk) (hm : m = some b) (hc : c) (ha : ∃ a,f a = m /\ ds = enc a)
  (h : TrO Γ r (nv + 1) ⟨e,(Ah ps (encE b) ++ w) ++ o,n⟩ d (acc ++ [(gK g ++ (rdK fa ++ (Bb args ++ rk)),(Ah ps (encE b) ++ w).map (λx=>.o x.1),af)]) K t) (hkb : Nat.blt k 4096 = true:=by rfl) :
  TrO Γ (⟨none,.call fa args,g,af⟩ :: r) nv ⟨e,o,n⟩ d acc K t :=
 ha.elim λa ha=>EJ a hg hf hΓ hde.ok hr hk hc ha.2 (ha.1.trans hm) h hkb
theorem EE (hg : gOn e g = true) (hf : Ab e fa = some (.clo k caps)) (hΓ : Γ (k + 4096 * AJ (Ak e args)) = some (NJ [] .ground enc dec f encR encE)) [hde : Ol enc dec] (hr : (Ad [] 0 (Ak e args ++ caps)).run ⟨e,o,n⟩ = (c,ds,w,ps))
  (hk : (Ad [] 0 (Ak e args ++ caps)).rd ⟨e,o,n⟩ = rk) (hm : m = some b) (hc : c) (ha : ∃ a,f a = m /\ ds = enc a) (hgr : isGround (encR b) = true)
  (h : TrO Γ r (nv + 1) ⟨(dst,encR b) :: e,o,n⟩ d (acc ++ [(gK g ++ (rdK fa ++ (Bb args ++ rk)),[.e dst],af)]) K t) (hkb : Nat.blt k 4096 = true:=by rfl) :
  TrO Γ (⟨some dst,.call fa args,g,af⟩ :: r) nv ⟨e,o,n⟩ d acc K t :=
 ha.elim λa ha=>AbN a hg hf hΓ hde.ok hr hk hc ha.2 (ha.1.trans hm) hgr h hkb
theorem Gq {l : List α} {en : α -> D} (hg : gOn e g = true) (hf : Ab e fa = some (.clo k caps)) (hΓ : Γ (k + 4096 * AJ (Ak e args)) = some (NJ ptr (.row s ty) enc dec f encR encE)) [hde : Ol enc dec] (hr : (Ad ptr 0 (Ak e args ++ caps)).run ⟨e,o,n⟩ = (c,ds,w,ps))
  (hk : (Ad ptr 0 (Ak e args ++ caps)).rd ⟨e,o,n⟩ = rk) (hm : m = some b) (hc : c) (ha : ∃ a,f a = m /\ ds = enc a) (hl : encR b = .sl (l.map en))
  (h : TrO Γ r (nv + 1) ⟨(dst,.osl dst nv 0 l.length) :: e,((dst,some (nv,⟨false,false,s,ty,l.map en⟩)) :: (Ah ps (encE b) ++ w)) ++ o,n⟩ d (acc ++ [(gK g ++ (rdK fa ++ (Bb args ++ rk)),.e dst :: .o dst :: (Ah ps (encE b) ++ w).map (λx=>.o x.1),af)]) K t) (hkb : Nat.blt k 4096 = true:=by rfl) :
  TrO Γ (⟨some dst,.call fa args,g,af⟩ :: r) nv ⟨e,o,n⟩ d acc K t :=
 ha.elim λa ha=>Fh a hg hf hΓ hde.ok hr hk hc ha.2 (ha.1.trans hm) hl h hkb
theorem Gp (hg : gOn e g = true) (hf : Ab e fa = some (.clo k caps)) (hΓ : Γ (k + 4096 * AJ (Ak e args)) = some (NJ ptr (.ptr s ty) enc dec f encR encE)) [hde : Ol enc dec] (hr : (Ad ptr 0 (Ak e args ++ caps)).run ⟨e,o,n⟩ = (c,ds,w,ps))
  (hk : (Ad ptr 0 (Ak e args ++ caps)).rd ⟨e,o,n⟩ = rk) (hm : m = some b) (hc : c) (ha : ∃ a,f a = m /\ ds = enc a)
  (h : TrO Γ r (nv + 1) ⟨(dst,.optr dst nv 0 0) :: e,((dst,some (nv,⟨false,true,s,ty,[encR b]⟩)) :: (Ah ps (encE b) ++ w)) ++ o,n⟩ d (acc ++ [(gK g ++ (rdK fa ++ (Bb args ++ rk)),.e dst :: .o dst :: (Ah ps (encE b) ++ w).map (λx=>.o x.1),af)]) K t) (hkb : Nat.blt k 4096 = true:=by rfl) :
  TrO Γ (⟨some dst,.call fa args,g,af⟩ :: r) nv ⟨e,o,n⟩ d acc K t :=
 ha.elim λa ha=>Aej a hg hf hΓ hde.ok hr hk hc ha.2 (ha.1.trans hm) h hkb
end
def Ha (o : List (Nat × Aa)) : List Nat -> List (Nat × Aa)
 | []=>[]
 | g :: r=>(g,(lkO o g).map λx=>(x.1,{ x.2 with fz:=true })) :: Ha o r
theorem JY {o : List (Nat × Aa)} : ∀ {gs : List Nat},(gs.all λg=>match lkO o g with | some (_,p)=>!p.var | none=>false) = true -> FzB o (Ha o gs)
 | [],_=>trivial
 | g :: r,h=>by
  simp only [List.all_cons,Bool.and_eq_true] at h
  refine ⟨?_,JY h.2⟩
  cases hg : lkO o g with
  | none=>rw [hg] at h; cases h.1
  | some x =>
   rw [hg] at h
   exact ⟨x.1,x.2,rfl,by simpa using h.1,rfl⟩
theorem MG {e E : List (Nat × D)} {o O : List (Nat × Aa)} {n : Nat} (gs : List Nat) (hw : (gs.all λg=>match lkO o g with | some (_,p)=>!p.var | none=>false) = true) (hE : HB e o n (Ha o gs) E) (hO : HC e o n (Ha o gs) O) : Has ⟨e,o,n⟩ E O:=Acd _ (JY hw) hE hO
section
variable {Γ : Ar} {R ι γ : Type} {K : R -> Au -> S -> Prop} {τ : S} {t : Option R} {E : ι -> γ -> List (Nat × D)} {O : ι -> γ -> List (Nat × Aa)} {j : ι -> Option R}
theorem Nl (h : ∃ s g,j s = t /\ Has τ (E s g) (O s g)) : TrX .normal (HT E O j K) τ t:=by
 obtain ⟨s,g,rfl,h⟩:=h; exact ME g h
theorem Hw {id : Nat} (h : ∃ s g,j s = t /\ Has τ (E s g) (O s g)) : TrX .normal (Dc id E O j K) τ t:=by
 obtain ⟨s,g,rfl,h⟩:=h; exact Vp g h
theorem Ir {id : Nat} (h : ∃ s g,j s = t /\ Has τ (E s g) (O s g)) : TrX (.exit id) (Dc id E O j K) τ t:=by
 obtain ⟨s,g,rfl,h⟩:=h; exact HA g h
theorem MH {s : ι} (h : ∃ g,Has τ (E s g) (O s g)) : TrX .normal (GA E O K) τ (cnt s):=by
 obtain ⟨g,h⟩:=h; exact Agb g h
theorem exU {p : Unit -> Prop} (h : p ()) : ∃ s,p s:=⟨_,h⟩
theorem exP {α β : Type} {p : α × β -> Prop} (h : ∃ a b,p (a,b)) : ∃ s,p s:=h.elim λa h=>h.elim λb h=>⟨(a,b),h⟩
end
section
variable {A B : Type} {ptr : List (Nat × (Nat × Nat))} {kind : Kind} {enc : A -> List D} {dec : List D -> A} {f : A -> Option B} {encR : B -> D} {encE : B -> List D}
theorem fn2 {P : Program} {Γ : Ar} {k : Nat} {fn : Func} {dc : QB} {rs : List AZ} [hde : Ol enc dec] (np : Nat) (hΓ : ∀ k sp,Γ k = some sp -> NG P (k % 4096) sp) (hf : P.funcs[k]? = some fn)
  (hT : ∀ a,Tr Γ dc (BB ptr kind rs encR encE) ⟨Da ptr 0 (enc a),Ci ptr 0 (enc a),262144⟩ (f a))
  (hc : (fn.body.bind (Sy P fn.ntmps)) = some dc:=by conv=>lhs; cbv) (hr : fn.results.toList.mapM (AcW P) = some rs:=by conv=>lhs; cbv)
  (hname : (fn.name == "runtime.NumGoroutine") = false:=by decide) (hnp : np <= fn.ntmps:=by decide) (hlen : ∀ a,(enc a).length = np:=by exact λ_=>rfl) (hkeys : ∀ a,Bw ptr 0 (enc a) = ptr.map Prod.fst:=by exact λ_=>rfl) (hptr : Ex ptr = true:=by decide)
  (hni : BP kind = none:=by rfl) (hno : DQ kind = none:=by rfl) : NG P k (NJ ptr kind enc dec f encR encE) :=
 Nm hΓ hf hname hc hr hnp hde.ok hlen hkeys hptr (λa=>Ni (hT a)) hni hno
end
structure Ct (n : Nat) : Prop
theorem Ct.dec {n : Nat} (_ : Ct (n + 1)) : Ct n:=⟨⟩
end Go.Dw
namespace Go.Dw
structure Fz' (gs : List Nat) : Prop
theorem wf (gs : List Nat) {p : Prop} (h : Fz' gs -> p) : p:=h ⟨⟩
theorem LQ {e E : List (Nat × D)} {o O : List (Nat × Aa)} {n : Nat} {gs : List Nat} (_ : Fz' gs) (hw : (gs.all λg=>match lkO o g with | some (_,p)=>!p.var | none=>false) = true) (hE : HB e o n (Ha o gs) E) (hO : HC e o n (Ha o gs) O) : Has ⟨e,o,n⟩ E O:=MG gs hw hE hO
section
variable {Γ : Ar} {X Y : Type} {K : KR X} {KK : X -> Au -> S -> Prop} {t t1 t2 : Option X} {m0 : Option Y} {kt : Y -> Option X} {pp : Prop} [Decidable pp] {bb wt : Bool} {σ : S} {nv tt m m2 m3 : Nat} {d : Bool} {acc : List CG}
 {r : List At} {dst : Option Nat} {g : Option (Nat × Bool)} {af : List Nat} {op : DOp} {x y z : Arg} {xs : List Arg} {bo : BinOp} {uo : UnOp} {k : IntKind} {sl : Option (Nat × Nat)} {dd : D} {ds : List D} {ps : List (Nat × Arg)} {ps2 : List (Nat × Nat × Arg)} {lo hi : Option Arg} {c1 c2 : QB} {ex : Au} {ptr : List (Nat × (Nat × Nat))} {encR : Y -> D} {encE : Y -> List D} {r0 : AZ} {rs : List AZ} {tB : Option Y} {ι γ : Type} {E : ι -> γ -> List (Nat × D)} {O : ι -> γ -> List (Nat × Aa)} {j : ι -> Option X}
theorem LF (h : TrO Γ (⟨dst,op,some (tt,wt),af⟩ :: r) nv σ d acc K t) : TrO Γ (⟨dst,op,some (tt,wt),af⟩ :: r) nv σ d acc K t:=h
theorem CZ (h : TrO Γ r nv σ d acc K (Option.bind m0 kt)) : TrO Γ r nv σ d acc K (Option.bind m0 kt):=h
theorem Ca (h : TrO Γ r nv σ d acc K (chk pp t)) : TrO Γ r nv σ d acc K (chk pp t):=h
theorem Nn (h : TrO Γ r nv σ d acc K (bif bb then t1 else t2)) : TrO Γ r nv σ d acc K (bif bb then t1 else t2):=h
theorem MM (h : Tr Γ (.cond x c1 c2) KK σ t) : Tr Γ (.cond x c1 c2) KK σ t:=h
theorem MR (h : TrX ex (BB ptr .val [r0] encR encE) σ tB) : TrX ex (BB ptr .val [r0] encR encE) σ tB:=h
theorem Kg (h : TrX ex (BB ptr .ground [r0] encR encE) σ tB) : TrX ex (BB ptr .ground [r0] encR encE) σ tB:=h
theorem Mj (h : TrX ex (BB ptr .val rs encR encE) σ tB) : TrX ex (BB ptr .val rs encR encE) σ tB:=h
theorem JB (h : TrX ex (BB ptr .ground rs encR encE) σ tB) : TrX ex (BB ptr .ground rs encR encE) σ tB:=h
theorem MP (h : TrX ex (BB ptr (.row m m2) rs encR encE) σ tB) : TrX ex (BB ptr (.row m m2) rs encR encE) σ tB:=h
theorem MO (h : TrX ex (BB ptr (.ptr m m2) rs encR encE) σ tB) : TrX ex (BB ptr (.ptr m m2) rs encR encE) σ tB:=h
theorem MQ (h : TrX ex (BB ptr (.tupPtr m m2 m3) rs encR encE) σ tB) : TrX ex (BB ptr (.tupPtr m m2 m3) rs encR encE) σ tB:=h
theorem MU (h : TrX (.exit m) (Ga m2 KK) σ t) : TrX (.exit m) (Ga m2 KK) σ t:=h
theorem MV (h : TrX (.exit m) (Dc m2 E O j KK) σ t) : TrX (.exit m) (Dc m2 E O j KK) σ t:=h
theorem Ke (h : TrO Γ [] nv σ true acc K t) : TrO Γ [] nv σ true acc K t:=h
theorem MN (h : TrO Γ (⟨dst,.mv x,g,af⟩ :: r) nv σ d acc K t) : TrO Γ (⟨dst,.mv x,g,af⟩ :: r) nv σ d acc K t:=h
theorem Kc (h : TrO Γ (⟨dst,.fldA m x,g,af⟩ :: r) nv σ d acc K t) : TrO Γ (⟨dst,.fldA m x,g,af⟩ :: r) nv σ d acc K t:=h
theorem LH (h : TrO Γ (⟨dst,.ld m false x,g,af⟩ :: r) nv σ d acc K t) : TrO Γ (⟨dst,.ld m false x,g,af⟩ :: r) nv σ d acc K t:=h
theorem LI (h : TrO Γ (⟨dst,.ld m true x,g,af⟩ :: r) nv σ d acc K t) : TrO Γ (⟨dst,.ld m true x,g,af⟩ :: r) nv σ d acc K t:=h
theorem Lx (h : TrO Γ (⟨dst,.bin bo x y,g,af⟩ :: r) nv σ d acc K t) : TrO Γ (⟨dst,.bin bo x y,g,af⟩ :: r) nv σ d acc K t:=h
theorem Lv (h : TrO Γ (⟨dst,.asg x sl,g,af⟩ :: r) nv σ d acc K t) : TrO Γ (⟨dst,.asg x sl,g,af⟩ :: r) nv σ d acc K t:=h
theorem Kf (h : TrO Γ (⟨dst,.pick x y z,g,af⟩ :: r) nv σ d acc K t) : TrO Γ (⟨dst,.pick x y z,g,af⟩ :: r) nv σ d acc K t:=h
theorem Ka (h : TrO Γ (⟨dst,.call x xs,g,af⟩ :: r) nv σ d acc K t) : TrO Γ (⟨dst,.call x xs,g,af⟩ :: r) nv σ d acc K t:=h
theorem LD (h : TrO Γ (⟨dst,.ext x m,g,af⟩ :: r) nv σ d acc K t) : TrO Γ (⟨dst,.ext x m,g,af⟩ :: r) nv σ d acc K t:=h
theorem LJ (h : TrO Γ (⟨dst,.len bb x,g,af⟩ :: r) nv σ d acc K t) : TrO Γ (⟨dst,.len bb x,g,af⟩ :: r) nv σ d acc K t:=h
theorem LG (h : TrO Γ (⟨dst,.ixA m x y,g,af⟩ :: r) nv σ d acc K t) : TrO Γ (⟨dst,.ixA m x y,g,af⟩ :: r) nv σ d acc K t:=h
theorem MT (h : TrO Γ (⟨dst,.un uo x,g,af⟩ :: r) nv σ d acc K t) : TrO Γ (⟨dst,.un uo x,g,af⟩ :: r) nv σ d acc K t:=h
theorem Lz (h : TrO Γ (⟨dst,.box x m m2,g,af⟩ :: r) nv σ d acc K t) : TrO Γ (⟨dst,.box x m m2,g,af⟩ :: r) nv σ d acc K t:=h
theorem LN (h : TrO Γ (⟨dst,.new dd m m2,g,af⟩ :: r) nv σ d acc K t) : TrO Γ (⟨dst,.new dd m m2,g,af⟩ :: r) nv σ d acc K t:=h
theorem MS (h : TrO Γ (⟨dst,.st m x y,g,af⟩ :: r) nv σ d acc K t) : TrO Γ (⟨dst,.st m x y,g,af⟩ :: r) nv σ d acc K t:=h
theorem JZ (h : TrO Γ (⟨dst,.bldS m m2 dd m3 ps,g,af⟩ :: r) nv σ d acc K t) : TrO Γ (⟨dst,.bldS m m2 dd m3 ps,g,af⟩ :: r) nv σ d acc K t:=h
theorem Lu (h : TrO Γ (⟨dst,.app m m2 m3 x y,g,af⟩ :: r) nv σ d acc K t) : TrO Γ (⟨dst,.app m m2 m3 x y,g,af⟩ :: r) nv σ d acc K t:=h
theorem Ly (h : TrO Γ (⟨dst,.bld ds ps2,g,af⟩ :: r) nv σ d acc K t) : TrO Γ (⟨dst,.bld ds ps2,g,af⟩ :: r) nv σ d acc K t:=h
theorem LA (h : TrO Γ (⟨dst,.cvt k x,g,af⟩ :: r) nv σ d acc K t) : TrO Γ (⟨dst,.cvt k x,g,af⟩ :: r) nv σ d acc K t:=h
theorem LM (h : TrO Γ (⟨dst,.mkS m m2 m3 dd x y,g,af⟩ :: r) nv σ d acc K t) : TrO Γ (⟨dst,.mkS m m2 m3 dd x y,g,af⟩ :: r) nv σ d acc K t:=h
theorem IJ (h : TrO Γ (⟨dst,.nilck x,g,af⟩ :: r) nv σ d acc K t) : TrO Γ (⟨dst,.nilck x,g,af⟩ :: r) nv σ d acc K t:=h
theorem Kb (h : TrO Γ (⟨dst,.fld m m2 false x,g,af⟩ :: r) nv σ d acc K t) : TrO Γ (⟨dst,.fld m m2 false x,g,af⟩ :: r) nv σ d acc K t:=h
theorem Kd (h : TrO Γ (⟨dst,.fld m m2 true x,g,af⟩ :: r) nv σ d acc K t) : TrO Γ (⟨dst,.fld m m2 true x,g,af⟩ :: r) nv σ d acc K t:=h
theorem LC (h : TrO Γ (⟨dst,.eqB bb x y,g,af⟩ :: r) nv σ d acc K t) : TrO Γ (⟨dst,.eqB bb x y,g,af⟩ :: r) nv σ d acc K t:=h
theorem LB (h : TrO Γ (⟨dst,.eqA m bb x y,g,af⟩ :: r) nv σ d acc K t) : TrO Γ (⟨dst,.eqA m bb x y,g,af⟩ :: r) nv σ d acc K t:=h
theorem LK (h : TrO Γ (⟨dst,.max xs,g,af⟩ :: r) nv σ d acc K t) : TrO Γ (⟨dst,.max xs,g,af⟩ :: r) nv σ d acc K t:=h
theorem LL (h : TrO Γ (⟨dst,.min xs,g,af⟩ :: r) nv σ d acc K t) : TrO Γ (⟨dst,.min xs,g,af⟩ :: r) nv σ d acc K t:=h
theorem LO (h : TrO Γ (⟨dst,.slc m x lo hi,g,af⟩ :: r) nv σ d acc K t) : TrO Γ (⟨dst,.slc m x lo hi,g,af⟩ :: r) nv σ d acc K t:=h
end
structure Hid (p : Prop) : Prop where
 h : p
theorem A (n : Nat) {p q : Prop} (hq : q) (f : Ct n -> Hid q -> p:=by
 intro c h
 repeat (
  replace c:=Ct.dec c
  first
  | ((with_reducible refine LF ?_); refine Jo rfl ?_)
  | ((with_reducible refine MN ?_); refine Ky rfl rfl ?_)
  | with_reducible refine Jn ?_
  | ((with_reducible refine Kc ?_); first | refine Ik rfl rfl ?_ | refine GM rfl rfl ?_)
  | ((with_reducible refine LH ?_); first | ((with_reducible refine CZ ?_); refine PI λq hq=>Ft rfl rfl rfl (CB hq) rfl ?_) | refine Ft rfl rfl rfl rfl rfl ?_ | refine IA rfl rfl rfl ?_ | refine Ft rfl rfl rfl (CB (by assumption)) rfl ?_)
  | ((with_reducible refine Lx ?_); first | ((with_reducible refine Ca ?_); first | refine OV λhq=>Fw rfl rfl rfl rfl (by first | exact hq | exact ⟨rfl,hq⟩) ?_ | refine OV λhq=>Df rfl rfl rfl rfl hq ?_) | refine Fw rfl rfl rfl rfl (by first | exact rfl | exact trivial | assumption | decide | exact ⟨rfl,by assumption⟩ | exact ⟨rfl,by decide⟩) ?_ | refine Df rfl rfl rfl rfl trivial ?_)
  | with_reducible refine KE ?_
  | with_reducible refine KB ?_
  | with_reducible refine Jp ?_
  | ((with_reducible refine Lv ?_); first | refine Jd rfl rfl ?_ | ((with_reducible refine Ca ?_); refine OV λhq=>FO rfl rfl rfl hq ?_) | refine Hg inferInstance rfl rfl ?_ | refine GL rfl rfl ?_ | refine FP (by first | rfl | simp) rfl rfl rfl ?_ | refine GK (by first | rfl | simp) rfl rfl rfl ?_ | refine Fg rfl rfl rfl ?_)
  | with_reducible refine Eo ?_
  | with_reducible refine FW ?_
  | with_reducible refine Fq ?_
  | with_reducible refine Io ?_
  | with_reducible refine Jr ?_
  | with_reducible refine KC ?_
  | with_reducible refine Jq ?_
  | with_reducible refine FU ?_
  | with_reducible refine FV ?_
  | with_reducible refine Fo ?_
  | with_reducible refine Fk ?_
  | with_reducible refine Fp ?_
  | with_reducible refine EN ?_
  | with_reducible refine Fm ?_
  | ((with_reducible refine MU ?_); refine Fl rfl ?_)
  | ((with_reducible refine MV ?_); refine EM rfl ?_)
  | ((with_reducible refine MM ?_); first | refine Fs rfl ?_ | refine EO rfl ?_)
  | ((with_reducible refine Kf ?_); first | refine EK rfl rfl rfl rfl ?_ | refine En rfl rfl rfl rfl ?_)
  | ((with_reducible refine Ka ?_); first | ((with_reducible refine CZ ?_); first | (refine ED rfl rfl rfl rfl rfl ?_ ?_ (λ_=>rfl) λ_ _=>?_; (· simp); (· (repeat' first | exact ⟨rfl,(by first | rfl | (simp only [Nw]; rfl) | (simp only [NA]; rfl) | (simp only [Nw,NA]; rfl))⟩ | refine exP ?_ | refine exU ?_ | apply Exists.intro | (dsimp only; exact ⟨rfl,(by first | rfl | (simp only [Nw]; rfl) | (simp only [NA]; rfl) | (simp only [Nw,NA]; rfl))⟩)))) | (refine Gn rfl rfl rfl rfl rfl ?_ ?_ λ_ _=>?_; (· simp); (· (repeat' first | exact ⟨rfl,(by first | rfl | (simp only [Nw]; rfl) | (simp only [NA]; rfl) | (simp only [Nw,NA]; rfl))⟩ | refine exP ?_ | refine exU ?_ | apply Exists.intro | (dsimp only; exact ⟨rfl,(by first | rfl | (simp only [Nw]; rfl) | (simp only [NA]; rfl) | (simp only [Nw,NA]; rfl))⟩)))) | (refine Gm rfl rfl rfl rfl rfl ?_ ?_ (λ_=>rfl) λ_ _=>?_; (· simp); (· (repeat' first | exact ⟨rfl,(by first | rfl | (simp only [Nw]; rfl) | (simp only [NA]; rfl) | (simp only [Nw,NA]; rfl))⟩ | refine exP ?_ | refine exU ?_ | apply Exists.intro | (dsimp only; exact ⟨rfl,(by first | rfl | (simp only [Nw]; rfl) | (simp only [NA]; rfl) | (simp only [Nw,NA]; rfl))⟩)))) | (refine Fx rfl rfl rfl rfl rfl ?_ ?_ λ_ _=>?_; (· simp); (· (repeat' first | exact ⟨rfl,(by first | rfl | (simp only [Nw]; rfl) | (simp only [NA]; rfl) | (simp only [Nw,NA]; rfl))⟩ | refine exP ?_ | refine exU ?_ | apply Exists.intro | (dsimp only; exact ⟨rfl,(by first | rfl | (simp only [Nw]; rfl) | (simp only [NA]; rfl) | (simp only [Nw,NA]; rfl))⟩)))) | (refine Gl rfl rfl rfl rfl rfl ?_ ?_ λ_ _=>?_; (· simp); (· (repeat' first | exact ⟨rfl,(by first | rfl | (simp only [Nw]; rfl) | (simp only [NA]; rfl) | (simp only [Nw,NA]; rfl))⟩ | refine exP ?_ | refine exU ?_ | apply Exists.intro | (dsimp only; exact ⟨rfl,(by first | rfl | (simp only [Nw]; rfl) | (simp only [NA]; rfl) | (simp only [Nw,NA]; rfl))⟩))))) | (refine EE rfl rfl rfl rfl rfl (by assumption) ?_ ?_ rfl ?_; (· simp); (· (repeat' first | exact ⟨rfl,(by first | rfl | (simp only [Nw]; rfl) | (simp only [NA]; rfl) | (simp only [Nw,NA]; rfl))⟩ | refine exP ?_ | refine exU ?_ | apply Exists.intro | (dsimp only; exact ⟨rfl,(by first | rfl | (simp only [Nw]; rfl) | (simp only [NA]; rfl) | (simp only [Nw,NA]; rfl))⟩)))) | (refine Gr rfl rfl rfl rfl rfl (by assumption) ?_ ?_ ?_; (· simp); (· (repeat' first | exact ⟨rfl,(by first | rfl | (simp only [Nw]; rfl) | (simp only [NA]; rfl) | (simp only [Nw,NA]; rfl))⟩ | refine exP ?_ | refine exU ?_ | apply Exists.intro | (dsimp only; exact ⟨rfl,(by first | rfl | (simp only [Nw]; rfl) | (simp only [NA]; rfl) | (simp only [Nw,NA]; rfl))⟩)))) | (refine Gq rfl rfl rfl rfl rfl (by assumption) ?_ ?_ rfl ?_; (· simp); (· (repeat' first | exact ⟨rfl,(by first | rfl | (simp only [Nw]; rfl) | (simp only [NA]; rfl) | (simp only [Nw,NA]; rfl))⟩ | refine exP ?_ | refine exU ?_ | apply Exists.intro | (dsimp only; exact ⟨rfl,(by first | rfl | (simp only [Nw]; rfl) | (simp only [NA]; rfl) | (simp only [Nw,NA]; rfl))⟩)))) | (refine Fy rfl rfl rfl rfl rfl (by assumption) ?_ ?_ ?_; (· simp); (· (repeat' first | exact ⟨rfl,(by first | rfl | (simp only [Nw]; rfl) | (simp only [NA]; rfl) | (simp only [Nw,NA]; rfl))⟩ | refine exP ?_ | refine exU ?_ | apply Exists.intro | (dsimp only; exact ⟨rfl,(by first | rfl | (simp only [Nw]; rfl) | (simp only [NA]; rfl) | (simp only [Nw,NA]; rfl))⟩)))) | (refine Gp rfl rfl rfl rfl rfl (by assumption) ?_ ?_ ?_; (· simp); (· (repeat' first | exact ⟨rfl,(by first | rfl | (simp only [Nw]; rfl) | (simp only [NA]; rfl) | (simp only [Nw,NA]; rfl))⟩ | refine exP ?_ | refine exU ?_ | apply Exists.intro | (dsimp only; exact ⟨rfl,(by first | rfl | (simp only [Nw]; rfl) | (simp only [NA]; rfl) | (simp only [Nw,NA]; rfl))⟩)))) | ((with_reducible refine Ca ?_); first | refine OV λhq=>GN rfl rfl rfl rfl rfl (by first | rfl | simp) rfl hq rfl ?_ | refine OV λhq=>Il rfl rfl rfl rfl rfl (by first | rfl | simp) rfl hq rfl ?_ | refine OV λhq=>Fi rfl rfl rfl rfl rfl (by first | rfl | simp) rfl hq (by exact Ee _) rfl ?_))
  | ((with_reducible refine LD ?_); refine Ji rfl rfl rfl ?_)
  | ((with_reducible refine LJ ?_); first | refine GO rfl rfl ?_ | refine FR rfl rfl ?_ | refine FQ rfl rfl ?_ | refine FT rfl rfl ?_)
  | ((with_reducible refine LG ?_); first | ((with_reducible refine CZ ?_); refine PI λq hq=>Dy rfl rfl rfl hq rfl ?_) | ((with_reducible refine Ca ?_); refine OV λhq=>Aae (by first | rfl | simp) rfl rfl rfl rfl hq ?_) | refine Dy rfl rfl rfl (by assumption) rfl ?_)
  | ((with_reducible refine MT ?_); refine KA rfl rfl rfl rfl trivial ?_)
  | ((with_reducible refine Lz ?_); refine Je rfl rfl rfl rfl rfl ?_)
  | ((with_reducible refine LN ?_); refine Jm rfl ?_)
  | ((with_reducible refine MS ?_); first | ((with_reducible refine CZ ?_); refine PI λq hq=>TH rfl rfl rfl rfl rfl rfl rfl (by simp) hq rfl rfl rfl rfl rfl ?_) | refine Lr rfl rfl rfl rfl rfl rfl rfl rfl rfl ?_ | refine Ls rfl rfl rfl rfl rfl rfl rfl rfl rfl (by repeat' first | exact EvL.nil rfl | apply EvL.cons rfl) ?_ | refine TH rfl rfl rfl rfl rfl rfl rfl (by simp) (by assumption) rfl rfl rfl rfl rfl ?_)
  | ((with_reducible refine LI ?_); first | ((with_reducible refine CZ ?_); refine PI λq hq=>Fu rfl rfl rfl (CB hq) rfl (by repeat' first | exact EvL.nil rfl | apply EvL.cons rfl) ?_) | refine Fu rfl rfl rfl rfl rfl (by repeat' first | exact EvL.nil rfl | apply EvL.cons rfl) ?_ | refine IB rfl rfl rfl (by repeat' first | exact EvL.nil rfl | apply EvL.cons rfl) ?_ | refine Fu rfl rfl rfl (CB (by assumption)) rfl (by repeat' first | exact EvL.nil rfl | apply EvL.cons rfl) ?_)
  | ((with_reducible refine JZ ?_); refine Ix inferInstance rfl rfl rfl (by simp) rfl rfl rfl ?_)
  | ((with_reducible refine Lu ?_); ((with_reducible refine Ca ?_); refine OV λhq=>Acs _ _ _ rfl rfl rfl rfl rfl rfl rfl (by first | (simp; done) | (simp; omega)) (by first | rfl | exact QW _ _ rfl | exact QW _ _ (by simp) | exact Aei _ _ _ | simp [List.map_take]) rfl rfl (by simp) (by first | rfl | exact Qz _ _ rfl | exact Qz _ _ (by simp)) (λ_=>rfl) rfl hq ?_))
  | ((with_reducible refine Ly ?_); refine Lp rfl (by repeat' first | apply EvP.cons rfl | exact EvP.nil rfl) rfl (by repeat' first | exact EvL.nil rfl | apply EvL.cons rfl) ?_)
  | ((with_reducible refine LA ?_); refine Jf rfl rfl ?_)
  | ((with_reducible refine LM ?_); ((with_reducible refine Ca ?_); refine OV λhq=>Lq inferInstance rfl rfl rfl rfl hq rfl ?_))
  | ((with_reducible refine IJ ?_); refine Hu rfl rfl rfl ?_)
  | ((with_reducible refine Kb ?_); refine JQ rfl rfl rfl ?_)
  | ((with_reducible refine Kd ?_); refine JR rfl rfl rfl (by repeat' first | exact EvL.nil rfl | apply EvL.cons rfl) ?_)
  | ((with_reducible refine LC ?_); first | refine Iy rfl rfl rfl ?_ | refine Iz rfl rfl rfl ?_)
  | ((with_reducible refine LB ?_); refine Jg rfl rfl rfl rfl (by repeat' first | exact trivial | refine ⟨rfl,?_⟩) rfl ?_)
  | ((with_reducible refine LK ?_); refine Jk rfl rfl rfl ?_)
  | ((with_reducible refine LL ?_); refine Jl rfl rfl rfl ?_)
  | ((with_reducible refine LO ?_); ((with_reducible refine Ca ?_); first | refine OV λhq=>Adf rfl rfl rfl (λ_=>rfl) rfl hq ?_ | refine OV λhq=>EL rfl rfl rfl (λ_=>rfl) rfl hq ?_ | refine OV λhq=>Acv (by first | rfl | simp) rfl rfl rfl rfl rfl hq ?_ | refine OV λhq=>ZC (by first | rfl | simp) rfl rfl rfl rfl rfl hq ?_ | refine OV λhq=>GP rfl rfl rfl rfl (λ_=>rfl) rfl hq ?_))
  | ((with_reducible refine Ke ?_); refine Fj (by kernel_rfl) ?_)
  )
 exact h.h) : p:=f ⟨⟩ ⟨hq⟩
theorem B {p : Prop} (h : p:=by
 repeat' first
 | ((with_reducible refine LF ?_); first | ((with_reducible refine Nn ?_); refine AbY rfl ?_ ?_) | refine Jo rfl ?_)
 | ((with_reducible refine MN ?_); refine Ky rfl rfl ?_)
 | with_reducible refine Jn ?_
 | ((with_reducible refine Kc ?_); first | refine Ik rfl rfl ?_ | refine GM rfl rfl ?_)
 | ((with_reducible refine LH ?_); first | ((with_reducible refine CZ ?_); refine PI λq hq=>Ft rfl rfl rfl (CB hq) rfl ?_) | refine Ft rfl rfl rfl rfl rfl ?_ | refine IA rfl rfl rfl ?_ | refine Ft rfl rfl rfl (CB (by assumption)) rfl ?_)
 | ((with_reducible refine Lx ?_); first | ((with_reducible refine Ca ?_); first | refine OV λhq=>Fw rfl rfl rfl rfl (by first | exact hq | exact ⟨rfl,hq⟩) ?_ | refine OV λhq=>Df rfl rfl rfl rfl hq ?_) | refine Fw rfl rfl rfl rfl (by first | exact rfl | exact trivial | assumption | decide | exact ⟨rfl,by assumption⟩ | exact ⟨rfl,by decide⟩) ?_ | refine Df rfl rfl rfl rfl trivial ?_)
 | with_reducible refine KE ?_
 | with_reducible refine KB ?_
 | with_reducible refine Jp ?_
 | ((with_reducible refine Lv ?_); first | refine Jd rfl rfl ?_ | ((with_reducible refine Ca ?_); refine OV λhq=>FO rfl rfl rfl hq ?_) | refine Hg inferInstance rfl rfl ?_ | refine GL rfl rfl ?_ | refine FP (by first | rfl | simp) rfl rfl rfl ?_ | refine GK (by first | rfl | simp) rfl rfl rfl ?_ | refine Fg rfl rfl rfl ?_)
 | with_reducible refine Eo ?_
 | with_reducible refine FW ?_
 | with_reducible refine Fq ?_
 | with_reducible refine Io ?_
 | with_reducible refine Jr ?_
 | with_reducible refine KC ?_
 | with_reducible refine Jq ?_
 | with_reducible refine FU ?_
 | with_reducible refine FV ?_
 | with_reducible refine Fo ?_
 | with_reducible refine Fk ?_
 | with_reducible refine Fp ?_
 | with_reducible refine EN ?_
 | with_reducible refine Fm ?_
 | ((with_reducible refine MU ?_); refine Fl rfl ?_)
 | ((with_reducible refine MV ?_); refine EM rfl ?_)
 | ((with_reducible refine MM ?_); first | refine AaT rfl ?_ ?_ | refine Fs rfl ?_ | refine EO rfl ?_)
 | ((with_reducible refine Kf ?_); first | refine EK rfl rfl rfl rfl ?_ | refine En rfl rfl rfl rfl ?_)
 | ((with_reducible refine Ka ?_); first | ((with_reducible refine CZ ?_); first | (refine ED rfl rfl rfl rfl rfl ?_ ?_ (λ_=>rfl) λ_ _=>?_; (· simp); (· (repeat' first | exact ⟨rfl,(by first | rfl | (simp only [Nw]; rfl) | (simp only [NA]; rfl) | (simp only [Nw,NA]; rfl))⟩ | refine exP ?_ | refine exU ?_ | apply Exists.intro | (dsimp only; exact ⟨rfl,(by first | rfl | (simp only [Nw]; rfl) | (simp only [NA]; rfl) | (simp only [Nw,NA]; rfl))⟩)))) | (refine Gn rfl rfl rfl rfl rfl ?_ ?_ λ_ _=>?_; (· simp); (· (repeat' first | exact ⟨rfl,(by first | rfl | (simp only [Nw]; rfl) | (simp only [NA]; rfl) | (simp only [Nw,NA]; rfl))⟩ | refine exP ?_ | refine exU ?_ | apply Exists.intro | (dsimp only; exact ⟨rfl,(by first | rfl | (simp only [Nw]; rfl) | (simp only [NA]; rfl) | (simp only [Nw,NA]; rfl))⟩)))) | (refine Gm rfl rfl rfl rfl rfl ?_ ?_ (λ_=>rfl) λ_ _=>?_; (· simp); (· (repeat' first | exact ⟨rfl,(by first | rfl | (simp only [Nw]; rfl) | (simp only [NA]; rfl) | (simp only [Nw,NA]; rfl))⟩ | refine exP ?_ | refine exU ?_ | apply Exists.intro | (dsimp only; exact ⟨rfl,(by first | rfl | (simp only [Nw]; rfl) | (simp only [NA]; rfl) | (simp only [Nw,NA]; rfl))⟩)))) | (refine Fx rfl rfl rfl rfl rfl ?_ ?_ λ_ _=>?_; (· simp); (· (repeat' first | exact ⟨rfl,(by first | rfl | (simp only [Nw]; rfl) | (simp only [NA]; rfl) | (simp only [Nw,NA]; rfl))⟩ | refine exP ?_ | refine exU ?_ | apply Exists.intro | (dsimp only; exact ⟨rfl,(by first | rfl | (simp only [Nw]; rfl) | (simp only [NA]; rfl) | (simp only [Nw,NA]; rfl))⟩)))) | (refine Gl rfl rfl rfl rfl rfl ?_ ?_ λ_ _=>?_; (· simp); (· (repeat' first | exact ⟨rfl,(by first | rfl | (simp only [Nw]; rfl) | (simp only [NA]; rfl) | (simp only [Nw,NA]; rfl))⟩ | refine exP ?_ | refine exU ?_ | apply Exists.intro | (dsimp only; exact ⟨rfl,(by first | rfl | (simp only [Nw]; rfl) | (simp only [NA]; rfl) | (simp only [Nw,NA]; rfl))⟩))))) | (refine EE rfl rfl rfl rfl rfl (by assumption) ?_ ?_ rfl ?_; (· simp); (· (repeat' first | exact ⟨rfl,(by first | rfl | (simp only [Nw]; rfl) | (simp only [NA]; rfl) | (simp only [Nw,NA]; rfl))⟩ | refine exP ?_ | refine exU ?_ | apply Exists.intro | (dsimp only; exact ⟨rfl,(by first | rfl | (simp only [Nw]; rfl) | (simp only [NA]; rfl) | (simp only [Nw,NA]; rfl))⟩)))) | (refine Gr rfl rfl rfl rfl rfl (by assumption) ?_ ?_ ?_; (· simp); (· (repeat' first | exact ⟨rfl,(by first | rfl | (simp only [Nw]; rfl) | (simp only [NA]; rfl) | (simp only [Nw,NA]; rfl))⟩ | refine exP ?_ | refine exU ?_ | apply Exists.intro | (dsimp only; exact ⟨rfl,(by first | rfl | (simp only [Nw]; rfl) | (simp only [NA]; rfl) | (simp only [Nw,NA]; rfl))⟩)))) | (refine Gq rfl rfl rfl rfl rfl (by assumption) ?_ ?_ rfl ?_; (· simp); (· (repeat' first | exact ⟨rfl,(by first | rfl | (simp only [Nw]; rfl) | (simp only [NA]; rfl) | (simp only [Nw,NA]; rfl))⟩ | refine exP ?_ | refine exU ?_ | apply Exists.intro | (dsimp only; exact ⟨rfl,(by first | rfl | (simp only [Nw]; rfl) | (simp only [NA]; rfl) | (simp only [Nw,NA]; rfl))⟩)))) | (refine Fy rfl rfl rfl rfl rfl (by assumption) ?_ ?_ ?_; (· simp); (· (repeat' first | exact ⟨rfl,(by first | rfl | (simp only [Nw]; rfl) | (simp only [NA]; rfl) | (simp only [Nw,NA]; rfl))⟩ | refine exP ?_ | refine exU ?_ | apply Exists.intro | (dsimp only; exact ⟨rfl,(by first | rfl | (simp only [Nw]; rfl) | (simp only [NA]; rfl) | (simp only [Nw,NA]; rfl))⟩)))) | (refine Gp rfl rfl rfl rfl rfl (by assumption) ?_ ?_ ?_; (· simp); (· (repeat' first | exact ⟨rfl,(by first | rfl | (simp only [Nw]; rfl) | (simp only [NA]; rfl) | (simp only [Nw,NA]; rfl))⟩ | refine exP ?_ | refine exU ?_ | apply Exists.intro | (dsimp only; exact ⟨rfl,(by first | rfl | (simp only [Nw]; rfl) | (simp only [NA]; rfl) | (simp only [Nw,NA]; rfl))⟩)))) | ((with_reducible refine Ca ?_); first | refine OV λhq=>GN rfl rfl rfl rfl rfl (by first | rfl | simp) rfl hq rfl ?_ | refine OV λhq=>Il rfl rfl rfl rfl rfl (by first | rfl | simp) rfl hq rfl ?_ | refine OV λhq=>Fi rfl rfl rfl rfl rfl (by first | rfl | simp) rfl hq (by exact Ee _) rfl ?_))
 | ((with_reducible refine LD ?_); refine Ji rfl rfl rfl ?_)
 | ((with_reducible refine LJ ?_); first | refine GO rfl rfl ?_ | refine FR rfl rfl ?_ | refine FQ rfl rfl ?_ | refine FT rfl rfl ?_)
 | ((with_reducible refine LG ?_); first | ((with_reducible refine CZ ?_); refine PI λq hq=>Dy rfl rfl rfl hq rfl ?_) | ((with_reducible refine Ca ?_); refine OV λhq=>Aae (by first | rfl | simp) rfl rfl rfl rfl hq ?_) | refine Dy rfl rfl rfl (by assumption) rfl ?_)
 | ((with_reducible refine MT ?_); refine KA rfl rfl rfl rfl trivial ?_)
 | ((with_reducible refine Lz ?_); refine Je rfl rfl rfl rfl rfl ?_)
 | ((with_reducible refine LN ?_); refine Jm rfl ?_)
 | ((with_reducible refine MS ?_); first | ((with_reducible refine CZ ?_); refine PI λq hq=>TH rfl rfl rfl rfl rfl rfl rfl (by simp) hq rfl rfl rfl rfl rfl ?_) | refine Lr rfl rfl rfl rfl rfl rfl rfl rfl rfl ?_ | refine Ls rfl rfl rfl rfl rfl rfl rfl rfl rfl (by repeat' first | exact EvL.nil rfl | apply EvL.cons rfl) ?_ | refine TH rfl rfl rfl rfl rfl rfl rfl (by simp) (by assumption) rfl rfl rfl rfl rfl ?_)
 | ((with_reducible refine LI ?_); first | ((with_reducible refine CZ ?_); refine PI λq hq=>Fu rfl rfl rfl (CB hq) rfl (by repeat' first | exact EvL.nil rfl | apply EvL.cons rfl) ?_) | refine Fu rfl rfl rfl rfl rfl (by repeat' first | exact EvL.nil rfl | apply EvL.cons rfl) ?_ | refine IB rfl rfl rfl (by repeat' first | exact EvL.nil rfl | apply EvL.cons rfl) ?_ | refine Fu rfl rfl rfl (CB (by assumption)) rfl (by repeat' first | exact EvL.nil rfl | apply EvL.cons rfl) ?_)
 | ((with_reducible refine JZ ?_); refine Ix inferInstance rfl rfl rfl (by simp) rfl rfl rfl ?_)
 | ((with_reducible refine Lu ?_); ((with_reducible refine Ca ?_); refine OV λhq=>Acs _ _ _ rfl rfl rfl rfl rfl rfl rfl (by first | (simp; done) | (simp; omega)) (by first | rfl | exact QW _ _ rfl | exact QW _ _ (by simp) | exact Aei _ _ _ | simp [List.map_take]) rfl rfl (by simp) (by first | rfl | exact Qz _ _ rfl | exact Qz _ _ (by simp)) (λ_=>rfl) rfl hq ?_))
 | ((with_reducible refine Ly ?_); refine Lp rfl (by repeat' first | apply EvP.cons rfl | exact EvP.nil rfl) rfl (by repeat' first | exact EvL.nil rfl | apply EvL.cons rfl) ?_)
 | ((with_reducible refine LA ?_); refine Jf rfl rfl ?_)
 | ((with_reducible refine LM ?_); ((with_reducible refine Ca ?_); refine OV λhq=>Lq inferInstance rfl rfl rfl rfl hq rfl ?_))
 | ((with_reducible refine IJ ?_); refine Hu rfl rfl rfl ?_)
 | ((with_reducible refine Kb ?_); refine JQ rfl rfl rfl ?_)
 | ((with_reducible refine Kd ?_); refine JR rfl rfl rfl (by repeat' first | exact EvL.nil rfl | apply EvL.cons rfl) ?_)
 | ((with_reducible refine LC ?_); first | refine Iy rfl rfl rfl ?_ | refine Iz rfl rfl rfl ?_)
 | ((with_reducible refine LB ?_); refine Jg rfl rfl rfl rfl (by repeat' first | exact trivial | refine ⟨rfl,?_⟩) rfl ?_)
 | ((with_reducible refine LK ?_); refine Jk rfl rfl rfl ?_)
 | ((with_reducible refine LL ?_); refine Jl rfl rfl rfl ?_)
 | ((with_reducible refine LO ?_); ((with_reducible refine Ca ?_); first | refine OV λhq=>Adf rfl rfl rfl (λ_=>rfl) rfl hq ?_ | refine OV λhq=>EL rfl rfl rfl (λ_=>rfl) rfl hq ?_ | refine OV λhq=>Acv (by first | rfl | simp) rfl rfl rfl rfl rfl hq ?_ | refine OV λhq=>ZC (by first | rfl | simp) rfl rfl rfl rfl rfl hq ?_ | refine OV λhq=>GP rfl rfl rfl rfl (λ_=>rfl) rfl hq ?_))
 | ((with_reducible refine Ke ?_); refine Fj (by kernel_rfl) ?_)
 | ((with_reducible refine MR ?_); exact Uz rfl (by first | (simp; done) | (simp; omega) | rfl | (simp [OK,OP]; done)) (by first | rfl | (simp only [Nw]; rfl) | (simp only [NA]; rfl) | (simp only [Nw,NA]; rfl)) rfl (by first | (simp; done) | (simp; omega) | rfl | (simp [OK,OP]; done)) (by first | rfl | (simp only [Nw]; rfl) | (simp only [NA]; rfl) | (simp only [Nw,NA]; rfl)))
 | ((with_reducible refine Mj ?_); exact Rb rfl (by first | (simp; done) | (simp; omega) | rfl | (simp [OK,OP]; done)) (by first | rfl | (simp only [Nw]; rfl) | (simp only [NA]; rfl) | (simp only [Nw,NA]; rfl)) rfl (by first | (simp; done) | (simp; omega) | rfl | (simp [OK,OP]; done)) (by first | rfl | (simp only [Nw]; rfl) | (simp only [NA]; rfl) | (simp only [Nw,NA]; rfl)) (by decide))
 | ((with_reducible refine Kg ?_); exact JH rfl (by first | (simp; done) | (simp; omega) | rfl | (simp [OK,OP]; done)) (by first | rfl | (simp only [Nw]; rfl) | (simp only [NA]; rfl) | (simp only [Nw,NA]; rfl)) rfl (by first | (simp; done) | (simp; omega) | rfl | (simp [OK,OP]; done)) (by first | rfl | (simp only [Nw]; rfl) | (simp only [NA]; rfl) | (simp only [Nw,NA]; rfl)))
 | ((with_reducible refine JB ?_); exact Hf rfl (by first | (simp; done) | (simp; omega) | rfl | (simp [OK,OP]; done)) (by first | rfl | (simp only [Nw]; rfl) | (simp only [NA]; rfl) | (simp only [Nw,NA]; rfl)) rfl (by first | (simp; done) | (simp; omega) | rfl | (simp [OK,OP]; done)) (by first | rfl | (simp only [Nw]; rfl) | (simp only [NA]; rfl) | (simp only [Nw,NA]; rfl)) (by decide))
 | ((with_reducible refine MP ?_); exact Mv rfl (by first | (simp; done) | (simp; omega) | rfl | (simp [OK,OP]; done)) (by first | rfl | (simp only [Nw]; rfl) | (simp only [NA]; rfl) | (simp only [Nw,NA]; rfl)) rfl (by first | (simp; done) | (simp; omega) | rfl | (simp [OK,OP]; done)) rfl (by first | (simp; done) | (simp; omega) | rfl | (simp [OK,OP]; done)) (congrArg D.sl (Qz _ _ (by first | rfl | simp))) rfl)
 | ((with_reducible refine MO ?_); exact Mu rfl (by first | (simp; done) | (simp; omega) | rfl | (simp [OK,OP]; done)) rfl (by first | (simp; done) | (simp; omega) | rfl | (simp [OK,OP]; done)) (by first | rfl | (simp only [Nw]; rfl) | (simp only [NA]; rfl) | (simp only [Nw,NA]; rfl)) rfl (by first | (simp; done) | (simp; omega) | rfl | (simp [OK,OP]; done)) (by first | rfl | (simp only [Nw]; rfl) | (simp only [NA]; rfl) | (simp only [Nw,NA]; rfl)))
 | ((with_reducible refine MQ ?_); exact JI (by decide) (by decide) rfl (by first | (simp; done) | (simp; omega) | rfl | (simp [OK,OP]; done)) rfl (by first | (simp; done) | (simp; omega) | rfl | (simp [OK,OP]; done)) rfl (by first | (simp; done) | (simp; omega) | rfl | (simp [OK,OP]; done)) rfl (by first | (simp; done) | (simp; omega) | rfl | (simp [OK,OP]; done)) (by first | rfl | (simp only [Nw]; rfl) | (simp only [NA]; rfl) | (simp only [Nw,NA]; rfl)) rfl (by first | (simp; done) | (simp; omega) | rfl | (simp [OK,OP]; done)) rfl)
 | with_reducible refine Nl ?_
 | with_reducible refine Hw ?_
 | with_reducible refine Ir ?_
 | with_reducible refine MH ?_
 | refine LQ (by assumption) rfl ?_ ?_
 | refine Wq ?_ ?_
 | exact trivial
 | refine ⟨rfl,?_⟩
 | refine ⟨Mq rfl (by simp),?_⟩
 | refine ⟨OI rfl,?_⟩
 | refine ⟨AaJ (Yg _ rfl),?_⟩
 | refine ⟨AaJ (Yh rfl (by first | rfl | simp) rfl (by first | exact .head _ | exact .tail _ (.head _) | exact .tail _ (.tail _ (.head _)) | exact .tail _ (.tail _ (.tail _ (.head _))))),?_⟩
 | refine ⟨AaJ (EU rfl (by omega) rfl (by first | exact .head _ | exact .tail _ (.head _) | exact .tail _ (.tail _ (.head _)) | exact .tail _ (.tail _ (.tail _ (.head _))))),?_⟩
 | refine ⟨AaA rfl (by repeat' first | exact trivial | refine ⟨UF rfl,?_⟩ | refine ⟨Yg _ rfl,?_⟩ | refine ⟨Yh rfl (by first | rfl | simp) rfl (by first | exact .head _ | exact .tail _ (.head _) | exact .tail _ (.tail _ (.head _)) | exact .tail _ (.tail _ (.tail _ (.head _)))),?_⟩ | refine ⟨EU rfl (by omega) rfl (by first | exact .head _ | exact .tail _ (.head _) | exact .tail _ (.tail _ (.head _)) | exact .tail _ (.tail _ (.tail _ (.head _)))),?_⟩),?_⟩
 | refine ⟨.inl rfl,?_⟩
 | refine ⟨.inr ⟨_,_,_,_,rfl,rfl,rfl,rfl,AaA rfl (by repeat' first | exact trivial | refine ⟨UF rfl,?_⟩ | refine ⟨Yg _ rfl,?_⟩ | refine ⟨Yh rfl (by first | rfl | simp) rfl (by first | exact .head _ | exact .tail _ (.head _) | exact .tail _ (.tail _ (.head _)) | exact .tail _ (.tail _ (.tail _ (.head _)))),?_⟩ | refine ⟨EU rfl (by omega) rfl (by first | exact .head _ | exact .tail _ (.head _) | exact .tail _ (.tail _ (.head _)) | exact .tail _ (.tail _ (.tail _ (.head _)))),?_⟩)⟩,?_⟩
 | refine ⟨.inr ⟨_,_,_,_,rfl,rfl,rfl,rfl,AaJ (Yg _ rfl)⟩,?_⟩
 | refine ⟨.inr ⟨_,_,_,_,rfl,rfl,rfl,rfl,AaJ (Yh rfl (by first | rfl | simp) rfl (by first | exact .head _ | exact .tail _ (.head _) | exact .tail _ (.tail _ (.head _)) | exact .tail _ (.tail _ (.tail _ (.head _)))))⟩,?_⟩
 | refine exP ?_
 | refine exU ?_
 | apply Exists.intro
 ) : p:=h
end Go.Dw
namespace Go.Dw
inductive FrL : List D -> List D -> Prop
 | nil : FrL [] []
 | same (c : D) {l l' : List D} (h : FrL l l') : FrL (c :: l) (c :: l')
 | row {s ty : Nat} {es l l' : List D} (hp : ∀ q ∈ es,AG q = true) (h : FrL l l') : FrL (.row s ty es :: l) (.sl es :: l')
theorem FrL.frr : ∀ {cs cs' : List D},FrL cs cs' -> cs'.length = cs.length /\ ∀ (j : Nat) c c',cs[j]? = some c -> cs'[j]? = some c' -> c' = c \/ ∃ s ty es,c = .row s ty es /\ (∀ q ∈ es,AG q = true) /\ c' = .sl es
 | _,_,.nil=>⟨rfl,λj c c' h=>by simp at h⟩
 | _,_,.same c h=>by
  obtain ⟨h1,h2⟩:=h.frr
  refine ⟨by simp [h1],λj a b ha hb=>?_⟩
  rcases j with _ | j
  ·simp at ha hb; subst ha; subst hb; exact .inl rfl
  ·exact h2 j a b (by simpa using ha) (by simpa using hb)
 | _,_,.row (s:=s) (ty:=ty) (es:=es) hp h=>by
  obtain ⟨h1,h2⟩:=h.frr
  refine ⟨by simp [h1],λj a b ha hb=>?_⟩
  rcases j with _ | j
  ·simp at ha hb; subst ha; subst hb; exact .inr ⟨s,ty,es,rfl,hp,rfl⟩
  ·exact h2 j a b (by simpa using ha) (by simpa using hb)
theorem KQ {R : D -> D -> Prop} {z z' : D} (h : R z z') : Each R [z] [z']:=by
 refine ⟨rfl,λi e e' h1 h2=>?_⟩
 rcases i with _ | i
 ·simp at h1 h2; subst h1; subst h2; exact h
 ·simp at h1
theorem AhT {cs cs' : List D} (h : FrL cs cs') : Each Frr [.agg cs] [.agg cs']:=KQ h.frr
inductive HF : List D -> List D -> Prop
 | nil : HF [] []
 | same {c : D} (hc : plain c = true) {l l' : List D} (h : HF l l') : HF (c :: l) (c :: l')
 | row {s ty : Nat} {l l' : List D} (hs : 0 < s) (h : HF l l') : HF (.nils :: l) (.row s ty [] :: l')
section
variable {Γ : Ar} {X : Type} {K : KR X} {t : Option X} {e : List (Nat × D)} {o : List (Nat × Aa)} {n nv : Nat} {d : Bool} {acc : List CG}
 {r : List At} {g : Option (Nat × Bool)} {af : List Nat} {α : Type} {x y : Arg} {s ty gi vi off : Nat} {z z' : D} {l : List α} {en : α -> D}
theorem ZD {g' v' q s' ty' : Nat} (hg : gOn e g = true) (hx : Ab e x = some (.optr gi vi 0 off)) (hy : Ab e y = some (.osl g' v' 0 q)) (hq : q = l.length) (ho : lkO o gi = some (vi,⟨false,true,s,ty,[z]⟩)) (ho' : lkO o g' = some (v',⟨false,false,s',ty',l.map en⟩))
  (hp : ∀ q,AG (en q) = true) (hb : Nat.ble (off + 1) (cells z).length = true) (hz : Pl z off [.row s' ty' (l.map en)] = z')
  (h : TrO Γ r (nv + 1) ⟨e,(gi,some (vi,⟨false,true,s,ty,[z']⟩)) :: (g',none) :: o,n⟩ d (acc ++ [(gK g ++ (rdK x ++ (rdK y ++ [.o gi,.o g'])),[.o gi,.o g'],af)]) K t) (hrg : Ac gi = true:=by rfl) (hne : Nat.beq g' gi = false:=by rfl) :
  TrO Γ (⟨none,.st 1 x y,g,af⟩ :: r) nv ⟨e,o,n⟩ d acc K t:=by
 subst hq
 have hne' : g' ≠ gi:=λh=>by subst h; simp at hne
 have hpl:=AcO (l:=l) (en:=en) hp
 refine PM (i:=0) (v:=.osl g' v' 0 l.length) (cs':=[.row s' ty' (l.map en)]) (wo:=[(g',none)]) (rk:=[.o g']) (z:=z) (es':=[z'])
  (c:=(v' = v' /\ false = false /\ l.length <= (l.map en).length /\ ∀ e ∈ l.map en,AG e = true) /\ True /\ ([] : List (Nat × Aa)).all (λx=>([(g',none)] : List (Nat × Aa)).all λy=>x.1 != y.1) = true)
  hg hx hy rfl ho ?_ ?_ ⟨⟨rfl,rfl,by simp,hpl⟩,trivial,rfl⟩ rfl rfl rfl hb (by simp [hz]) (by simp [hne']) (by simpa using h) hrg
 ·simp only [cells,AF,Bh,R.run_bind,R.BI,AN,ho',R.AO,R.run_pure,Bool.false_eq_true,if_false]
  simp
 ·simp only [cells,AF,Bh,R.Bk,R.Dv,R.BI,AN,ho',R.AO,R.Dh,R.CD,Bool.false_eq_true,if_false]
  simp
end
end Go.Dw
namespace Go.Dw
theorem Cp (a cs : List D) : ∀ (new : List D) (k : Nat),setAt (a ++ cs) (a.length + k) new = a ++ setAt cs k new:=by
 intro new
 induction new generalizing cs with
 | nil=>intro k; rfl
 | cons x new ih =>
  intro k
  show setAt ((a ++ cs).set (a.length + k) x) (a.length + k + 1) new = a ++ setAt (cs.set k x) (k + 1) new
  rw [List.set_append_right _ _ (by omega),show a.length + k - a.length = k by omega,Nat.add_assoc,ih]
theorem Di (b : List D) : ∀ (new cs : List D) (k : Nat),k + new.length <= cs.length -> setAt (cs ++ b) k new = setAt cs k new ++ b
 | [],_,_,_=>rfl
 | x :: new,cs,k,h=>by
  simp only [List.length_cons] at h
  show setAt ((cs ++ b).set k x) (k + 1) new = setAt (cs.set k x) (k + 1) new ++ b
  rw [List.set_append_left _ _ (by omega),Di b new _ _ (by simp; omega)]
theorem Hp : ∀ (new cs : List D),cs.length = new.length -> setAt cs 0 new = new
 | [],cs,h=>List.eq_nil_of_length_eq_zero h
 | x :: new,[],h=>by simp at h
 | x :: new,y :: cs,h=>by
  show setAt (x :: cs) 1 new = x :: new
  have:=Cp [x] cs new 0
  simp only [List.singleton_append,List.length_singleton,Nat.add_zero] at this
  rw [this,Hp new cs (by simpa using h)]
section
variable {α : Type} {c : α -> List D} {w : Nat}
theorem DL {l : List α} {j : Nat} {q : α} (hq : l[j]? = some q) : l.flatMap c = (l.take j).flatMap c ++ (c q ++ (l.drop (j + 1)).flatMap c):=by
 obtain ⟨hj,rfl⟩:=List.getElem?_eq_some_iff.1 hq
 have e : l = l.take j ++ l[j] :: l.drop (j + 1):=by rw [List.getElem_cons_drop hj,List.take_append_drop]
 conv=>lhs; rw [e]
 simp only [List.flatMap_append,List.flatMap_cons]
variable (hw : ∀ q,(c q).length = w)
include hw
theorem IF : ∀ l : List α,(l.flatMap c).length = l.length * w
 | []=>by simp
 | q :: l=>by simp [hw,IF l,Nat.add_mul,Nat.add_comm]
theorem GU {l : List α} {j : Nat} (hj : j <= l.length) : ((l.take j).flatMap c).length = j * w:=by
 rw [IF hw,List.length_take,Nat.min_eq_left hj]
theorem LW {pre post : List D} {l : List α} {j : Nat} {q : α} (hq : l[j]? = some q) : ((pre ++ (l.flatMap c ++ post)).drop (pre.length + j * w)).take w = c q:=by
 have hj:=(List.getElem?_eq_some_iff.1 hq).1
 have hp:=GU hw (Nat.le_of_lt hj)
 rw [DL (c:=c) hq,List.append_assoc,List.append_assoc,<- List.append_assoc pre,List.drop_append_of_le_length (by simp [hp]),List.drop_of_length_le (by simp [hp]),List.nil_append,List.take_append_of_le_length (by simp [hw]),List.take_of_length_le (by simp [hw])]
theorem LX {pre post : List D} {l : List α} {j fo : Nat} {q : α} (hq : l[j]? = some q) (hf : fo < w) : (pre ++ (l.flatMap c ++ post)).getD (pre.length + j * w + fo) .top = (c q).getD fo .top:=by
 have hj:=(List.getElem?_eq_some_iff.1 hq).1
 have hp:=GU hw (Nat.le_of_lt hj)
 have hc:=hw q
 rw [DL (c:=c) hq,List.append_assoc,List.append_assoc,<- List.append_assoc pre]
 rw [List.getD_eq_getElem?_getD,List.getD_eq_getElem?_getD,List.getElem?_append_right (by simp [hp]),show pre.length + j * w + fo - (pre ++ (l.take j).flatMap c).length = fo by simp [hp],List.getElem?_append_left (by omega)]
theorem LY {pre post : List D} {l : List α} {j : Nat} {q q' : α} (hq : l[j]? = some q) : setAt (pre ++ (l.flatMap c ++ post)) (pre.length + j * w) (c q') = pre ++ ((l.set j q').flatMap c ++ post):=by
 have hj:=(List.getElem?_eq_some_iff.1 hq).1
 have hp:=GU hw (Nat.le_of_lt hj)
 have e2 : (l.set j q')[j]? = some q':=List.getElem?_set_self hj
 rw [Cp,DL (c:=c) hq,DL (c:=c) e2,List.append_assoc,List.append_assoc,List.append_assoc,List.append_assoc]
 rw [show j * w = ((l.take j).flatMap c).length + 0 by rw [hp]; rfl,Cp,Di _ _ _ _ (by simp [hw]),Hp _ _ (by simp [hw]),List.take_set_of_le (Nat.le_refl _),List.drop_set_of_lt (by omega)]
end
section
variable {Γ : Ar} {X : Type} {K : KR X} {t : Option X} {e : List (Nat × D)} {o : List (Nat × Aa)} {n nv : Nat} {d : Bool} {acc : List CG}
 {r : List At} {dst : Nat} {g : Option (Nat × Bool)} {af : List Nat} {α : Type}
variable {x y : Arg} {v z z' : D} {s ty gi vi off w j : Nat} {fz var : Bool} {l : List α} {c : α -> List D} {q q' : α}
theorem TD (b b' : Nat) (hw : ∀ q,(c q).length = w) (hj : off = b + j * w) (hg : gOn e g = true) (hx : Ab e x = some (.optr gi vi 0 off)) (ho : lkO o gi = some (vi,⟨fz,var,s,ty,[z]⟩))
  (hc : cells z = (cells z).take b ++ (l.flatMap c ++ (cells z).drop b')) (hb : ((cells z).take b).length = b) (hbl : Nat.ble (b + l.length * w) (cells z).length = true) (hq : l[j]? = some q) (hv : D.agg (c q) = v)
  (h : TrO Γ r (nv + 1) ⟨(dst,v) :: e,o,n⟩ d (acc ++ [(gK g ++ (rdK x ++ [.o gi]),[.e dst],af)]) K t) (hpl : (plain v || !Ac gi) = true:=by rfl) :
  TrO Γ (⟨some dst,.ld w true x,g,af⟩ :: r) nv ⟨e,o,n⟩ d acc K t:=by
 subst hj
 have hl:=(List.getElem?_eq_some_iff.1 hq).1
 have hm:=Nat.mul_le_mul_right w (show j + 1 <= l.length by omega)
 rw [Nat.add_mul,Nat.one_mul] at hm
 have hbl:=Nat.le_of_ble_eq_true hbl
 refine CM (i:=0) (m:=w) (agg:=true) (z:=z) (v:=v) hg hx ho rfl (Nat.ble_eq_true_of_le (by omega)) ?_ h hpl
 subst hv
 simp only [QJ,if_true]
 congr 1
 conv=>lhs; rw [hc]
 have:=LW hw (pre:=(cells z).take b) (post:=(cells z).drop b') hq
 rw [hb] at this
 exact this
theorem AoZ (b b' fo : Nat) (hw : ∀ q,(c q).length = w) (hj : off = b + j * w + fo) (hg : gOn e g = true) (hx : Ab e x = some (.optr gi vi 0 off)) (ho : lkO o gi = some (vi,⟨fz,var,s,ty,[z]⟩))
  (hc : cells z = (cells z).take b ++ (l.flatMap c ++ (cells z).drop b')) (hb : ((cells z).take b).length = b) (hbl : Nat.ble (b + l.length * w) (cells z).length = true) (hf : Nat.ble (fo + 1) w = true) (hq : l[j]? = some q) (hv : (c q).getD fo .top = v)
  (h : TrO Γ r (nv + 1) ⟨(dst,v) :: e,o,n⟩ d (acc ++ [(gK g ++ (rdK x ++ [.o gi]),[.e dst],af)]) K t) (hpl : (plain v || !Ac gi) = true:=by rfl) :
  TrO Γ (⟨some dst,.ld 1 false x,g,af⟩ :: r) nv ⟨e,o,n⟩ d acc K t:=by
 subst hj
 have hl:=(List.getElem?_eq_some_iff.1 hq).1
 have hm:=Nat.mul_le_mul_right w (show j + 1 <= l.length by omega)
 rw [Nat.add_mul,Nat.one_mul] at hm
 have hbl:=Nat.le_of_ble_eq_true hbl
 have hf:=Nat.le_of_ble_eq_true hf
 refine CM (i:=0) (m:=1) (agg:=false) (z:=z) (v:=v) hg hx ho rfl (Nat.ble_eq_true_of_le (by omega)) ?_ h hpl
 subst hv
 simp only [QJ,Bool.false_eq_true,if_false]
 conv=>lhs; rw [hc]
 have:=LX hw (pre:=(cells z).take b) (post:=(cells z).drop b') (fo:=fo) hq (by omega)
 rw [hb] at this
 exact this
theorem Ii {cs : List D} (b b' : Nat) (hw : ∀ q,(c q).length = w) (hc : cs = cs.take b ++ (l.flatMap c ++ cs.drop b')) (hb : (cs.take b).length = b) (hq : l[j]? = some q) : Pl (.agg cs) (b + j * w) (c q') = .agg (cs.take b ++ ((l.set j q').flatMap c ++ cs.drop b')):=by
 simp only [Pl]
 congr 1
 conv=>lhs; rw [hc]
 have:=LY hw (pre:=cs.take b) (post:=cs.drop b') (q':=q') hq
 rw [hb] at this
 exact this
theorem Xb {cs : List D} (b b' : Nat) (hw : ∀ q,(c q).length = w) (hj : off = b + j * w) (hg : gOn e g = true) (hx : Ab e x = some (.optr gi vi 0 off)) (hy : Ab e y = some (.agg (c q'))) (hs : strip (.agg (c q')) = (true,.agg (c q'))) (ho : lkO o gi = some (vi,⟨false,true,s,ty,[.agg cs]⟩))
  (hc : cs = cs.take b ++ (l.flatMap c ++ cs.drop b')) (hb : (cs.take b).length = b) (hbl : Nat.ble (b + l.length * w) cs.length = true) (hq : l[j]? = some q) (hk : known (.agg (c q')) = true) (hz : D.agg (cs.take b ++ ((l.set j q').flatMap c ++ cs.drop b')) = z')
  (h : TrO Γ r (nv + 1) ⟨e,(gi,some (vi,⟨false,true,s,ty,[z']⟩)) :: o,n⟩ d (acc ++ [(gK g ++ (rdK x ++ (rdK y ++ [.o gi])),[.o gi],af)]) K t) (hrg : Ac gi = false:=by rfl) :
  TrO Γ (⟨none,.st w x y,g,af⟩ :: r) nv ⟨e,o,n⟩ d acc K t:=by
 subst hj
 have hl:=(List.getElem?_eq_some_iff.1 hq).1
 have hm:=Nat.mul_le_mul_right w (show j + 1 <= l.length by omega)
 rw [Nat.add_mul,Nat.one_mul] at hm
 have hbl:=Nat.le_of_ble_eq_true hbl
 refine Dz (z:=.agg cs) (z':=z') (v:=.agg (c q')) hg hx hy hs ho hk (hw q') (Nat.ble_eq_true_of_le (by simp only [cells]; omega)) ?_ h hrg
 rw [<- hz]
 exact Ii b b' hw hc hb hq
theorem AhO {cs : List D} {cc : Prop} (b b' : Nat) (hw : ∀ q,(c q).length = w) (hj : off = b + j * w) (hg : gOn e g = true) (hx : Ab e x = some (.optr gi vi 0 off)) (hy : Ab e y = some (.agg (c q'))) (hs : strip (.agg (c q')) = (true,.agg (c q'))) (ho : lkO o gi = some (vi,⟨false,true,s,ty,[.agg cs]⟩))
  (hc : cs = cs.take b ++ (l.flatMap c ++ cs.drop b')) (hb : (cs.take b).length = b) (hbl : Nat.ble (b + l.length * w) cs.length = true) (hq : l[j]? = some q) (hk : known (.agg (c q')) = true) (hz : D.agg (cs.take b ++ ((l.set j q').flatMap c ++ cs.drop b')) = z')
  (hr : (AF true (c q')).run ⟨e,o,n⟩ = (cc,c q',[])) (hrd : (AF true (c q')).rd ⟨e,o,n⟩ = []) (hcc : cc)
  (h : TrO Γ r (nv + 1) ⟨e,(gi,some (vi,⟨false,true,s,ty,[z']⟩)) :: o,n⟩ d (acc ++ [(gK g ++ (rdK x ++ (rdK y ++ [.o gi])),[.o gi],af)]) K t) (hrg : Ac gi = true:=by rfl) :
  TrO Γ (⟨none,.st w x y,g,af⟩ :: r) nv ⟨e,o,n⟩ d acc K t:=by
 subst hj
 have hl:=(List.getElem?_eq_some_iff.1 hq).1
 have hm:=Nat.mul_le_mul_right w (show j + 1 <= l.length by omega)
 rw [Nat.add_mul,Nat.one_mul] at hm
 have hbl:=Nat.le_of_ble_eq_true hbl
 refine PM (i:=0) (z:=.agg cs) (v:=.agg (c q')) (c:=cc) (cs':=c q') (wo:=[]) (rk:=[]) (es':=[z']) hg hx hy hs ho hr hrd hcc rfl hk (hw q') (Nat.ble_eq_true_of_le (by simp only [cells]; omega)) ?_ rfl h hrg
 rw [<- hz]
 exact congrArg (λz=>[z]) (Ii b b' hw hc hb hq)
end
end Go.Dw
